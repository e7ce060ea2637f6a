/- The seat's Go functions come to the Lean functions written here, wherever these give an answer (part B). -/
import Derived.Test.YtfcamlibbfnldaaGreatSA
set_option linter.unusedSimpArgs false
set_option linter.unusedVariables false
set_option linter.unusedSectionVars false
set_option maxRecDepth 100000
namespace Go.Proofs.YtfcamlibbfnldaaGreat.Am
open Go.Am
@[reducible] def s393 : SP := ⟨[.slp 0 .h .h, .int .i64, .int .i64, .int .i64, .fn 385], [.row y2 391]⟩
noncomputable def tab393 (N : Nat) : List (Nat × (Pk → Tr Pk)) := [(394, T394 N)]
theorem tab393_ok (N : Nat) : TabOK Tryz.prog (tab393 N) := ⟨T394_ok N, trivial⟩
@[reducible] def L393_28 : LD := ⟨28, [10, 0, 2, 4, 11], [(.exit 0, [0, 2, 10, 4])], ⟨[.int .i64, .slp 0 .h .h, .int .i64, .fn 385, .int .i64], [.row y2 391]⟩, [(.exit 0, ⟨[.slp 0 .h .h, .int .i64, .int .i64, .fn 385], [.row y2 391]⟩)]⟩
abbrev P393_28 : Type := Int × Nat × Nat × Int × Int × (List (Int × ((List Int) × Unit)))
abbrev R393_28 : Type := Nat × Nat × Int × Int × (List (Int × ((List Int) × Unit)))
noncomputable def B393_28 (N : Nat) (f : P393_28 → Option R393_28) : P393_28 → Option R393_28
  | (x0, x1, x2, x3, x4, x5) =>
  iteP (x0 != x4) (
    iteP (decide (x0 > x4)) (
      Option.bind (F394 N (x1, x2, IntKind.wrap IntKind.i64 (x3 - x0), x3, x4, x5)) fun y0 =>
      Option.bind (f (IntKind.wrap IntKind.i64 (x0 - x4), x1, x2, x3, x4, y0)) fun r => some r) (
      Option.bind (F394 N (x1, x2, IntKind.wrap IntKind.i64 (x3 - x0), IntKind.wrap IntKind.i64 (IntKind.wrap IntKind.i64 (x3 + x4) - x0), x0, x5)) fun y1 =>
      Option.bind (f (x0, x1, x2, x3, IntKind.wrap IntKind.i64 (x4 - x0), y1)) fun r => some r)) (
    some ((x1, x2, x3, x0, x5)))
noncomputable def F393_28 (N : Nat) : Nat → P393_28 → Option R393_28
  | 0, _ => none
  | k + 1, x => B393_28 N (F393_28 N k) x
noncomputable def C393_28 (N : Nat) (k : Nat) : Cut := L393_28.cut (F393_28 N k)
theorem C393_28_ok (N : Nat) (k : Nat) : CutAt Tryz.prog false Tryz.f393 [0] 28 (C393_28 N k) :=
  L393_28.loopT ownT mix (tab393_ok N) Tryz.f393 [0] (cuts := []) trivial (by decide +kernel) (by kernel_rfl) (B393_28 N) (F393_28 N) (fun _ => rfl) (fun _ _ => rfl) (fun f x => by kernel_rfl) k
@[reducible] def w393 : List SP := [⟨[.tup []], [.row y2 391]⟩]
noncomputable def F393 (N : Nat) : (Nat × Nat × Int × Int × Int × (List (Int × ((List Int) × Unit)))) → Option ((List (Int × ((List Int) × Unit))))
  | (x0, x1, x2, x3, x4, x5) =>
  Option.bind (F393_28 N N (IntKind.wrap IntKind.i64 (x3 - x2), x0, x1, x3, IntKind.wrap IntKind.i64 (x4 - x3), x5)) fun y0 =>
  Option.bind (F394 N (y0.1, y0.2.1, IntKind.wrap IntKind.i64 (y0.2.2.1 - y0.2.2.2.1), y0.2.2.1, y0.2.2.2.1, y0.2.2.2.2)) fun y1 =>
  some (y1)
noncomputable def T393 (N : Nat) : Pk → Tr Pk := tellS s393 w393 (F393 N)
theorem T393_ok (N : Nat) : FOK Tryz.prog (393) (T393 N) :=
  (fn_ok2 ownT mix (tab393_ok N) Tryz.func393 s393 w393 [0] (cuts := [(28, C393_28 N N)]) ⟨C393_28_ok N N, trivial⟩ (fun _ => by kernel_rfl) (by decide +kernel) (F393 N) (fun x => by kernel_rfl))
@[reducible] def s392 : SP := ⟨[.slp 0 .h .h, .int .i64, .int .i64, .int .i64, .fn 385], [.row y2 391]⟩
@[reducible] def w392 : List SP := [⟨[.tup []], [.row (.cons (.int .i64) (.cons (.sl (.int .i64)) .unit)) 391]⟩]
noncomputable def tab392 (N : Nat) (G : (Nat × Nat × Int × Int × Int × (List (Int × ((List Int) × Unit)))) → Option ((List (Int × ((List Int) × Unit))))) : List (Nat × (Pk → Tr Pk)) := [(392, tellS s392 w392 G), (385, T385 N), (393, T393 N)]
theorem tab392_ok (N : Nat) (G : (Nat × Nat × Int × Int × Int × (List (Int × ((List Int) × Unit)))) → Option ((List (Int × ((List Int) × Unit))))) (hG : FOK Tryz.prog 392 (tellS s392 w392 G)) : TabOK Tryz.prog (tab392 N G) := ⟨hG, T385_ok N, T393_ok N, trivial⟩
@[reducible] def L392_172 : LD := ⟨172, [10, 11, 4, 0, 1], [(.exit 0, [1, 10, 0])], ⟨[.int .i64, .int .i64, .fn 385, .slp 0 .h .h, .int .i64], [.row y2 391]⟩, [(.exit 0, ⟨[.int .i64, .int .i64, .slp 0 .h .h], [.row y2 391]⟩)]⟩
abbrev P392_172 : Type := Int × Int × Nat × Nat × Int × (List (Int × ((List Int) × Unit)))
abbrev R392_172 : Type := Int × Int × Nat × Nat × (List (Int × ((List Int) × Unit)))
noncomputable def B392_172 (N : Nat) (G : (Nat × Nat × Int × Int × Int × (List (Int × ((List Int) × Unit)))) → Option ((List (Int × ((List Int) × Unit))))) (f : P392_172 → Option R392_172) : P392_172 → Option R392_172
  | (x0, x1, x2, x3, x4, x5) =>
  iteP (decide (x0 < x1)) (
    iteP (within (IntKind.wrap IntKind.i64 (Int.fdiv (IntKind.wrap IntKind.u64 (IntKind.wrap IntKind.i64 (x0 + x1))) (2 : Int))) x3) (
      Option.bind (x5[x2 + Int.toNat (IntKind.wrap IntKind.i64 (Int.fdiv (IntKind.wrap IntKind.u64 (IntKind.wrap IntKind.i64 (x0 + x1))) (2 : Int)))]?) fun y0 =>
      iteP (within x4 x3) (
        Option.bind (x5[x2 + Int.toNat x4]?) fun y1 =>
        Option.bind (F385 N (y0.1, y0.2.1, y1.1, y1.2.1)) fun y2 =>
        iteP (decide (y2 < (0 : Int))) (
          Option.bind (f (IntKind.wrap IntKind.i64 (IntKind.wrap IntKind.i64 (Int.fdiv (IntKind.wrap IntKind.u64 (IntKind.wrap IntKind.i64 (x0 + x1))) (2 : Int)) + (1 : Int)), x1, x2, x3, x4, x5)) fun r => some r) (
          Option.bind (f (x0, IntKind.wrap IntKind.i64 (Int.fdiv (IntKind.wrap IntKind.u64 (IntKind.wrap IntKind.i64 (x0 + x1))) (2 : Int)), x2, x3, x4, x5)) fun r => some r)) (
        none )) (
      none )) (
    some ((x4, x0, x2, x3, x5)))
noncomputable def F392_172 (N : Nat) (G : (Nat × Nat × Int × Int × Int × (List (Int × ((List Int) × Unit)))) → Option ((List (Int × ((List Int) × Unit))))) : Nat → P392_172 → Option R392_172
  | 0, _ => none
  | k + 1, x => B392_172 N G (F392_172 N G k) x
noncomputable def C392_172 (N : Nat) (G : (Nat × Nat × Int × Int × Int × (List (Int × ((List Int) × Unit)))) → Option ((List (Int × ((List Int) × Unit))))) (k : Nat) : Cut := L392_172.cut (F392_172 N G k)
theorem C392_172_ok (N : Nat) (G : (Nat × Nat × Int × Int × Int × (List (Int × ((List Int) × Unit)))) → Option ((List (Int × ((List Int) × Unit))))) (hG : FOK Tryz.prog 392 (tellS s392 w392 G)) (k : Nat) : CutAt Tryz.prog false Tryz.f392 [0] 172 (C392_172 N G k) :=
  L392_172.loopT ownT mix (tab392_ok N G hG) Tryz.f392 [0] (cuts := []) trivial (by decide +kernel) (by kernel_rfl) (B392_172 N G) (F392_172 N G) (fun _ => rfl) (fun _ _ => rfl) (fun f x => by kernel_rfl) k
@[reducible] def L392_698 : LD := ⟨698, [13, 10, 0], [(.exit 2, [])], ⟨[.int .i64, .int .i64, .slp 0 .h .h], [.row y2 391]⟩, [(.exit 2, ⟨[], [.row y2 391]⟩)]⟩
abbrev P392_698 : Type := Int × Int × Nat × Nat × (List (Int × ((List Int) × Unit)))
abbrev R392_698 : Type := (List (Int × ((List Int) × Unit)))
noncomputable def B392_698 (N : Nat) (G : (Nat × Nat × Int × Int × Int × (List (Int × ((List Int) × Unit)))) → Option ((List (Int × ((List Int) × Unit))))) (f : P392_698 → Option R392_698) : P392_698 → Option R392_698
  | (x0, x1, x2, x3, x4) =>
  iteP (decide (x0 < IntKind.wrap IntKind.i64 (x1 - (1 : Int)))) (
    iteP (within (IntKind.wrap IntKind.i64 (x0 + (1 : Int))) x3) (
      Option.bind (x4[x2 + Int.toNat (IntKind.wrap IntKind.i64 (x0 + (1 : Int)))]?) fun y0 =>
      iteP (within x0 x3) (
        Option.bind (x4[x2 + Int.toNat x0]?) fun y1 =>
        iteP (within x0 x3) (
          Option.bind (x4[x2 + Int.toNat x0]?) fun y2 =>
          iteP (within (IntKind.wrap IntKind.i64 (x0 + (1 : Int))) x3) (
            Option.bind ((List.set x4 (x2 + Int.toNat x0) (y0.1, y0.2.1, ()))[x2 + Int.toNat (IntKind.wrap IntKind.i64 (x0 + (1 : Int)))]?) fun y3 =>
            Option.bind (f (IntKind.wrap IntKind.i64 (x0 + (1 : Int)), x1, x2, x3, List.set (List.set x4 (x2 + Int.toNat x0) (y0.1, y0.2.1, ())) (x2 + Int.toNat (IntKind.wrap IntKind.i64 (x0 + (1 : Int)))) (y1.1, y1.2.1, ()))) fun r => some r) (
            none )) (
          none )) (
        none )) (
      none )) (
    some (x4))
noncomputable def F392_698 (N : Nat) (G : (Nat × Nat × Int × Int × Int × (List (Int × ((List Int) × Unit)))) → Option ((List (Int × ((List Int) × Unit))))) : Nat → P392_698 → Option R392_698
  | 0, _ => none
  | k + 1, x => B392_698 N G (F392_698 N G k) x
noncomputable def C392_698 (N : Nat) (G : (Nat × Nat × Int × Int × Int × (List (Int × ((List Int) × Unit)))) → Option ((List (Int × ((List Int) × Unit))))) (k : Nat) : Cut := L392_698.cut (F392_698 N G k)
theorem C392_698_ok (N : Nat) (G : (Nat × Nat × Int × Int × Int × (List (Int × ((List Int) × Unit)))) → Option ((List (Int × ((List Int) × Unit))))) (hG : FOK Tryz.prog 392 (tellS s392 w392 G)) (k : Nat) : CutAt Tryz.prog false Tryz.f392 [0] 698 (C392_698 N G k) :=
  L392_698.loopT ownT mix (tab392_ok N G hG) Tryz.f392 [0] (cuts := [(172, C392_172 N G N)]) ⟨C392_172_ok N G hG N, trivial⟩ (by decide +kernel) (by kernel_rfl) (B392_698 N G) (F392_698 N G) (fun _ => rfl) (fun _ _ => rfl) (fun f x => by kernel_rfl) k
@[reducible] def L392_428 : LD := ⟨428, [14, 15, 4, 2, 0], [(.exit 4, [2, 14, 0])], ⟨[.int .i64, .int .i64, .fn 385, .int .i64, .slp 0 .h .h], [.row y2 391]⟩, [(.exit 4, ⟨[.int .i64, .int .i64, .slp 0 .h .h], [.row y2 391]⟩)]⟩
abbrev P392_428 : Type := Int × Int × Int × Nat × Nat × (List (Int × ((List Int) × Unit)))
abbrev R392_428 : Type := Int × Int × Nat × Nat × (List (Int × ((List Int) × Unit)))
noncomputable def B392_428 (N : Nat) (G : (Nat × Nat × Int × Int × Int × (List (Int × ((List Int) × Unit)))) → Option ((List (Int × ((List Int) × Unit))))) (f : P392_428 → Option R392_428) : P392_428 → Option R392_428
  | (x0, x1, x2, x3, x4, x5) =>
  iteP (decide (x0 < x1)) (
    iteP (within x2 x4) (
      Option.bind (x5[x3 + Int.toNat x2]?) fun y0 =>
      iteP (within (IntKind.wrap IntKind.i64 (Int.fdiv (IntKind.wrap IntKind.u64 (IntKind.wrap IntKind.i64 (x0 + x1))) (2 : Int))) x4) (
        Option.bind (x5[x3 + Int.toNat (IntKind.wrap IntKind.i64 (Int.fdiv (IntKind.wrap IntKind.u64 (IntKind.wrap IntKind.i64 (x0 + x1))) (2 : Int)))]?) fun y1 =>
        Option.bind (F385 N (y0.1, y0.2.1, y1.1, y1.2.1)) fun y2 =>
        iteP (!decide (y2 < (0 : Int))) (
          Option.bind (f (IntKind.wrap IntKind.i64 (IntKind.wrap IntKind.i64 (Int.fdiv (IntKind.wrap IntKind.u64 (IntKind.wrap IntKind.i64 (x0 + x1))) (2 : Int)) + (1 : Int)), x1, x2, x3, x4, x5)) fun r => some r) (
          Option.bind (f (x0, IntKind.wrap IntKind.i64 (Int.fdiv (IntKind.wrap IntKind.u64 (IntKind.wrap IntKind.i64 (x0 + x1))) (2 : Int)), x2, x3, x4, x5)) fun r => some r)) (
        none )) (
      none )) (
    some ((x2, x0, x3, x4, x5)))
noncomputable def F392_428 (N : Nat) (G : (Nat × Nat × Int × Int × Int × (List (Int × ((List Int) × Unit)))) → Option ((List (Int × ((List Int) × Unit))))) : Nat → P392_428 → Option R392_428
  | 0, _ => none
  | k + 1, x => B392_428 N G (F392_428 N G k) x
noncomputable def C392_428 (N : Nat) (G : (Nat × Nat × Int × Int × Int × (List (Int × ((List Int) × Unit)))) → Option ((List (Int × ((List Int) × Unit))))) (k : Nat) : Cut := L392_428.cut (F392_428 N G k)
theorem C392_428_ok (N : Nat) (G : (Nat × Nat × Int × Int × Int × (List (Int × ((List Int) × Unit)))) → Option ((List (Int × ((List Int) × Unit))))) (hG : FOK Tryz.prog 392 (tellS s392 w392 G)) (k : Nat) : CutAt Tryz.prog false Tryz.f392 [0] 428 (C392_428 N G k) :=
  L392_428.loopT ownT mix (tab392_ok N G hG) Tryz.f392 [0] (cuts := [(172, C392_172 N G N), (698, C392_698 N G N)]) ⟨C392_172_ok N G hG N, C392_698_ok N G hG N, trivial⟩ (by decide +kernel) (by kernel_rfl) (B392_428 N G) (F392_428 N G) (fun _ => rfl) (fun _ _ => rfl) (fun f x => by kernel_rfl) k
@[reducible] def L392_1722 : LD := ⟨1722, [17, 14, 0], [(.exit 6, [])], ⟨[.int .i64, .int .i64, .slp 0 .h .h], [.row y2 391]⟩, [(.exit 6, ⟨[], [.row y2 391]⟩)]⟩
abbrev P392_1722 : Type := Int × Int × Nat × Nat × (List (Int × ((List Int) × Unit)))
abbrev R392_1722 : Type := (List (Int × ((List Int) × Unit)))
noncomputable def B392_1722 (N : Nat) (G : (Nat × Nat × Int × Int × Int × (List (Int × ((List Int) × Unit)))) → Option ((List (Int × ((List Int) × Unit))))) (f : P392_1722 → Option R392_1722) : P392_1722 → Option R392_1722
  | (x0, x1, x2, x3, x4) =>
  iteP (decide (x0 > x1)) (
    iteP (within (IntKind.wrap IntKind.i64 (x0 - (1 : Int))) x3) (
      Option.bind (x4[x2 + Int.toNat (IntKind.wrap IntKind.i64 (x0 - (1 : Int)))]?) fun y0 =>
      iteP (within x0 x3) (
        Option.bind (x4[x2 + Int.toNat x0]?) fun y1 =>
        iteP (within x0 x3) (
          Option.bind (x4[x2 + Int.toNat x0]?) fun y2 =>
          iteP (within (IntKind.wrap IntKind.i64 (x0 - (1 : Int))) x3) (
            Option.bind ((List.set x4 (x2 + Int.toNat x0) (y0.1, y0.2.1, ()))[x2 + Int.toNat (IntKind.wrap IntKind.i64 (x0 - (1 : Int)))]?) fun y3 =>
            Option.bind (f (IntKind.wrap IntKind.i64 (x0 - (1 : Int)), x1, x2, x3, List.set (List.set x4 (x2 + Int.toNat x0) (y0.1, y0.2.1, ())) (x2 + Int.toNat (IntKind.wrap IntKind.i64 (x0 - (1 : Int)))) (y1.1, y1.2.1, ()))) fun r => some r) (
            none )) (
          none )) (
        none )) (
      none )) (
    some (x4))
noncomputable def F392_1722 (N : Nat) (G : (Nat × Nat × Int × Int × Int × (List (Int × ((List Int) × Unit)))) → Option ((List (Int × ((List Int) × Unit))))) : Nat → P392_1722 → Option R392_1722
  | 0, _ => none
  | k + 1, x => B392_1722 N G (F392_1722 N G k) x
noncomputable def C392_1722 (N : Nat) (G : (Nat × Nat × Int × Int × Int × (List (Int × ((List Int) × Unit)))) → Option ((List (Int × ((List Int) × Unit))))) (k : Nat) : Cut := L392_1722.cut (F392_1722 N G k)
theorem C392_1722_ok (N : Nat) (G : (Nat × Nat × Int × Int × Int × (List (Int × ((List Int) × Unit)))) → Option ((List (Int × ((List Int) × Unit))))) (hG : FOK Tryz.prog 392 (tellS s392 w392 G)) (k : Nat) : CutAt Tryz.prog false Tryz.f392 [0] 1722 (C392_1722 N G k) :=
  L392_1722.loopT ownT mix (tab392_ok N G hG) Tryz.f392 [0] (cuts := [(172, C392_172 N G N), (698, C392_698 N G N), (428, C392_428 N G N)]) ⟨C392_172_ok N G hG N, C392_698_ok N G hG N, C392_428_ok N G hG N, trivial⟩ (by decide +kernel) (by kernel_rfl) (B392_1722 N G) (F392_1722 N G) (fun _ => rfl) (fun _ _ => rfl) (fun f x => by kernel_rfl) k
@[reducible] def L392_1020 : LD := ⟨1020, [20, 3, 18, 1, 2, 19, 21, 4, 22, 0], [(.exit 8, [19, 2, 1, 20, 0, 18, 3, 4])], ⟨[.int .i64, .int .i64, .int .i64, .int .i64, .int .i64, .int .i64, .int .i64, .fn 385, .int .i64, .slp 0 .h .h], [.row y2 391]⟩, [(.exit 8, ⟨[.int .i64, .int .i64, .int .i64, .int .i64, .slp 0 .h .h, .int .i64, .int .i64, .fn 385], [.row y2 391]⟩)]⟩
abbrev P392_1020 : Type := Int × Int × Int × Int × Int × Int × Int × Int × Nat × Nat × (List (Int × ((List Int) × Unit)))
abbrev R392_1020 : Type := Int × Int × Int × Int × Nat × Nat × Int × Int × (List (Int × ((List Int) × Unit)))
noncomputable def B392_1020 (N : Nat) (G : (Nat × Nat × Int × Int × Int × (List (Int × ((List Int) × Unit)))) → Option ((List (Int × ((List Int) × Unit))))) (f : P392_1020 → Option R392_1020) : P392_1020 → Option R392_1020
  | (x0, x1, x2, x3, x4, x5, x6, x7, x8, x9, x10) =>
  iteP (decide (x0 < x6)) (
    iteP (within (IntKind.wrap IntKind.i64 (x7 - IntKind.wrap IntKind.i64 (Int.fdiv (IntKind.wrap IntKind.u64 (IntKind.wrap IntKind.i64 (x0 + x6))) (2 : Int)))) x9) (
      Option.bind (x10[x8 + Int.toNat (IntKind.wrap IntKind.i64 (x7 - IntKind.wrap IntKind.i64 (Int.fdiv (IntKind.wrap IntKind.u64 (IntKind.wrap IntKind.i64 (x0 + x6))) (2 : Int))))]?) fun y0 =>
      iteP (within (IntKind.wrap IntKind.i64 (Int.fdiv (IntKind.wrap IntKind.u64 (IntKind.wrap IntKind.i64 (x0 + x6))) (2 : Int))) x9) (
        Option.bind (x10[x8 + Int.toNat (IntKind.wrap IntKind.i64 (Int.fdiv (IntKind.wrap IntKind.u64 (IntKind.wrap IntKind.i64 (x0 + x6))) (2 : Int)))]?) fun y1 =>
        Option.bind (F385 N (y0.1, y0.2.1, y1.1, y1.2.1)) fun y2 =>
        iteP (!decide (y2 < (0 : Int))) (
          Option.bind (f (IntKind.wrap IntKind.i64 (IntKind.wrap IntKind.i64 (Int.fdiv (IntKind.wrap IntKind.u64 (IntKind.wrap IntKind.i64 (x0 + x6))) (2 : Int)) + (1 : Int)), x1, x2, x3, x4, x5, x6, x7, x8, x9, x10)) fun r => some r) (
          Option.bind (f (x0, x1, x2, x3, x4, x5, IntKind.wrap IntKind.i64 (Int.fdiv (IntKind.wrap IntKind.u64 (IntKind.wrap IntKind.i64 (x0 + x6))) (2 : Int)), x7, x8, x9, x10)) fun r => some r)) (
        none )) (
      none )) (
    some ((x5, x4, x3, x0, x8, x9, x2, x1, x10)))
noncomputable def F392_1020 (N : Nat) (G : (Nat × Nat × Int × Int × Int × (List (Int × ((List Int) × Unit)))) → Option ((List (Int × ((List Int) × Unit))))) : Nat → P392_1020 → Option R392_1020
  | 0, _ => none
  | k + 1, x => B392_1020 N G (F392_1020 N G k) x
noncomputable def C392_1020 (N : Nat) (G : (Nat × Nat × Int × Int × Int × (List (Int × ((List Int) × Unit)))) → Option ((List (Int × ((List Int) × Unit))))) (k : Nat) : Cut := L392_1020.cut (F392_1020 N G k)
theorem C392_1020_ok (N : Nat) (G : (Nat × Nat × Int × Int × Int × (List (Int × ((List Int) × Unit)))) → Option ((List (Int × ((List Int) × Unit))))) (hG : FOK Tryz.prog 392 (tellS s392 w392 G)) (k : Nat) : CutAt Tryz.prog false Tryz.f392 [0] 1020 (C392_1020 N G k) :=
  L392_1020.loopT ownT mix (tab392_ok N G hG) Tryz.f392 [0] (cuts := [(172, C392_172 N G N), (698, C392_698 N G N), (428, C392_428 N G N), (1722, C392_1722 N G N)]) ⟨C392_172_ok N G hG N, C392_698_ok N G hG N, C392_428_ok N G hG N, C392_1722_ok N G hG N, trivial⟩ (by decide +kernel) (by kernel_rfl) (B392_1020 N G) (F392_1020 N G) (fun _ => rfl) (fun _ _ => rfl) (fun f x => by kernel_rfl) k
@[reducible] def L392_4095 : LD := ⟨4095, [0, 18, 24, 3, 4], [(.normal, [])], ⟨[.slp 0 .h .h, .int .i64, .int .i64, .int .i64, .fn 385], [.row y2 391]⟩, [(.normal, ⟨[], [.row y2 391]⟩)]⟩
noncomputable def F392_4095 (N : Nat) (G : (Nat × Nat × Int × Int × Int × (List (Int × ((List Int) × Unit)))) → Option ((List (Int × ((List Int) × Unit))))) : (Nat × Nat × Int × Int × Int × (List (Int × ((List Int) × Unit)))) → Option ((List (Int × ((List Int) × Unit))))
  | (x0, x1, x2, x3, x4, x5) =>
  iteP (decide (x2 < x3)) (
    iteP (decide (x3 < x4)) (
      Option.bind (G (x0, x1, x2, x3, x4, x5)) fun y0 =>
      some (y0)) (
      some (x5))) (
    some (x5))
noncomputable def C392_4095 (N : Nat) (G : (Nat × Nat × Int × Int × Int × (List (Int × ((List Int) × Unit)))) → Option ((List (Int × ((List Int) × Unit))))) (_ : Nat) : Cut := L392_4095.cut (F392_4095 N G)
theorem C392_4095_ok (N : Nat) (G : (Nat × Nat × Int × Int × Int × (List (Int × ((List Int) × Unit)))) → Option ((List (Int × ((List Int) × Unit))))) (hG : FOK Tryz.prog 392 (tellS s392 w392 G)) (k : Nat) : CutAt Tryz.prog false Tryz.f392 [0] 4095 (C392_4095 N G k) :=
  L392_4095.pieceT ownT mix (tab392_ok N G hG) Tryz.f392 [0] (cuts := [(172, C392_172 N G N), (698, C392_698 N G N), (428, C392_428 N G N), (1722, C392_1722 N G N), (1020, C392_1020 N G N)]) ⟨C392_172_ok N G hG N, C392_698_ok N G hG N, C392_428_ok N G hG N, C392_1722_ok N G hG N, C392_1020_ok N G hG N, trivial⟩ (by decide +kernel) (by kernel_rfl) (F392_4095 N G) (fun x => by kernel_rfl)
@[reducible] def L392_2047 : LD := ⟨2047, [1, 20, 0, 18, 24, 3, 4], [(.normal, [])], ⟨[.int .i64, .int .i64, .slp 0 .h .h, .int .i64, .int .i64, .int .i64, .fn 385], [.row y2 391]⟩, [(.normal, ⟨[], [.row y2 391]⟩)]⟩
noncomputable def F392_2047 (N : Nat) (G : (Nat × Nat × Int × Int × Int × (List (Int × ((List Int) × Unit)))) → Option ((List (Int × ((List Int) × Unit))))) : (Int × Int × Nat × Nat × Int × Int × Int × (List (Int × ((List Int) × Unit)))) → Option ((List (Int × ((List Int) × Unit))))
  | (x0, x1, x2, x3, x4, x5, x6, x7) =>
  iteP (decide (x0 < x1)) (
    iteP (decide (x1 < x4)) (
      Option.bind (G (x2, x3, x0, x1, x4, x7)) fun y0 =>
      Option.bind (F392_4095 N G (x2, x3, x4, x5, x6, y0)) fun y1 =>
      some (y1)) (
      Option.bind (F392_4095 N G (x2, x3, x4, x5, x6, x7)) fun y2 =>
      some (y2))) (
    Option.bind (F392_4095 N G (x2, x3, x4, x5, x6, x7)) fun y3 =>
    some (y3))
noncomputable def C392_2047 (N : Nat) (G : (Nat × Nat × Int × Int × Int × (List (Int × ((List Int) × Unit)))) → Option ((List (Int × ((List Int) × Unit))))) (_ : Nat) : Cut := L392_2047.cut (F392_2047 N G)
theorem C392_2047_ok (N : Nat) (G : (Nat × Nat × Int × Int × Int × (List (Int × ((List Int) × Unit)))) → Option ((List (Int × ((List Int) × Unit))))) (hG : FOK Tryz.prog 392 (tellS s392 w392 G)) (k : Nat) : CutAt Tryz.prog false Tryz.f392 [0] 2047 (C392_2047 N G k) :=
  L392_2047.pieceT ownT mix (tab392_ok N G hG) Tryz.f392 [0] (cuts := [(172, C392_172 N G N), (698, C392_698 N G N), (428, C392_428 N G N), (1722, C392_1722 N G N), (1020, C392_1020 N G N), (4095, C392_4095 N G N)]) ⟨C392_172_ok N G hG N, C392_698_ok N G hG N, C392_428_ok N G hG N, C392_1722_ok N G hG N, C392_1020_ok N G hG N, C392_4095_ok N G hG N, trivial⟩ (by decide +kernel) (by kernel_rfl) (F392_2047 N G) (fun x => by kernel_rfl)
@[reducible] def L392_127 : LD := ⟨127, [20, 3, 18, 1, 2, 19, 21, 4, 0], [(.normal, [])], ⟨[.int .i64, .int .i64, .int .i64, .int .i64, .int .i64, .int .i64, .int .i64, .fn 385, .slp 0 .h .h], [.row y2 391]⟩, [(.normal, ⟨[], [.row y2 391]⟩)]⟩
noncomputable def F392_127 (N : Nat) (G : (Nat × Nat × Int × Int × Int × (List (Int × ((List Int) × Unit)))) → Option ((List (Int × ((List Int) × Unit))))) : (Int × Int × Int × Int × Int × Int × Int × Nat × Nat × (List (Int × ((List Int) × Unit)))) → Option ((List (Int × ((List Int) × Unit))))
  | (x0, x1, x2, x3, x4, x5, x6, x7, x8, x9) =>
  Option.bind (F392_1020 N G N (x0, x1, x2, x3, x4, x5, x6, IntKind.wrap IntKind.i64 (x5 - (1 : Int)), x7, x8, x9)) fun (y0_0, y0_1, y0_2, y0_3, y0_4, y0_5, y0_6, y0_7, y0_8) =>
  iteP (decide (y0_3 < y0_1)) (
    iteP (decide (y0_1 < IntKind.wrap IntKind.i64 (y0_0 - y0_3))) (
      Option.bind (F393 N (y0_4, y0_5, y0_3, y0_1, IntKind.wrap IntKind.i64 (y0_0 - y0_3), y0_8)) fun y1 =>
      Option.bind (F392_2047 N G (y0_2, y0_3, y0_4, y0_5, y0_6, IntKind.wrap IntKind.i64 (y0_0 - y0_3), y0_7, y1)) fun y2 =>
      some (y2)) (
      Option.bind (F392_2047 N G (y0_2, y0_3, y0_4, y0_5, y0_6, IntKind.wrap IntKind.i64 (y0_0 - y0_3), y0_7, y0_8)) fun y3 =>
      some (y3))) (
    Option.bind (F392_2047 N G (y0_2, y0_3, y0_4, y0_5, y0_6, IntKind.wrap IntKind.i64 (y0_0 - y0_3), y0_7, y0_8)) fun y4 =>
    some (y4))
noncomputable def C392_127 (N : Nat) (G : (Nat × Nat × Int × Int × Int × (List (Int × ((List Int) × Unit)))) → Option ((List (Int × ((List Int) × Unit))))) (_ : Nat) : Cut := L392_127.cut (F392_127 N G)
theorem C392_127_ok (N : Nat) (G : (Nat × Nat × Int × Int × Int × (List (Int × ((List Int) × Unit)))) → Option ((List (Int × ((List Int) × Unit))))) (hG : FOK Tryz.prog 392 (tellS s392 w392 G)) (k : Nat) : CutAt Tryz.prog false Tryz.f392 [0] 127 (C392_127 N G k) :=
  L392_127.pieceT ownT mix (tab392_ok N G hG) Tryz.f392 [0] (cuts := [(172, C392_172 N G N), (698, C392_698 N G N), (428, C392_428 N G N), (1722, C392_1722 N G N), (1020, C392_1020 N G N), (4095, C392_4095 N G N), (2047, C392_2047 N G N)]) ⟨C392_172_ok N G hG N, C392_698_ok N G hG N, C392_428_ok N G hG N, C392_1722_ok N G hG N, C392_1020_ok N G hG N, C392_4095_ok N G hG N, C392_2047_ok N G hG N, trivial⟩ (by decide +kernel) (by kernel_rfl) (F392_127 N G) (fun x => by kernel_rfl)
noncomputable def F392g (N : Nat) (G : (Nat × Nat × Int × Int × Int × (List (Int × ((List Int) × Unit)))) → Option ((List (Int × ((List Int) × Unit))))) : (Nat × Nat × Int × Int × Int × (List (Int × ((List Int) × Unit)))) → Option ((List (Int × ((List Int) × Unit))))
  | (x0, x1, x2, x3, x4, x5) =>
  iteP (IntKind.wrap IntKind.i64 (x3 - x2) == (1 : Int)) (
    Option.bind (F392_172 N G N (x3, x4, x0, x1, x2, x5)) fun y0 =>
    Option.bind (F392_698 N G N (y0.1, y0.2.1, y0.2.2.1, y0.2.2.2.1, y0.2.2.2.2)) fun y1 =>
    some (y1)) (
    iteP (IntKind.wrap IntKind.i64 (x4 - x3) == (1 : Int)) (
      Option.bind (F392_428 N G N (x2, x3, x3, x0, x1, x5)) fun y2 =>
      Option.bind (F392_1722 N G N (y2.1, y2.2.1, y2.2.2.1, y2.2.2.2.1, y2.2.2.2.2)) fun y3 =>
      some (y3)) (
      iteP (decide (x3 > IntKind.wrap IntKind.i64 (Int.fdiv (IntKind.wrap IntKind.u64 (IntKind.wrap IntKind.i64 (x2 + x4))) (2 : Int)))) (
        Option.bind (F392_127 N G (IntKind.wrap IntKind.i64 (IntKind.wrap IntKind.i64 (IntKind.wrap IntKind.i64 (Int.fdiv (IntKind.wrap IntKind.u64 (IntKind.wrap IntKind.i64 (x2 + x4))) (2 : Int)) + x3) - x4), x4, IntKind.wrap IntKind.i64 (Int.fdiv (IntKind.wrap IntKind.u64 (IntKind.wrap IntKind.i64 (x2 + x4))) (2 : Int)), x2, x3, IntKind.wrap IntKind.i64 (IntKind.wrap IntKind.i64 (Int.fdiv (IntKind.wrap IntKind.u64 (IntKind.wrap IntKind.i64 (x2 + x4))) (2 : Int)) + x3), IntKind.wrap IntKind.i64 (Int.fdiv (IntKind.wrap IntKind.u64 (IntKind.wrap IntKind.i64 (x2 + x4))) (2 : Int)), x0, x1, x5)) fun y4 =>
        some (y4)) (
        Option.bind (F392_127 N G (x2, x4, IntKind.wrap IntKind.i64 (Int.fdiv (IntKind.wrap IntKind.u64 (IntKind.wrap IntKind.i64 (x2 + x4))) (2 : Int)), x2, x3, IntKind.wrap IntKind.i64 (IntKind.wrap IntKind.i64 (Int.fdiv (IntKind.wrap IntKind.u64 (IntKind.wrap IntKind.i64 (x2 + x4))) (2 : Int)) + x3), x3, x0, x1, x5)) fun y5 =>
        some (y5))))
noncomputable def F392k (N : Nat) : Nat → (Nat × Nat × Int × Int × Int × (List (Int × ((List Int) × Unit)))) → Option ((List (Int × ((List Int) × Unit))))
  | 0, _ => none
  | k + 1, x => F392g N (F392k N k) x
noncomputable def F392 (N : Nat) : (Nat × Nat × Int × Int × Int × (List (Int × ((List Int) × Unit)))) → Option ((List (Int × ((List Int) × Unit)))) := F392k N N
noncomputable def T392 (N : Nat) : Pk → Tr Pk := tellS s392 w392 (F392 N)
theorem T392_rec (N : Nat) : ∀ k, FOK Tryz.prog 392 (tellS s392 w392 (F392k N k))
  | 0 => tell_none fun _ => rfl
  | k + 1 => fn_ok2 ownT mix (tab392_ok N (F392k N k) (T392_rec N k)) Tryz.func392 s392 w392 [0] (cuts := [(172, C392_172 N (F392k N k) N), (698, C392_698 N (F392k N k) N), (428, C392_428 N (F392k N k) N), (1722, C392_1722 N (F392k N k) N), (1020, C392_1020 N (F392k N k) N), (4095, C392_4095 N (F392k N k) N), (2047, C392_2047 N (F392k N k) N), (127, C392_127 N (F392k N k) N)]) ⟨C392_172_ok N (F392k N k) (T392_rec N k) N, C392_698_ok N (F392k N k) (T392_rec N k) N, C392_428_ok N (F392k N k) (T392_rec N k) N, C392_1722_ok N (F392k N k) (T392_rec N k) N, C392_1020_ok N (F392k N k) (T392_rec N k) N, C392_4095_ok N (F392k N k) (T392_rec N k) N, C392_2047_ok N (F392k N k) (T392_rec N k) N, C392_127_ok N (F392k N k) (T392_rec N k) N, trivial⟩ (fun _ => by kernel_rfl) (by decide +kernel) (F392k N (k + 1)) (fun x => by kernel_rfl)
theorem T392_ok (N : Nat) : FOK Tryz.prog (392) (T392 N) :=
  (T392_rec N N)
@[reducible] def s389 : SP := ⟨[.slp 0 .h .h, .int .i64, .fn 385], [.row y2 391]⟩
noncomputable def tab389 (N : Nat) : List (Nat × (Pk → Tr Pk)) := [(391, T391 N), (392, T392 N)]
theorem tab389_ok (N : Nat) : TabOK Tryz.prog (tab389 N) := ⟨T391_ok N, T392_ok N, trivial⟩
@[reducible] def L389_28 : LD := ⟨28, [7, 8, 1, 0, 2, 6], [(.exit 0, [7, 1, 0, 2, 6])], ⟨[.int .i64, .int .i64, .int .i64, .slp 0 .h .h, .fn 385, .int .i64], [.row y2 391]⟩, [(.exit 0, ⟨[.int .i64, .int .i64, .slp 0 .h .h, .fn 385, .int .i64], [.row y2 391]⟩)]⟩
abbrev P389_28 : Type := Int × Int × Int × Nat × Nat × Int × (List (Int × ((List Int) × Unit)))
abbrev R389_28 : Type := Int × Int × Nat × Nat × Int × (List (Int × ((List Int) × Unit)))
noncomputable def B389_28 (N : Nat) (f : P389_28 → Option R389_28) : P389_28 → Option R389_28
  | (x0, x1, x2, x3, x4, x5, x6) =>
  iteP (decide (x1 ≤ x2)) (
    Option.bind (F391 N (x3, x4, x0, x1, x6)) fun y0 =>
    Option.bind (f (x1, IntKind.wrap IntKind.i64 (x1 + x5), x2, x3, x4, x5, y0)) fun r => some r) (
    some ((x0, x2, x3, x4, x5, x6)))
noncomputable def F389_28 (N : Nat) : Nat → P389_28 → Option R389_28
  | 0, _ => none
  | k + 1, x => B389_28 N (F389_28 N k) x
noncomputable def C389_28 (N : Nat) (k : Nat) : Cut := L389_28.cut (F389_28 N k)
theorem C389_28_ok (N : Nat) (k : Nat) : CutAt Tryz.prog false Tryz.f389 [0] 28 (C389_28 N k) :=
  L389_28.loopT ownT mix (tab389_ok N) Tryz.f389 [0] (cuts := []) trivial (by decide +kernel) (by kernel_rfl) (B389_28 N) (F389_28 N) (fun _ => rfl) (fun _ _ => rfl) (fun f x => by kernel_rfl) k
@[reducible] def L389_3988 : LD := ⟨3988, [7, 8, 1, 0, 2, 6], [(.exit 4, [7, 6, 1, 0, 2]), (.exit 3, [1, 0, 2, 6])], ⟨[.int .i64, .int .i64, .int .i64, .slp 0 .h .h, .fn 385, .int .i64], [.row y2 391]⟩, [(.exit 4, ⟨[.int .i64, .int .i64, .int .i64, .slp 0 .h .h, .fn 385], [.row y2 391]⟩)]⟩
abbrev P389_3988 : Type := Int × Int × Int × Nat × Nat × Int × (List (Int × ((List Int) × Unit)))
abbrev R389_3988 : Type := Int × Int × Int × Nat × Nat × (List (Int × ((List Int) × Unit)))
noncomputable def B389_3988 (N : Nat) (f : P389_3988 → Option R389_3988) : P389_3988 → Option R389_3988
  | (x0, x1, x2, x3, x4, x5, x6) =>
  iteP (decide (x1 ≤ x2)) (
    Option.bind (F392 N (x3, x4, x0, IntKind.wrap IntKind.i64 (x0 + x5), x1, x6)) fun y0 =>
    Option.bind (f (x1, IntKind.wrap IntKind.i64 (x1 + IntKind.wrap IntKind.i64 ((2 : Int) * x5)), x2, x3, x4, x5, y0)) fun r => some r) (
    some ((x0, x5, x2, x3, x4, x6)))
noncomputable def F389_3988 (N : Nat) : Nat → P389_3988 → Option R389_3988
  | 0, _ => none
  | k + 1, x => B389_3988 N (F389_3988 N k) x
noncomputable def C389_3988 (N : Nat) (k : Nat) : Cut := L389_3988.cut (F389_3988 N k)
theorem C389_3988_ok (N : Nat) (k : Nat) : CutAt Tryz.prog false Tryz.f389 [0] 3988 (C389_3988 N k) :=
  L389_3988.loopT ownT mix (tab389_ok N) Tryz.f389 [0] (cuts := [(28, C389_28 N N)]) ⟨C389_28_ok N N, trivial⟩ (by decide +kernel) (by kernel_rfl) (B389_3988 N) (F389_3988 N) (fun _ => rfl) (fun _ _ => rfl) (fun f x => by kernel_rfl) k
@[reducible] def L389_62 : LD := ⟨62, [1, 0, 2, 6], [(.exit 2, [])], ⟨[.int .i64, .slp 0 .h .h, .fn 385, .int .i64], [.row y2 391]⟩, [(.exit 2, ⟨[], [.row y2 391]⟩)]⟩
abbrev P389_62 : Type := Int × Nat × Nat × Int × (List (Int × ((List Int) × Unit)))
abbrev R389_62 : Type := (List (Int × ((List Int) × Unit)))
noncomputable def B389_62 (N : Nat) (f : P389_62 → Option R389_62) : P389_62 → Option R389_62
  | (x0, x1, x2, x3, x4) =>
  iteP (decide (x3 < x0)) (
    Option.bind (F389_3988 N N ((0 : Int), IntKind.wrap IntKind.i64 ((2 : Int) * x3), x0, x1, x2, x3, x4)) fun (y0_0, y0_1, y0_2, y0_3, y0_4, y0_5) =>
    iteP (decide (IntKind.wrap IntKind.i64 (y0_0 + y0_1) < y0_2)) (
      Option.bind (F392 N (y0_3, y0_4, y0_0, IntKind.wrap IntKind.i64 (y0_0 + y0_1), y0_2, y0_5)) fun y1 =>
      Option.bind (f (y0_2, y0_3, y0_4, IntKind.wrap IntKind.i64 (y0_1 * (2 : Int)), y1)) fun r => some r) (
      Option.bind (f (y0_2, y0_3, y0_4, IntKind.wrap IntKind.i64 (y0_1 * (2 : Int)), y0_5)) fun r => some r)) (
    some (x4))
noncomputable def F389_62 (N : Nat) : Nat → P389_62 → Option R389_62
  | 0, _ => none
  | k + 1, x => B389_62 N (F389_62 N k) x
noncomputable def C389_62 (N : Nat) (k : Nat) : Cut := L389_62.cut (F389_62 N k)
theorem C389_62_ok (N : Nat) (k : Nat) : CutAt Tryz.prog false Tryz.f389 [0] 62 (C389_62 N k) :=
  L389_62.loopT ownT mix (tab389_ok N) Tryz.f389 [0] (cuts := [(28, C389_28 N N), (3988, C389_3988 N N)]) ⟨C389_28_ok N N, C389_3988_ok N N, trivial⟩ (by decide +kernel) (by kernel_rfl) (B389_62 N) (F389_62 N) (fun _ => rfl) (fun _ _ => rfl) (fun f x => by kernel_rfl) k
@[reducible] def w389 : List SP := [⟨[.tup []], [.row y2 391]⟩]
noncomputable def F389 (N : Nat) : (Nat × Nat × Int × (List (Int × ((List Int) × Unit)))) → Option ((List (Int × ((List Int) × Unit))))
  | (x0, x1, x2, x3) =>
  Option.bind (F389_28 N N ((0 : Int), (20 : Int), x2, x0, x1, (20 : Int), x3)) fun (y0_0, y0_1, y0_2, y0_3, y0_4, y0_5) =>
  Option.bind (F391 N (y0_2, y0_3, y0_0, y0_1, y0_5)) fun y1 =>
  Option.bind (F389_62 N N (y0_1, y0_2, y0_3, y0_4, y1)) fun y2 =>
  some (y2)
noncomputable def T389 (N : Nat) : Pk → Tr Pk := tellS s389 w389 (F389 N)
theorem T389_ok (N : Nat) : FOK Tryz.prog (389) (T389 N) :=
  (fn_ok2 ownT mix (tab389_ok N) Tryz.func389 s389 w389 [0] (cuts := [(28, C389_28 N N), (3988, C389_3988 N N), (62, C389_62 N N)]) ⟨C389_28_ok N N, C389_3988_ok N N, C389_62_ok N N, trivial⟩ (fun _ => by kernel_rfl) (by decide +kernel) (F389 N) (fun x => by kernel_rfl))
@[reducible] def s384 : SP := ⟨[.slp 0 .h .h, .fn 385], [.row y2 391]⟩
noncomputable def tab384 (N : Nat) : List (Nat × (Pk → Tr Pk)) := [(389, T389 N)]
theorem tab384_ok (N : Nat) : TabOK Tryz.prog (tab384 N) := ⟨T389_ok N, trivial⟩
@[reducible] def w384 : List SP := [⟨[.tup []], [.row y2 391]⟩]
noncomputable def F384 (N : Nat) : (Nat × Nat × (List (Int × ((List Int) × Unit)))) → Option ((List (Int × ((List Int) × Unit))))
  | (x0, x1, x2) =>
  Option.bind (F389 N (x0, x1, (↑x1 : Int), x2)) fun y0 =>
  some (y0)
noncomputable def T384 (N : Nat) : Pk → Tr Pk := tellS s384 w384 (F384 N)
theorem T384_ok (N : Nat) : FOK Tryz.prog (384) (T384 N) :=
  (fn_ok2 ownT mix (tab384_ok N) Tryz.func384 s384 w384 [0] (cuts := []) trivial (fun _ => by kernel_rfl) (by decide +kernel) (F384 N) (fun x => by kernel_rfl))
@[reducible] def s376 : SP := ⟨[.ro y2, .ro y2], []⟩
noncomputable def tab376 (N : Nat) : List (Nat × (Pk → Tr Pk)) := [(383, T383 N), (384, T384 N)]
theorem tab376_ok (N : Nat) : TabOK Tryz.prog (tab376 N) := ⟨T383_ok N, T384_ok N, trivial⟩
@[reducible] def w376 : List SP := [⟨[.sl 0], [.row y2 391]⟩]
noncomputable def F376 (N : Nat) : ((List (Int × ((List Int) × Unit))) × (List (Int × ((List Int) × Unit)))) → Option ((List (Int × ((List Int) × Unit))))
  | (x0, x1) =>
  Option.bind (F383 N [x0, x1]) fun y0 =>
  Option.bind (F384 N ((0 : Nat), List.length y0, y0)) fun y1 =>
  some (y1)
noncomputable def T376 (N : Nat) : Pk → Tr Pk := postT frzP (tellS s376 w376 (F376 N))
theorem T376_ok (N : Nat) : FOK Tryz.prog (376) (T376 N) :=
  postT_ok frzP_ok (fn_ok2 ownT mix (tab376_ok N) Tryz.func376 s376 w376 [] (cuts := []) trivial (fun _ => by kernel_rfl) (by decide +kernel) (F376 N) (fun x => by kernel_rfl)) (by decide +kernel)
@[reducible] def s375 : SP := ⟨[.ro (.int .i64)], []⟩
noncomputable def tab375 (N : Nat) : List (Nat × (Pk → Tr Pk)) := [(376, T376 N)]
theorem tab375_ok (N : Nat) : TabOK Tryz.prog (tab375 N) := ⟨T376_ok N, trivial⟩
@[reducible] def L375_58 : LD := ⟨58, [8, 7, 9, 4], [(.ret, [2, 3]), (.exit 0, [4])], ⟨[.int .i64, .ro (.int .i64), .int .i64, .sl 0], [.row y2 391]⟩, [(.ret, ⟨[.sl 0, .int .i64], [.row y2 391]⟩), (.exit 0, ⟨[.sl 0], [.row y2 391]⟩)]⟩
abbrev P375_58 : Type := Int × (List Int) × Int × (List (Int × ((List Int) × Unit)))
abbrev R375_58 : Type := ((Int × (List (Int × ((List Int) × Unit)))) ⊕ ((List (Int × ((List Int) × Unit)))))
noncomputable def B375_58 (N : Nat) (f : P375_58 → Option R375_58) : P375_58 → Option R375_58
  | (x0, x1, x2, x3) =>
  iteP (decide (x2 < x0)) (
    iteP (within x2 (List.length x1)) (
      Option.bind (x1[Int.toNat x2]?) fun y0 =>
      iteP (decide (y0 < (0 : Int))) (
        some (.inl (((1 : Int), [])))) (
        iteP (decide (y0 > (1073741824 : Int))) (
          some (.inl (((1 : Int), [])))) (
          iteP (decide (y0 > (0 : Int))) (
            iteP (decide ((List.length x3 + List.length [(y0, [x2], ())]) * (32 : Nat) ≤ (140737488355328 : Nat) ∧ List.length x3 + List.length [(y0, [x2], ())] ≤ (140737488355328 : Nat))) (
              Option.bind (f (x0, x1, IntKind.wrap IntKind.i64 (x2 + (1 : Int)), x3 ++ [(y0, [x2], ())])) fun r => match r with | .inl y => some (.inl y) | .inr y => some (.inr y)) (
              none )) (
            Option.bind (f (x0, x1, IntKind.wrap IntKind.i64 (x2 + (1 : Int)), x3)) fun r => match r with | .inl y => some (.inl y) | .inr y => some (.inr y))))) (
      none )) (
    some (.inr (x3)))
noncomputable def F375_58 (N : Nat) : Nat → P375_58 → Option R375_58
  | 0, _ => none
  | k + 1, x => B375_58 N (F375_58 N k) x
noncomputable def C375_58 (N : Nat) (k : Nat) : Cut := L375_58.cut (F375_58 N k)
theorem C375_58_ok (N : Nat) (k : Nat) : CutAt Tryz.prog false Tryz.f375 [] 58 (C375_58 N k) :=
  L375_58.loopT ownT mix (tab375_ok N) Tryz.f375 [] (cuts := []) trivial (by decide +kernel) (by kernel_rfl) (B375_58 N) (F375_58 N) (fun _ => rfl) (fun _ _ => rfl) (fun f x => by kernel_rfl) k
@[reducible] def w375 : List SP := [⟨[.tup [.sl 0, .int .i64]], [.row y2 391]⟩, ⟨[.tup [.ro y2, .int .i64]], []⟩]
noncomputable def F375 (N : Nat) : ((List Int)) → Option (((Int × (List (Int × ((List Int) × Unit)))) ⊕ ((List (Int × ((List Int) × Unit))) × Int)))
  | x0 =>
  Option.bind (F375_58 N N ((↑(List.length x0) : Int), x0, (0 : Int), [])) fun y0 =>
  match y0 with
  | .inl y1 =>
    some (.inl ((y1.1, y1.2)))
  | .inr y1 =>
    Option.bind (F376 N (y1, [])) fun y2 =>
    some (.inr ((y2, (0 : Int))))
noncomputable def T375 (N : Nat) : Pk → Tr Pk := postT frzP (tellS s375 w375 (F375 N))
theorem T375_ok (N : Nat) : FOK Tryz.prog (375) (T375 N) :=
  postT_ok frzP_ok (fn_ok2 ownT mix (tab375_ok N) Tryz.func375 s375 w375 [] (cuts := [(58, C375_58 N N)]) ⟨C375_58_ok N N, trivial⟩ (fun _ => by kernel_rfl) (by decide +kernel) (F375 N) (fun x => by kernel_rfl)) (by decide +kernel)
@[reducible] def s379 : SP := ⟨[.nilsl, .int .i64], []⟩
noncomputable def tab379 (N : Nat) : List (Nat × (Pk → Tr Pk)) := []
theorem tab379_ok (N : Nat) : TabOK Tryz.prog (tab379 N) := trivial
@[reducible] def w379 : List SP := [⟨[.slp 0 (.c 0) (.c 0)], [.row (.int .i64) 3]⟩, ⟨[.sl 0], [.row (.int .i64) 3]⟩]
noncomputable def F379 (N : Nat) : (Int) → Option ((((List Int)) ⊕ ((List Int))))
  | x0 =>
  iteP (decide (x0 < (0 : Int))) (
    none ) (
    iteP (decide (IntKind.wrap IntKind.i64 (x0 - (0 : Int)) > (0 : Int))) (
      iteP (decide ((0 : Int) < IntKind.wrap IntKind.i64 (x0 - (0 : Int)) ∧ IntKind.wrap IntKind.i64 (x0 - (0 : Int)) * (8 : Int) ≤ (140737488355328 : Int) ∧ IntKind.wrap IntKind.i64 (x0 - (0 : Int)) ≤ (140737488355328 : Int))) (
        iteP (decide ((0 : Int) ≤ (0 : Int) ∧ (0 : Int) ≤ (↑(List.length (List.replicate (Int.toNat (IntKind.wrap IntKind.i64 (x0 - (0 : Int)))) (0 : Int))) : Int))) (
          some (.inl (List.replicate (Int.toNat (IntKind.wrap IntKind.i64 (x0 - (0 : Int)))) (0 : Int)))) (
          none )) (
        none )) (
      some (.inr ([]))))
noncomputable def T379 (N : Nat) : Pk → Tr Pk := postT (trimP (Ty.int IntKind.i64) 3) (tellS s379 w379 (F379 N))
theorem T379_ok (N : Nat) : FOK Tryz.prog (379) (T379 N) :=
  postT_ok (trimP_ok _ _) (fn_ok2 ownT mix (tab379_ok N) Tryz.func379 s379 w379 [] (cuts := []) trivial (fun _ => by kernel_rfl) (by decide +kernel) (F379 N) (fun x => by kernel_rfl)) (by decide +kernel)
@[reducible] def s361 : SP := ⟨[.ro (.sl (.int .i64))], []⟩
noncomputable def tab361 (N : Nat) : List (Nat × (Pk → Tr Pk)) := [(379, T379 N)]
theorem tab361_ok (N : Nat) : TabOK Tryz.prog (tab361 N) := ⟨T379_ok N, trivial⟩
@[reducible] def L361_58 : LD := ⟨58, [3, 11, 10, 0, 9], [(.ret, [2]), (.exit 0, [3, 0])], ⟨[.int .i64, .int .i64, .int .i64, .ro (.sl (.int .i64)), .ro (.sl (.int .i64))], []⟩, [(.exit 0, ⟨[.int .i64, .ro (.sl (.int .i64))], []⟩)]⟩
abbrev P361_58 : Type := Int × Int × Int × (List (List Int)) × (List (List Int))
abbrev R361_58 : Type := Int × (List (List Int))
noncomputable def B361_58 (N : Nat) (f : P361_58 → Option R361_58) : P361_58 → Option R361_58
  | (x0, x1, x2, x3, x4) =>
  iteP (decide (x1 < x2)) (
    iteP (within x1 (List.length x4)) (
      Option.bind (x4[Int.toNat x1]?) fun y0 =>
      iteP (decide (IntKind.wrap IntKind.i64 (x0 + (↑(List.length y0) : Int)) < (0 : Int))) (
        none ) (
        Option.bind (f (IntKind.wrap IntKind.i64 (x0 + (↑(List.length y0) : Int)), IntKind.wrap IntKind.i64 (x1 + (1 : Int)), x2, x3, x4)) fun r => some r)) (
      none )) (
    some ((x0, x3)))
noncomputable def F361_58 (N : Nat) : Nat → P361_58 → Option R361_58
  | 0, _ => none
  | k + 1, x => B361_58 N (F361_58 N k) x
noncomputable def C361_58 (N : Nat) (k : Nat) : Cut := L361_58.cut (F361_58 N k)
theorem C361_58_ok (N : Nat) (k : Nat) : CutAt Tryz.prog false Tryz.f361 [] 58 (C361_58 N k) :=
  L361_58.loopT ownT mix (tab361_ok N) Tryz.f361 [] (cuts := []) trivial (by decide +kernel) (by kernel_rfl) (B361_58 N) (F361_58 N) (fun _ => rfl) (fun _ _ => rfl) (fun f x => by kernel_rfl) k
@[reducible] def L361_250 : LD := ⟨250, [6, 27, 26, 25], [(.ret, [2]), (.exit 2, [6])], ⟨[.sl 0, .int .i64, .int .i64, .ro (.sl (.int .i64))], [.row (.int .i64) 3]⟩, [(.exit 2, ⟨[.sl 0], [.row (.int .i64) 3]⟩)]⟩
abbrev P361_250 : Type := Int × Int × (List (List Int)) × (List Int)
abbrev R361_250 : Type := (List Int)
noncomputable def B361_250 (N : Nat) (f : P361_250 → Option R361_250) : P361_250 → Option R361_250
  | (x0, x1, x2, x3) =>
  iteP (decide (x0 < x1)) (
    iteP (within x0 (List.length x2)) (
      Option.bind (x2[Int.toNat x0]?) fun y0 =>
      iteP (decide ((List.length x3 + List.length y0) * (8 : Nat) ≤ (140737488355328 : Nat) ∧ List.length x3 + List.length y0 ≤ (140737488355328 : Nat))) (
        Option.bind (f (IntKind.wrap IntKind.i64 (x0 + (1 : Int)), x1, x2, x3 ++ y0)) fun r => some r) (
        none )) (
      none )) (
    some (x3))
noncomputable def F361_250 (N : Nat) : Nat → P361_250 → Option R361_250
  | 0, _ => none
  | k + 1, x => B361_250 N (F361_250 N k) x
noncomputable def C361_250 (N : Nat) (k : Nat) : Cut := L361_250.cut (F361_250 N k)
theorem C361_250_ok (N : Nat) (k : Nat) : CutAt Tryz.prog false Tryz.f361 [] 250 (C361_250 N k) :=
  L361_250.loopT ownT mix (tab361_ok N) Tryz.f361 [] (cuts := [(58, C361_58 N N)]) ⟨C361_58_ok N N, trivial⟩ (by decide +kernel) (by kernel_rfl) (B361_250 N) (F361_250 N) (fun _ => rfl) (fun _ _ => rfl) (fun f x => by kernel_rfl) k
@[reducible] def w361 : List SP := [⟨[.sl 0], [.row (.int .i64) 3]⟩]
noncomputable def F361 (N : Nat) : ((List (List Int))) → Option ((List Int))
  | x0 =>
  Option.bind (F361_58 N N ((0 : Int), (0 : Int), (↑(List.length x0) : Int), x0, x0)) fun y0 =>
  Option.bind (F379 N y0.1) fun y1 =>
  match y1 with
  | .inl y2 =>
    Option.bind (F361_250 N N ((0 : Int), (↑(List.length y0.2) : Int), y0.2, [])) fun y3 =>
    some (y3)
  | .inr y2 =>
    Option.bind (F361_250 N N ((0 : Int), (↑(List.length y0.2) : Int), y0.2, y2)) fun y4 =>
    some (y4)
noncomputable def T361 (N : Nat) : Pk → Tr Pk := tellS s361 w361 (F361 N)
theorem T361_ok (N : Nat) : FOK Tryz.prog (361) (T361 N) :=
  (fn_ok2 ownT mix (tab361_ok N) Tryz.func361 s361 w361 [] (cuts := [(58, C361_58 N N), (250, C361_250 N N)]) ⟨C361_58_ok N N, C361_250_ok N N, trivial⟩ (fun _ => by kernel_rfl) (by decide +kernel) (F361 N) (fun x => by kernel_rfl))
@[reducible] def s377 : SP := ⟨[.ro y2], []⟩
noncomputable def tab377 (N : Nat) : List (Nat × (Pk → Tr Pk)) := [(361, T361 N)]
theorem tab377_ok (N : Nat) : TabOK Tryz.prog (tab377 N) := ⟨T361_ok N, trivial⟩
@[reducible] def L377_58 : LD := ⟨58, [3, 4, 0], [(.ret, [2]), (.exit 0, [3])], ⟨[.sl 0, .int .i64, .ro y2], [.row y2 391]⟩, [(.exit 0, ⟨[.sl 0], [.row y2 391]⟩)]⟩
abbrev P377_58 : Type := Int × (List (Int × ((List Int) × Unit))) × (List (Int × ((List Int) × Unit)))
abbrev R377_58 : Type := (List (Int × ((List Int) × Unit)))
noncomputable def B377_58 (N : Nat) (f : P377_58 → Option R377_58) : P377_58 → Option R377_58
  | (x0, x1, x2) =>
  iteP (decide (IntKind.wrap IntKind.i64 (x0 + (1 : Int)) < (↑(List.length x1) : Int))) (
    iteP (within x0 (List.length x1)) (
      Option.bind (x1[Int.toNat x0]?) fun y0 =>
      iteP (within (IntKind.wrap IntKind.i64 (x0 + (1 : Int))) (List.length x1)) (
        Option.bind (x1[Int.toNat (IntKind.wrap IntKind.i64 (x0 + (1 : Int)))]?) fun y1 =>
        iteP (within x0 (List.length x1)) (
          Option.bind (x1[Int.toNat x0]?) fun y2 =>
          iteP (within (IntKind.wrap IntKind.i64 (x0 + (1 : Int))) (List.length x1)) (
            Option.bind (x1[Int.toNat (IntKind.wrap IntKind.i64 (x0 + (1 : Int)))]?) fun y3 =>
            Option.bind (F361 N [y2.2.1, y3.2.1]) fun y4 =>
            iteP (decide ((List.length x2 + List.length [(IntKind.wrap IntKind.i64 (y0.1 + y1.1), y4, ())]) * (32 : Nat) ≤ (140737488355328 : Nat) ∧ List.length x2 + List.length [(IntKind.wrap IntKind.i64 (y0.1 + y1.1), y4, ())] ≤ (140737488355328 : Nat))) (
              Option.bind (f (IntKind.wrap IntKind.i64 (x0 + (2 : Int)), x1, x2 ++ [(IntKind.wrap IntKind.i64 (y0.1 + y1.1), y4, ())])) fun r => some r) (
              none )) (
            none )) (
          none )) (
        none )) (
      none )) (
    some (x2))
noncomputable def F377_58 (N : Nat) : Nat → P377_58 → Option R377_58
  | 0, _ => none
  | k + 1, x => B377_58 N (F377_58 N k) x
noncomputable def C377_58 (N : Nat) (k : Nat) : Cut := L377_58.cut (F377_58 N k)
theorem C377_58_ok (N : Nat) (k : Nat) : CutAt Tryz.prog false Tryz.f377 [] 58 (C377_58 N k) :=
  L377_58.loopT ownT mix (tab377_ok N) Tryz.f377 [] (cuts := []) trivial (by decide +kernel) (by kernel_rfl) (B377_58 N) (F377_58 N) (fun _ => rfl) (fun _ _ => rfl) (fun f x => by kernel_rfl) k
@[reducible] def w377 : List SP := [⟨[.sl 0], [.row y2 391]⟩]
noncomputable def F377 (N : Nat) : ((List (Int × ((List Int) × Unit)))) → Option ((List (Int × ((List Int) × Unit))))
  | x0 =>
  Option.bind (F377_58 N N ((0 : Int), x0, [])) fun y0 =>
  some (y0)
noncomputable def T377 (N : Nat) : Pk → Tr Pk := postT frzP (tellS s377 w377 (F377 N))
theorem T377_ok (N : Nat) : FOK Tryz.prog (377) (T377 N) :=
  postT_ok frzP_ok (fn_ok2 ownT mix (tab377_ok N) Tryz.func377 s377 w377 [] (cuts := [(58, C377_58 N N)]) ⟨C377_58_ok N N, trivial⟩ (fun _ => by kernel_rfl) (by decide +kernel) (F377 N) (fun x => by kernel_rfl)) (by decide +kernel)
@[reducible] def s358 : SP := ⟨[.ro (.int .i64), .int .i64], []⟩
noncomputable def tab358 (N : Nat) : List (Nat × (Pk → Tr Pk)) := [(375, T375 N), (377, T377 N), (376, T376 N)]
theorem tab358_ok (N : Nat) : TabOK Tryz.prog (tab358 N) := ⟨T375_ok N, T377_ok N, T376_ok N, trivial⟩
@[reducible] def L358_4090 : LD := ⟨4090, [9, 61, 60, 8, 6], [(.ret, [4, 5]), (.exit 1, [9, 6, 8])], ⟨[.ro y2, .int .i64, .int .i64, .sl 0, .ro y2], [.row (.int .i64) 3]⟩, [(.exit 1, ⟨[.ro y2, .ro y2, .sl 0], [.row (.int .i64) 3]⟩)]⟩
abbrev P358_4090 : Type := (List (Int × ((List Int) × Unit))) × Int × Int × (List (Int × ((List Int) × Unit))) × (List Int)
abbrev R358_4090 : Type := (List (Int × ((List Int) × Unit))) × (List (Int × ((List Int) × Unit))) × (List Int)
noncomputable def B358_4090 (N : Nat) (f : P358_4090 → Option R358_4090) : P358_4090 → Option R358_4090
  | (x0, x1, x2, x3, x4) =>
  iteP (decide (x1 < x2)) (
    Option.bind (F377 N x0) fun y0 =>
    Option.bind (F376 N (x3, y0)) fun y1 =>
    Option.bind (f (y1, IntKind.wrap IntKind.i64 (x1 + (1 : Int)), x2, x3, x4)) fun r => some r) (
    some ((x0, x3, x4)))
noncomputable def F358_4090 (N : Nat) : Nat → P358_4090 → Option R358_4090
  | 0, _ => none
  | k + 1, x => B358_4090 N (F358_4090 N k) x
noncomputable def C358_4090 (N : Nat) (k : Nat) : Cut := L358_4090.cut (F358_4090 N k)
theorem C358_4090_ok (N : Nat) (k : Nat) : CutAt Tryz.prog false Tryz.f358 [] 4090 (C358_4090 N k) :=
  L358_4090.loopT ownT mix (tab358_ok N) Tryz.f358 [] (cuts := []) trivial (by decide +kernel) (by kernel_rfl) (B358_4090 N) (F358_4090 N) (fun _ => rfl) (fun _ _ => rfl) (fun f x => by kernel_rfl) k
@[reducible] def L358_2095718 : LD := ⟨2095718, [82, 81, 73, 74, 75, 80, 8], [(.ret, [4, 5]), (.exit 5, [75, 74, 73, 8]), (.exit 4, [75, 74, 73, 8]), (.exit 3, [8])], ⟨[.int .i64, .int .i64, .ro y2, .int .i64, .int .i64, .ro (.int .i64), .sl 0], [.row (.int .i64) 3]⟩, [(.exit 5, ⟨[.int .i64, .int .i64, .ro y2, .sl 0], [.row (.int .i64) 3]⟩)]⟩
abbrev P358_2095718 : Type := Int × Int × (List (Int × ((List Int) × Unit))) × Int × Int × (List Int) × (List Int)
abbrev R358_2095718 : Type := Int × Int × (List (Int × ((List Int) × Unit))) × (List Int)
noncomputable def B358_2095718 (N : Nat) (f : P358_2095718 → Option R358_2095718) : P358_2095718 → Option R358_2095718
  | (x0, x1, x2, x3, x4, x5, x6) =>
  iteP (decide (x0 < x1)) (
    iteP (within x0 (List.length x5)) (
      Option.bind (x5[Int.toNat x0]?) fun y0 =>
      iteP (within y0 (List.length x6)) (
        Option.bind (x6[Int.toNat y0]?) fun y1 =>
        iteP (within y0 (List.length x6)) (
          Option.bind (x6[Int.toNat y0]?) fun y2 =>
          Option.bind (f (IntKind.wrap IntKind.i64 (x0 + (1 : Int)), x1, x2, x3, x4, x5, List.set x6 (Int.toNat y0) (IntKind.wrap IntKind.i64 (y1 + (1 : Int))))) fun r => some r) (
          none )) (
        none )) (
      none )) (
    some ((x4, x3, x2, x6)))
noncomputable def F358_2095718 (N : Nat) : Nat → P358_2095718 → Option R358_2095718
  | 0, _ => none
  | k + 1, x => B358_2095718 N (F358_2095718 N k) x
noncomputable def C358_2095718 (N : Nat) (k : Nat) : Cut := L358_2095718.cut (F358_2095718 N k)
theorem C358_2095718_ok (N : Nat) (k : Nat) : CutAt Tryz.prog false Tryz.f358 [] 2095718 (C358_2095718 N k) :=
  L358_2095718.loopT ownT mix (tab358_ok N) Tryz.f358 [] (cuts := [(4090, C358_4090 N N)]) ⟨C358_4090_ok N N, trivial⟩ (by decide +kernel) (by kernel_rfl) (B358_2095718 N) (F358_2095718 N) (fun _ => rfl) (fun _ _ => rfl) (fun f x => by kernel_rfl) k
@[reducible] def L358_8186 : LD := ⟨8186, [74, 73, 75, 8], [(.ret, [4, 5]), (.exit 3, [8])], ⟨[.int .i64, .ro y2, .int .i64, .sl 0], [.row (.int .i64) 3]⟩, [(.exit 3, ⟨[.sl 0], [.row (.int .i64) 3]⟩)]⟩
abbrev P358_8186 : Type := Int × (List (Int × ((List Int) × Unit))) × Int × (List Int)
abbrev R358_8186 : Type := (List Int)
noncomputable def B358_8186 (N : Nat) (f : P358_8186 → Option R358_8186) : P358_8186 → Option R358_8186
  | (x0, x1, x2, x3) =>
  iteP (decide (x2 < x0)) (
    iteP (within x2 (List.length x1)) (
      Option.bind (x1[Int.toNat x2]?) fun y0 =>
      Option.bind (F358_2095718 N N ((0 : Int), (↑(List.length y0.2.1) : Int), x1, x0, x2, y0.2.1, x3)) fun y1 =>
      Option.bind (f (y1.2.1, y1.2.2.1, IntKind.wrap IntKind.i64 (y1.1 + (1 : Int)), y1.2.2.2)) fun r => some r) (
      none )) (
    some (x3))
noncomputable def F358_8186 (N : Nat) : Nat → P358_8186 → Option R358_8186
  | 0, _ => none
  | k + 1, x => B358_8186 N (F358_8186 N k) x
noncomputable def C358_8186 (N : Nat) (k : Nat) : Cut := L358_8186.cut (F358_8186 N k)
theorem C358_8186_ok (N : Nat) (k : Nat) : CutAt Tryz.prog false Tryz.f358 [] 8186 (C358_8186 N k) :=
  L358_8186.loopT ownT mix (tab358_ok N) Tryz.f358 [] (cuts := [(4090, C358_4090 N N), (2095718, C358_2095718 N N)]) ⟨C358_4090_ok N N, C358_2095718_ok N N, trivial⟩ (by decide +kernel) (by kernel_rfl) (B358_8186 N) (F358_8186 N) (fun _ => rfl) (fun _ _ => rfl) (fun f x => by kernel_rfl) k
@[reducible] def L358_7 : LD := ⟨7, [0, 1], [(.ret, [4, 5]), (.normal, [4, 5])], ⟨[.ro (.int .i64), .int .i64], []⟩, [(.ret, ⟨[.sl 0, .int .i64], [.row (.int .i64) 3]⟩)]⟩
noncomputable def F358_7 (N : Nat) : ((List Int) × Int) → Option (Int × (List Int))
  | (x0, x1) =>
  Option.bind (F375 N x0) fun y0 =>
  match y0 with
  | .inl y1 =>
    iteP (y1.1 != (0 : Int)) (
      some ((y1.1, []))) (
      iteP (decide (x1 < (0 : Int))) (
        none ) (
        iteP (decide ((↑(List.length y1.2) : Int) > IntKind.wrap IntKind.i64 ((1 : Int) * (2 : Int) ^ min (Int.toNat x1) (64 : Nat)))) (
          some (((50 : Int), []))) (
          iteP (decide ((0 : Int) ≤ (↑(List.length x0) : Int) ∧ (↑(List.length x0) : Int) ≤ (↑(List.length x0) : Int) ∧ (↑(List.length x0) : Int) * (8 : Int) ≤ (140737488355328 : Int) ∧ (↑(List.length x0) : Int) ≤ (140737488355328 : Int))) (
            iteP ((↑(List.length y1.2) : Int) == (1 : Int)) (
              iteP (within (0 : Int) (List.length y1.2)) (
                Option.bind (y1.2[(0 : Nat)]?) fun y2 =>
                iteP (within (0 : Int) (List.length y2.2.1)) (
                  Option.bind (y2.2.1[(0 : Nat)]?) fun y3 =>
                  iteP (within y3 (List.length (List.replicate (Int.toNat (↑(List.length x0) : Int)) (0 : Int)))) (
                    Option.bind ((List.replicate (Int.toNat (↑(List.length x0) : Int)) (0 : Int))[Int.toNat y3]?) fun y4 =>
                    iteP (decide ((↑(List.length y1.2) : Int) < (2 : Int))) (
                      some (((0 : Int), List.set (List.replicate (Int.toNat (↑(List.length x0) : Int)) (0 : Int)) (Int.toNat y3) (1 : Int)))) (
                      Option.bind (F358_4090 N N (y1.2, (0 : Int), IntKind.wrap IntKind.i64 (x1 - (1 : Int)), y1.2, List.set (List.replicate (Int.toNat (↑(List.length x0) : Int)) (0 : Int)) (Int.toNat y3) (1 : Int))) fun y5 =>
                      iteP (decide ((0 : Int) ≤ IntKind.wrap IntKind.i64 (IntKind.wrap IntKind.i64 ((2 : Int) * (↑(List.length y5.2.1) : Int)) - (2 : Int)) ∧ IntKind.wrap IntKind.i64 (IntKind.wrap IntKind.i64 ((2 : Int) * (↑(List.length y5.2.1) : Int)) - (2 : Int)) ≤ (↑(List.length y5.1) : Int))) (
                        Option.bind (F358_8186 N N ((↑(List.length (List.take (Int.toNat (IntKind.wrap IntKind.i64 (IntKind.wrap IntKind.i64 ((2 : Int) * (↑(List.length y5.2.1) : Int)) - (2 : Int))) - (0 : Nat)) (List.drop (0 : Nat) y5.1))) : Int), List.take (Int.toNat (IntKind.wrap IntKind.i64 (IntKind.wrap IntKind.i64 ((2 : Int) * (↑(List.length y5.2.1) : Int)) - (2 : Int))) - (0 : Nat)) (List.drop (0 : Nat) y5.1), (0 : Int), y5.2.2)) fun y6 =>
                        some (((0 : Int), y6))) (
                        none ))) (
                    none )) (
                  none )) (
                none )) (
              iteP (decide ((↑(List.length y1.2) : Int) < (2 : Int))) (
                some (((0 : Int), List.replicate (Int.toNat (↑(List.length x0) : Int)) (0 : Int)))) (
                Option.bind (F358_4090 N N (y1.2, (0 : Int), IntKind.wrap IntKind.i64 (x1 - (1 : Int)), y1.2, List.replicate (Int.toNat (↑(List.length x0) : Int)) (0 : Int))) fun y7 =>
                iteP (decide ((0 : Int) ≤ IntKind.wrap IntKind.i64 (IntKind.wrap IntKind.i64 ((2 : Int) * (↑(List.length y7.2.1) : Int)) - (2 : Int)) ∧ IntKind.wrap IntKind.i64 (IntKind.wrap IntKind.i64 ((2 : Int) * (↑(List.length y7.2.1) : Int)) - (2 : Int)) ≤ (↑(List.length y7.1) : Int))) (
                  Option.bind (F358_8186 N N ((↑(List.length (List.take (Int.toNat (IntKind.wrap IntKind.i64 (IntKind.wrap IntKind.i64 ((2 : Int) * (↑(List.length y7.2.1) : Int)) - (2 : Int))) - (0 : Nat)) (List.drop (0 : Nat) y7.1))) : Int), List.take (Int.toNat (IntKind.wrap IntKind.i64 (IntKind.wrap IntKind.i64 ((2 : Int) * (↑(List.length y7.2.1) : Int)) - (2 : Int))) - (0 : Nat)) (List.drop (0 : Nat) y7.1), (0 : Int), y7.2.2)) fun y8 =>
                  some (((0 : Int), y8))) (
                  none )))) (
            none ))))
  | .inr y1 =>
    iteP (y1.2 != (0 : Int)) (
      some ((y1.2, []))) (
      iteP (decide (x1 < (0 : Int))) (
        none ) (
        iteP (decide ((↑(List.length y1.1) : Int) > IntKind.wrap IntKind.i64 ((1 : Int) * (2 : Int) ^ min (Int.toNat x1) (64 : Nat)))) (
          some (((50 : Int), []))) (
          iteP (decide ((0 : Int) ≤ (↑(List.length x0) : Int) ∧ (↑(List.length x0) : Int) ≤ (↑(List.length x0) : Int) ∧ (↑(List.length x0) : Int) * (8 : Int) ≤ (140737488355328 : Int) ∧ (↑(List.length x0) : Int) ≤ (140737488355328 : Int))) (
            iteP ((↑(List.length y1.1) : Int) == (1 : Int)) (
              iteP (within (0 : Int) (List.length y1.1)) (
                Option.bind (y1.1[(0 : Nat)]?) fun y9 =>
                iteP (within (0 : Int) (List.length y9.2.1)) (
                  Option.bind (y9.2.1[(0 : Nat)]?) fun y10 =>
                  iteP (within y10 (List.length (List.replicate (Int.toNat (↑(List.length x0) : Int)) (0 : Int)))) (
                    Option.bind ((List.replicate (Int.toNat (↑(List.length x0) : Int)) (0 : Int))[Int.toNat y10]?) fun y11 =>
                    iteP (decide ((↑(List.length y1.1) : Int) < (2 : Int))) (
                      some (((0 : Int), List.set (List.replicate (Int.toNat (↑(List.length x0) : Int)) (0 : Int)) (Int.toNat y10) (1 : Int)))) (
                      Option.bind (F358_4090 N N (y1.1, (0 : Int), IntKind.wrap IntKind.i64 (x1 - (1 : Int)), y1.1, List.set (List.replicate (Int.toNat (↑(List.length x0) : Int)) (0 : Int)) (Int.toNat y10) (1 : Int))) fun y12 =>
                      iteP (decide ((0 : Int) ≤ IntKind.wrap IntKind.i64 (IntKind.wrap IntKind.i64 ((2 : Int) * (↑(List.length y12.2.1) : Int)) - (2 : Int)) ∧ IntKind.wrap IntKind.i64 (IntKind.wrap IntKind.i64 ((2 : Int) * (↑(List.length y12.2.1) : Int)) - (2 : Int)) ≤ (↑(List.length y12.1) : Int))) (
                        Option.bind (F358_8186 N N ((↑(List.length (List.take (Int.toNat (IntKind.wrap IntKind.i64 (IntKind.wrap IntKind.i64 ((2 : Int) * (↑(List.length y12.2.1) : Int)) - (2 : Int))) - (0 : Nat)) (List.drop (0 : Nat) y12.1))) : Int), List.take (Int.toNat (IntKind.wrap IntKind.i64 (IntKind.wrap IntKind.i64 ((2 : Int) * (↑(List.length y12.2.1) : Int)) - (2 : Int))) - (0 : Nat)) (List.drop (0 : Nat) y12.1), (0 : Int), y12.2.2)) fun y13 =>
                        some (((0 : Int), y13))) (
                        none ))) (
                    none )) (
                  none )) (
                none )) (
              iteP (decide ((↑(List.length y1.1) : Int) < (2 : Int))) (
                some (((0 : Int), List.replicate (Int.toNat (↑(List.length x0) : Int)) (0 : Int)))) (
                Option.bind (F358_4090 N N (y1.1, (0 : Int), IntKind.wrap IntKind.i64 (x1 - (1 : Int)), y1.1, List.replicate (Int.toNat (↑(List.length x0) : Int)) (0 : Int))) fun y14 =>
                iteP (decide ((0 : Int) ≤ IntKind.wrap IntKind.i64 (IntKind.wrap IntKind.i64 ((2 : Int) * (↑(List.length y14.2.1) : Int)) - (2 : Int)) ∧ IntKind.wrap IntKind.i64 (IntKind.wrap IntKind.i64 ((2 : Int) * (↑(List.length y14.2.1) : Int)) - (2 : Int)) ≤ (↑(List.length y14.1) : Int))) (
                  Option.bind (F358_8186 N N ((↑(List.length (List.take (Int.toNat (IntKind.wrap IntKind.i64 (IntKind.wrap IntKind.i64 ((2 : Int) * (↑(List.length y14.2.1) : Int)) - (2 : Int))) - (0 : Nat)) (List.drop (0 : Nat) y14.1))) : Int), List.take (Int.toNat (IntKind.wrap IntKind.i64 (IntKind.wrap IntKind.i64 ((2 : Int) * (↑(List.length y14.2.1) : Int)) - (2 : Int))) - (0 : Nat)) (List.drop (0 : Nat) y14.1), (0 : Int), y14.2.2)) fun y15 =>
                  some (((0 : Int), y15))) (
                  none )))) (
            none ))))
noncomputable def C358_7 (N : Nat) (_ : Nat) : Cut := L358_7.cut (F358_7 N)
theorem C358_7_ok (N : Nat) (k : Nat) : CutAt Tryz.prog false Tryz.f358 [] 7 (C358_7 N k) :=
  L358_7.pieceT ownT mix (tab358_ok N) Tryz.f358 [] (cuts := [(4090, C358_4090 N N), (2095718, C358_2095718 N N), (8186, C358_8186 N N)]) ⟨C358_4090_ok N N, C358_2095718_ok N N, C358_8186_ok N N, trivial⟩ (by decide +kernel) (by kernel_rfl) (F358_7 N) (fun x => by kernel_rfl)
@[reducible] def w358 : List SP := [⟨[.tup [.sl 0, .int .i64]], [.row (.int .i64) 3]⟩]
noncomputable def F358 (N : Nat) : ((List Int) × Int) → Option (Int × (List Int))
  | (x0, x1) =>
  iteP (decide ((↑(List.length x0) : Int) > (320 : Int))) (
    some (((1 : Int), []))) (
    iteP (decide (x1 < (1 : Int))) (
      some (((1 : Int), []))) (
      iteP (decide (x1 > (15 : Int))) (
        some (((1 : Int), []))) (
        Option.bind (F358_7 N (x0, x1)) fun y0 =>
        some ((y0.1, y0.2)))))
noncomputable def T358 (N : Nat) : Pk → Tr Pk := tellS s358 w358 (F358 N)
theorem T358_ok (N : Nat) : FOK Tryz.prog (358) (T358 N) :=
  (fn_ok2 ownT mix (tab358_ok N) Tryz.func358 s358 w358 [] (cuts := [(4090, C358_4090 N N), (2095718, C358_2095718 N N), (8186, C358_8186 N N), (7, C358_7 N N)]) ⟨C358_4090_ok N N, C358_2095718_ok N N, C358_8186_ok N N, C358_7_ok N N, trivial⟩ (fun _ => by kernel_rfl) (by decide +kernel) (F358 N) (fun x => by kernel_rfl))
@[reducible] def s340 : SP := ⟨[.ro (.int .i64)], []⟩
noncomputable def tab340 (N : Nat) : List (Nat × (Pk → Tr Pk)) := [(358, T358 N)]
theorem tab340_ok (N : Nat) : TabOK Tryz.prog (tab340 N) := ⟨T358_ok N, trivial⟩
@[reducible] def w340 : List SP := [⟨[.sl 0], [.row (.int .i64) 3]⟩]
noncomputable def F340 (N : Nat) : ((List Int)) → Option ((List Int))
  | x0 =>
  Option.bind (F358 N (x0, (15 : Int))) fun y0 =>
  some y0.2
noncomputable def T340 (N : Nat) : Pk → Tr Pk := tellS s340 w340 (F340 N)
theorem T340_ok (N : Nat) : FOK Tryz.prog (340) (T340 N) :=
  (fn_ok2 ownT mix (tab340_ok N) Tryz.func340 s340 w340 [] (cuts := []) trivial (fun _ => by kernel_rfl) (by decide +kernel) (F340 N) (fun x => by kernel_rfl))
@[reducible] def s339 : SP := ⟨[.ro (.int .i64), .int .i64], []⟩
noncomputable def tab339 (N : Nat) : List (Nat × (Pk → Tr Pk)) := []
theorem tab339_ok (N : Nat) : TabOK Tryz.prog (tab339 N) := trivial
@[reducible] def L339_28 : LD := ⟨28, [5, 1, 0], [(.ret, [4]), (.exit 0, [0, 5])], ⟨[.int .i64, .int .i64, .ro (.int .i64)], []⟩, [(.exit 0, ⟨[.ro (.int .i64), .int .i64], []⟩)]⟩
abbrev P339_28 : Type := Int × Int × (List Int)
abbrev R339_28 : Type := (List Int) × Int
noncomputable def B339_28 (N : Nat) (f : P339_28 → Option R339_28) : P339_28 → Option R339_28
  | (x0, x1, x2) =>
  iteP (decide (x0 > x1)) (
    iteP (within (IntKind.wrap IntKind.i64 (x0 - (1 : Int))) (List.length x2)) (
      Option.bind (x2[Int.toNat (IntKind.wrap IntKind.i64 (x0 - (1 : Int)))]?) fun y0 =>
      iteP (y0 == (0 : Int)) (
        Option.bind (f (IntKind.wrap IntKind.i64 (x0 - (1 : Int)), x1, x2)) fun r => some r) (
        some ((x2, x0)))) (
      none )) (
    some ((x2, x0)))
noncomputable def F339_28 (N : Nat) : Nat → P339_28 → Option R339_28
  | 0, _ => none
  | k + 1, x => B339_28 N (F339_28 N k) x
noncomputable def C339_28 (N : Nat) (k : Nat) : Cut := L339_28.cut (F339_28 N k)
theorem C339_28_ok (N : Nat) (k : Nat) : CutAt Tryz.prog false Tryz.f339 [] 28 (C339_28 N k) :=
  L339_28.loopT ownT mix (tab339_ok N) Tryz.f339 [] (cuts := []) trivial (by decide +kernel) (by kernel_rfl) (B339_28 N) (F339_28 N) (fun _ => rfl) (fun _ _ => rfl) (fun f x => by kernel_rfl) k
@[reducible] def w339 : List SP := [⟨[.ro (.int .i64)], []⟩]
noncomputable def F339 (N : Nat) : ((List Int) × Int) → Option ((List Int))
  | (x0, x1) =>
  Option.bind (F339_28 N N ((↑(List.length x0) : Int), x1, x0)) fun y0 =>
  iteP (decide ((0 : Int) ≤ y0.2 ∧ y0.2 ≤ (↑(List.length y0.1) : Int))) (
    some (List.take (Int.toNat y0.2 - (0 : Nat)) (List.drop (0 : Nat) y0.1))) (
    none )
noncomputable def T339 (N : Nat) : Pk → Tr Pk := tellS s339 w339 (F339 N)
theorem T339_ok (N : Nat) : FOK Tryz.prog (339) (T339 N) :=
  (fn_ok2 ownT mix (tab339_ok N) Tryz.func339 s339 w339 [] (cuts := [(28, C339_28 N N)]) ⟨C339_28_ok N N, trivial⟩ (fun _ => by kernel_rfl) (by decide +kernel) (F339 N) (fun x => by kernel_rfl))
@[reducible] def s359 : SP := ⟨[.int .i64], []⟩
noncomputable def tab359 (N : Nat) : List (Nat × (Pk → Tr Pk)) := []
theorem tab359_ok (N : Nat) : TabOK Tryz.prog (tab359 N) := trivial
@[reducible] def w359 : List SP := [⟨[.bool], []⟩]
noncomputable def F359 (N : Nat) : (Int) → Option (Bool)
  | x0 =>
  iteP (decide (x0 < (0 : Int))) (
    some (true)) (
    some (decide (x0 > (15 : Int))))
noncomputable def T359 (N : Nat) : Pk → Tr Pk := tellS s359 w359 (F359 N)
theorem T359_ok (N : Nat) : FOK Tryz.prog (359) (T359 N) :=
  (fn_ok2 ownT mix (tab359_ok N) Tryz.func359 s359 w359 [] (cuts := []) trivial (fun _ => by kernel_rfl) (by decide +kernel) (F359 N) (fun x => by kernel_rfl))
@[reducible] def s109b : SP := ⟨[.ro (.int .i64), .fn 359], []⟩
noncomputable def tab109b (N : Nat) : List (Nat × (Pk → Tr Pk)) := [(359, T359 N)]
theorem tab109b_ok (N : Nat) : TabOK Tryz.prog (tab109b N) := ⟨T359_ok N, trivial⟩
@[reducible] def L109b_26 : LD := ⟨26, [7, 1, 0, 8], [(.ret, [4]), (.exit 0, [])], ⟨[.int .i64, .fn 359, .ro (.int .i64), .int .i64], []⟩, [(.ret, ⟨[.int .i64], []⟩), (.exit 0, ⟨[], []⟩)]⟩
abbrev P109b_26 : Type := Int × (List Int) × Int
abbrev R109b_26 : Type := ((Int) ⊕ (Unit))
noncomputable def B109b_26 (N : Nat) (f : P109b_26 → Option R109b_26) : P109b_26 → Option R109b_26
  | (x0, x1, x2) =>
  iteP (decide (x2 < x0)) (
    iteP (within x2 (List.length x1)) (
      Option.bind (x1[Int.toNat x2]?) fun y0 =>
      Option.bind (F359 N y0) fun y1 =>
      iteP (y1) (
        some (.inl (x2))) (
        Option.bind (f (x0, x1, IntKind.wrap IntKind.i64 (x2 + (1 : Int)))) fun r => match r with | .inl y => some (.inl y) | .inr y => some (.inr y))) (
      none )) (
    some (.inr (())))
noncomputable def F109b_26 (N : Nat) : Nat → P109b_26 → Option R109b_26
  | 0, _ => none
  | k + 1, x => B109b_26 N (F109b_26 N k) x
noncomputable def C109b_26 (N : Nat) (k : Nat) : Cut := L109b_26.cut (F109b_26 N k)
theorem C109b_26_ok (N : Nat) (k : Nat) : CutAt Tryz.prog false Tryz.f109 [] 26 (C109b_26 N k) :=
  L109b_26.loopT ownT mix (tab109b_ok N) Tryz.f109 [] (cuts := []) trivial (by decide +kernel) (by kernel_rfl) (B109b_26 N) (F109b_26 N) (fun _ => rfl) (fun _ _ => rfl) (fun f x => by kernel_rfl) k
@[reducible] def w109b : List SP := [⟨[.int .i64], []⟩]
noncomputable def F109b (N : Nat) : ((List Int)) → Option (Int)
  | x0 =>
  Option.bind (F109b_26 N N ((↑(List.length x0) : Int), x0, (0 : Int))) fun y0 =>
  match y0 with
  | .inl y1 =>
    some (y1)
  | .inr y1 =>
    some ((-1 : Int))
noncomputable def T109b (N : Nat) : Pk → Tr Pk := tellS s109b w109b (F109b N)
theorem T109b_ok (N : Nat) : FOK Tryz.prog (109) (T109b N) :=
  (fn_ok2 ownT mix (tab109b_ok N) Tryz.func109 s109b w109b [] (cuts := [(26, C109b_26 N N)]) ⟨C109b_26_ok N N, trivial⟩ (fun _ => by kernel_rfl) (by decide +kernel) (F109b N) (fun x => by kernel_rfl))
@[reducible] def s77b : SP := ⟨[.ro (.int .i64), .fn 359], []⟩
noncomputable def tab77b (N : Nat) : List (Nat × (Pk → Tr Pk)) := [(109, T109b N)]
theorem tab77b_ok (N : Nat) : TabOK Tryz.prog (tab77b N) := ⟨T109b_ok N, trivial⟩
@[reducible] def w77b : List SP := [⟨[.bool], []⟩]
noncomputable def F77b (N : Nat) : ((List Int)) → Option (Bool)
  | x0 =>
  Option.bind (F109b N x0) fun y0 =>
  some (decide (y0 ≥ (0 : Int)))
noncomputable def T77b (N : Nat) : Pk → Tr Pk := tellS s77b w77b (F77b N)
theorem T77b_ok (N : Nat) : FOK Tryz.prog (77) (T77b N) :=
  (fn_ok2 ownT mix (tab77b_ok N) Tryz.func77 s77b w77b [] (cuts := []) trivial (fun _ => by kernel_rfl) (by decide +kernel) (F77b N) (fun x => by kernel_rfl))
@[reducible] def s378 : SP := ⟨[.ro (.int .i64), .int .i64, .int .i64], []⟩
noncomputable def tab378 (N : Nat) : List (Nat × (Pk → Tr Pk)) := []
theorem tab378_ok (N : Nat) : TabOK Tryz.prog (tab378 N) := trivial
@[reducible] def L378_28 : LD := ⟨28, [7, 2, 0, 1], [(.ret, [6]), (.exit 0, [7])], ⟨[.int .i64, .int .i64, .ro (.int .i64), .int .i64], []⟩, [(.exit 0, ⟨[.int .i64], []⟩)]⟩
abbrev P378_28 : Type := Int × Int × (List Int) × Int
abbrev R378_28 : Type := Int
noncomputable def B378_28 (N : Nat) (f : P378_28 → Option R378_28) : P378_28 → Option R378_28
  | (x0, x1, x2, x3) =>
  iteP (decide (x0 < x1)) (
    iteP (decide (IntKind.wrap IntKind.i64 (x3 + x0) < (↑(List.length x2) : Int))) (
      iteP (within (IntKind.wrap IntKind.i64 (x3 + x0)) (List.length x2)) (
        Option.bind (x2[Int.toNat (IntKind.wrap IntKind.i64 (x3 + x0))]?) fun y0 =>
        iteP (within x3 (List.length x2)) (
          Option.bind (x2[Int.toNat x3]?) fun y1 =>
          iteP (y0 == y1) (
            Option.bind (f (IntKind.wrap IntKind.i64 (x0 + (1 : Int)), x1, x2, x3)) fun r => some r) (
            some (x0))) (
          none )) (
        none )) (
      some (x0))) (
    some (x0))
noncomputable def F378_28 (N : Nat) : Nat → P378_28 → Option R378_28
  | 0, _ => none
  | k + 1, x => B378_28 N (F378_28 N k) x
noncomputable def C378_28 (N : Nat) (k : Nat) : Cut := L378_28.cut (F378_28 N k)
theorem C378_28_ok (N : Nat) (k : Nat) : CutAt Tryz.prog false Tryz.f378 [] 28 (C378_28 N k) :=
  L378_28.loopT ownT mix (tab378_ok N) Tryz.f378 [] (cuts := []) trivial (by decide +kernel) (by kernel_rfl) (B378_28 N) (F378_28 N) (fun _ => rfl) (fun _ _ => rfl) (fun f x => by kernel_rfl) k
@[reducible] def w378 : List SP := [⟨[.int .i64], []⟩]
noncomputable def F378 (N : Nat) : ((List Int) × Int × Int) → Option (Int)
  | (x0, x1, x2) =>
  Option.bind (F378_28 N N ((1 : Int), x2, x0, x1)) fun y0 =>
  some (y0)
noncomputable def T378 (N : Nat) : Pk → Tr Pk := tellS s378 w378 (F378 N)
theorem T378_ok (N : Nat) : FOK Tryz.prog (378) (T378 N) :=
  (fn_ok2 ownT mix (tab378_ok N) Tryz.func378 s378 w378 [] (cuts := [(28, C378_28 N N)]) ⟨C378_28_ok N N, trivial⟩ (fun _ => by kernel_rfl) (by decide +kernel) (F378 N) (fun x => by kernel_rfl))
@[reducible] def s360 : SP := ⟨[.ro (.int .i64)], []⟩
noncomputable def tab360 (N : Nat) : List (Nat × (Pk → Tr Pk)) := [(378, T378 N)]
theorem tab360_ok (N : Nat) : TabOK Tryz.prog (tab360 N) := ⟨T378_ok N, trivial⟩
@[reducible] def L360_29863 : LD := ⟨29863, [37, 3, 4, 5, 0], [(.ret, [2]), (.exit 2, [4, 5, 3, 0]), (.exit 1, [3, 4, 0]), (.exit 0, [3]), (.normal, [4, 5, 3, 0])], ⟨[.bool, .sl 0, .int .i64, .int .i64, .ro (.int .i64)], [.row y0 373]⟩, [(.normal, ⟨[.int .i64, .int .i64, .sl 0, .ro (.int .i64)], [.row y0 373]⟩)]⟩
noncomputable def F360_29863 (N : Nat) : (Bool × Int × Int × (List Int) × (List (Int × (Int × (Int × Unit))))) → Option (Int × Int × (List Int) × (List (Int × (Int × (Int × Unit)))))
  | (x0, x1, x2, x3, x4) =>
  iteP (x0) (
    iteP (decide ((List.length x4 + List.length [((17 : Int), (3 : Int), IntKind.wrap IntKind.i64 (x2 - (3 : Int)), ())]) * (24 : Nat) ≤ (140737488355328 : Nat) ∧ List.length x4 + List.length [((17 : Int), (3 : Int), IntKind.wrap IntKind.i64 (x2 - (3 : Int)), ())] ≤ (140737488355328 : Nat))) (
      some ((x1, x2, x3, x4 ++ [((17 : Int), (3 : Int), IntKind.wrap IntKind.i64 (x2 - (3 : Int)), ())]))) (
      none )) (
    iteP (decide (x1 > (0 : Int))) (
      iteP (within x1 (List.length x3)) (
        Option.bind (x3[Int.toNat x1]?) fun y0 =>
        iteP (within (IntKind.wrap IntKind.i64 (x1 - (1 : Int))) (List.length x3)) (
          Option.bind (x3[Int.toNat (IntKind.wrap IntKind.i64 (x1 - (1 : Int)))]?) fun y1 =>
          iteP (y0 == y1) (
            iteP (decide (x2 > (2 : Int))) (
              iteP (decide ((List.length x4 + List.length [((16 : Int), (2 : Int), IntKind.wrap IntKind.i64 ((if (6 : Int) < x2 then (6 : Int) else x2) - (3 : Int)), ())]) * (24 : Nat) ≤ (140737488355328 : Nat) ∧ List.length x4 + List.length [((16 : Int), (2 : Int), IntKind.wrap IntKind.i64 ((if (6 : Int) < x2 then (6 : Int) else x2) - (3 : Int)), ())] ≤ (140737488355328 : Nat))) (
                some ((x1, if (6 : Int) < x2 then (6 : Int) else x2, x3, x4 ++ [((16 : Int), (2 : Int), IntKind.wrap IntKind.i64 ((if (6 : Int) < x2 then (6 : Int) else x2) - (3 : Int)), ())]))) (
                none )) (
              iteP (within x1 (List.length x3)) (
                Option.bind (x3[Int.toNat x1]?) fun y2 =>
                iteP (decide ((List.length x4 + List.length [(y2, (0 : Int), (0 : Int), ())]) * (24 : Nat) ≤ (140737488355328 : Nat) ∧ List.length x4 + List.length [(y2, (0 : Int), (0 : Int), ())] ≤ (140737488355328 : Nat))) (
                  some ((x1, (1 : Int), x3, x4 ++ [(y2, (0 : Int), (0 : Int), ())]))) (
                  none )) (
                none ))) (
            iteP (within x1 (List.length x3)) (
              Option.bind (x3[Int.toNat x1]?) fun y3 =>
              iteP (decide ((List.length x4 + List.length [(y3, (0 : Int), (0 : Int), ())]) * (24 : Nat) ≤ (140737488355328 : Nat) ∧ List.length x4 + List.length [(y3, (0 : Int), (0 : Int), ())] ≤ (140737488355328 : Nat))) (
                some ((x1, (1 : Int), x3, x4 ++ [(y3, (0 : Int), (0 : Int), ())]))) (
                none )) (
              none ))) (
          none )) (
        none )) (
      iteP (within x1 (List.length x3)) (
        Option.bind (x3[Int.toNat x1]?) fun y4 =>
        iteP (decide ((List.length x4 + List.length [(y4, (0 : Int), (0 : Int), ())]) * (24 : Nat) ≤ (140737488355328 : Nat) ∧ List.length x4 + List.length [(y4, (0 : Int), (0 : Int), ())] ≤ (140737488355328 : Nat))) (
          some ((x1, (1 : Int), x3, x4 ++ [(y4, (0 : Int), (0 : Int), ())]))) (
          none )) (
        none )))
noncomputable def C360_29863 (N : Nat) (_ : Nat) : Cut := L360_29863.cut (F360_29863 N)
theorem C360_29863_ok (N : Nat) (k : Nat) : CutAt Tryz.prog false Tryz.f360 [] 29863 (C360_29863 N k) :=
  L360_29863.pieceT ownT mix (tab360_ok N) Tryz.f360 [] (cuts := []) trivial (by decide +kernel) (by kernel_rfl) (F360_29863 N) (fun x => by kernel_rfl)
@[reducible] def L360_7465 : LD := ⟨7465, [21, 3, 4, 5, 0], [(.ret, [2]), (.exit 2, [4, 5, 3, 0]), (.exit 1, [3, 4, 0]), (.exit 0, [3]), (.normal, [4, 5, 3, 0])], ⟨[.bool, .sl 0, .int .i64, .int .i64, .ro (.int .i64)], [.row y0 373]⟩, [(.normal, ⟨[.int .i64, .int .i64, .sl 0, .ro (.int .i64)], [.row y0 373]⟩)]⟩
noncomputable def F360_7465 (N : Nat) : (Bool × Int × Int × (List Int) × (List (Int × (Int × (Int × Unit))))) → Option (Int × Int × (List Int) × (List (Int × (Int × (Int × Unit)))))
  | (x0, x1, x2, x3, x4) =>
  iteP (x0) (
    iteP (decide ((List.length x4 + List.length [((18 : Int), (7 : Int), IntKind.wrap IntKind.i64 (x2 - (11 : Int)), ())]) * (24 : Nat) ≤ (140737488355328 : Nat) ∧ List.length x4 + List.length [((18 : Int), (7 : Int), IntKind.wrap IntKind.i64 (x2 - (11 : Int)), ())] ≤ (140737488355328 : Nat))) (
      some ((x1, x2, x3, x4 ++ [((18 : Int), (7 : Int), IntKind.wrap IntKind.i64 (x2 - (11 : Int)), ())]))) (
      none )) (
    iteP (within x1 (List.length x3)) (
      Option.bind (x3[Int.toNat x1]?) fun y0 =>
      iteP (y0 == (0 : Int)) (
        Option.bind (F360_29863 N (decide (x2 > (2 : Int)), x1, x2, x3, x4)) fun y1 =>
        some ((y1.1, y1.2.1, y1.2.2.1, y1.2.2.2))) (
        Option.bind (F360_29863 N (false, x1, x2, x3, x4)) fun y2 =>
        some ((y2.1, y2.2.1, y2.2.2.1, y2.2.2.2)))) (
      none ))
noncomputable def C360_7465 (N : Nat) (_ : Nat) : Cut := L360_7465.cut (F360_7465 N)
theorem C360_7465_ok (N : Nat) (k : Nat) : CutAt Tryz.prog false Tryz.f360 [] 7465 (C360_7465 N k) :=
  L360_7465.pieceT ownT mix (tab360_ok N) Tryz.f360 [] (cuts := [(29863, C360_29863 N N)]) ⟨C360_29863_ok N N, trivial⟩ (by decide +kernel) (by kernel_rfl) (F360_7465 N) (fun x => by kernel_rfl)
@[reducible] def L360_58 : LD := ⟨58, [3, 4, 0], [(.ret, [2]), (.exit 0, [3])], ⟨[.sl 0, .int .i64, .ro (.int .i64)], [.row y0 373]⟩, [(.exit 0, ⟨[.sl 0], [.row y0 373]⟩)]⟩
abbrev P360_58 : Type := Int × (List Int) × (List (Int × (Int × (Int × Unit))))
abbrev R360_58 : Type := (List (Int × (Int × (Int × Unit))))
noncomputable def B360_58 (N : Nat) (f : P360_58 → Option R360_58) : P360_58 → Option R360_58
  | (x0, x1, x2) =>
  iteP (decide (x0 < (↑(List.length x1) : Int))) (
    Option.bind (F378 N (x1, x0, (138 : Int))) fun y0 =>
    iteP (within x0 (List.length x1)) (
      Option.bind (x1[Int.toNat x0]?) fun y1 =>
      iteP (y1 == (0 : Int)) (
        Option.bind (F360_7465 N (decide (y0 > (10 : Int)), x0, y0, x1, x2)) fun y2 =>
        Option.bind (f (IntKind.wrap IntKind.i64 (y2.1 + y2.2.1), y2.2.2.1, y2.2.2.2)) fun r => some r) (
        Option.bind (F360_7465 N (false, x0, y0, x1, x2)) fun y3 =>
        Option.bind (f (IntKind.wrap IntKind.i64 (y3.1 + y3.2.1), y3.2.2.1, y3.2.2.2)) fun r => some r)) (
      none )) (
    some (x2))
noncomputable def F360_58 (N : Nat) : Nat → P360_58 → Option R360_58
  | 0, _ => none
  | k + 1, x => B360_58 N (F360_58 N k) x
noncomputable def C360_58 (N : Nat) (k : Nat) : Cut := L360_58.cut (F360_58 N k)
theorem C360_58_ok (N : Nat) (k : Nat) : CutAt Tryz.prog false Tryz.f360 [] 58 (C360_58 N k) :=
  L360_58.loopT ownT mix (tab360_ok N) Tryz.f360 [] (cuts := [(29863, C360_29863 N N), (7465, C360_7465 N N)]) ⟨C360_29863_ok N N, C360_7465_ok N N, trivial⟩ (by decide +kernel) (by kernel_rfl) (B360_58 N) (F360_58 N) (fun _ => rfl) (fun _ _ => rfl) (fun f x => by kernel_rfl) k
@[reducible] def w360 : List SP := [⟨[.sl 0], [.row y0 373]⟩]
noncomputable def F360 (N : Nat) : ((List Int)) → Option ((List (Int × (Int × (Int × Unit)))))
  | x0 =>
  Option.bind (F360_58 N N ((0 : Int), x0, [])) fun y0 =>
  some (y0)
noncomputable def T360 (N : Nat) : Pk → Tr Pk := tellS s360 w360 (F360 N)
theorem T360_ok (N : Nat) : FOK Tryz.prog (360) (T360 N) :=
  (fn_ok2 ownT mix (tab360_ok N) Tryz.func360 s360 w360 [] (cuts := [(29863, C360_29863 N N), (7465, C360_7465 N N), (58, C360_58 N N)]) ⟨C360_29863_ok N N, C360_7465_ok N N, C360_58_ok N N, trivial⟩ (fun _ => by kernel_rfl) (by decide +kernel) (F360 N) (fun x => by kernel_rfl))
@[reducible] def s362 : SP := ⟨[], []⟩
noncomputable def tab362 (N : Nat) : List (Nat × (Pk → Tr Pk)) := []
theorem tab362_ok (N : Nat) : TabOK Tryz.prog (tab362 N) := trivial
@[reducible] def L362_58 : LD := ⟨58, [1, 2], [(.ret, [0]), (.exit 0, [1])], ⟨[.sl 0, .int .i64], [.row (.int .i64) 3]⟩, [(.exit 0, ⟨[.sl 0], [.row (.int .i64) 3]⟩)]⟩
abbrev P362_58 : Type := Int × (List Int)
abbrev R362_58 : Type := (List Int)
noncomputable def B362_58 (N : Nat) (f : P362_58 → Option R362_58) : P362_58 → Option R362_58
  | (x0, x1) =>
  iteP (decide (x0 < (8 : Int))) (
    iteP (decide ((List.length x1 + List.length [IntKind.wrap IntKind.i64 ((7 : Int) + x0), IntKind.wrap IntKind.i64 ((8 : Int) - x0)]) * (8 : Nat) ≤ (140737488355328 : Nat) ∧ List.length x1 + List.length [IntKind.wrap IntKind.i64 ((7 : Int) + x0), IntKind.wrap IntKind.i64 ((8 : Int) - x0)] ≤ (140737488355328 : Nat))) (
      Option.bind (f (IntKind.wrap IntKind.i64 (x0 + (1 : Int)), x1 ++ [IntKind.wrap IntKind.i64 ((7 : Int) + x0), IntKind.wrap IntKind.i64 ((8 : Int) - x0)])) fun r => some r) (
      none )) (
    some (x1))
noncomputable def F362_58 (N : Nat) : Nat → P362_58 → Option R362_58
  | 0, _ => none
  | k + 1, x => B362_58 N (F362_58 N k) x
noncomputable def C362_58 (N : Nat) (k : Nat) : Cut := L362_58.cut (F362_58 N k)
theorem C362_58_ok (N : Nat) (k : Nat) : CutAt Tryz.prog false Tryz.f362 [] 58 (C362_58 N k) :=
  L362_58.loopT ownT mix (tab362_ok N) Tryz.f362 [] (cuts := []) trivial (by decide +kernel) (by kernel_rfl) (B362_58 N) (F362_58 N) (fun _ => rfl) (fun _ _ => rfl) (fun f x => by kernel_rfl) k
@[reducible] def w362 : List SP := [⟨[.sl 0], [.row (.int .i64) 3]⟩]
noncomputable def F362 (N : Nat) : (Unit) → Option ((List Int))
  | () =>
  Option.bind (F362_58 N N ((1 : Int), [(16 : Int), (17 : Int), (18 : Int), (0 : Int)])) fun y0 =>
  iteP (decide ((List.length y0 + (1 : Nat)) * (8 : Nat) ≤ (140737488355328 : Nat) ∧ List.length y0 + (1 : Nat) ≤ (140737488355328 : Nat))) (
    some (y0 ++ [(15 : Int)])) (
    none )
noncomputable def T362 (N : Nat) : Pk → Tr Pk := tellS s362 w362 (F362 N)
theorem T362_ok (N : Nat) : FOK Tryz.prog (362) (T362 N) :=
  (fn_ok2 ownT mix (tab362_ok N) Tryz.func362 s362 w362 [] (cuts := [(58, C362_58 N N)]) ⟨C362_58_ok N N, trivial⟩ (fun _ => by kernel_rfl) (by decide +kernel) (F362 N) (fun x => by kernel_rfl))
@[reducible] def s341 : SP := ⟨[.adr 0 [], .ro (.int .i64), .ro (.int .i64)], [.var 221 (.agg [.sl 1, .int .i64, .int .i64]), .row (.int .u8) 5]⟩
noncomputable def tab341 (N : Nat) : List (Nat × (Pk → Tr Pk)) := [(77, T77b N), (361, T361 N), (360, T360 N), (358, T358 N), (354, T354 N), (362, T362 N), (269, T269 N), (222, T222 N)]
theorem tab341_ok (N : Nat) : TabOK Tryz.prog (tab341 N) := ⟨T77b_ok N, T361_ok N, T360_ok N, T358_ok N, T354_ok N, T362_ok N, T269_ok N, T222_ok N, trivial⟩
@[reducible] def L341_506 : LD := ⟨506, [58, 57, 1, 2, 8, 0, 56, 9], [(.ret, [6]), (.exit 0, [9, 0, 8, 2, 1])], ⟨[.int .i64, .int .i64, .ro (.int .i64), .ro (.int .i64), .sl 1, .adr 0 [], .sl 1, .sl 2], [.var 221 (.agg [.sl 3, .int .i64, .int .i64]), .row y0 373, .row (.int .i64) 3, .row (.int .u8) 5]⟩, [(.exit 0, ⟨[.sl 1, .adr 0 [], .sl 2, .ro (.int .i64), .ro (.int .i64)], [.var 221 (.agg [.sl 3, .int .i64, .int .i64]), .row (.int .i64) 3, .row y0 373, .row (.int .u8) 5]⟩)]⟩
abbrev P341_506 : Type := Int × Int × (List Int) × (List Int) × Int × Int × (List (Int × (Int × (Int × Unit)))) × (List Int) × (List Int)
abbrev R341_506 : Type := (List Int) × (List Int) × Int × Int × (List Int) × (List (Int × (Int × (Int × Unit)))) × (List Int)
noncomputable def B341_506 (N : Nat) (f : P341_506 → Option R341_506) : P341_506 → Option R341_506
  | (x0, x1, x2, x3, x4, x5, x6, x7, x8) =>
  iteP (decide (x0 < x1)) (
    iteP (within x0 (List.length x6)) (
      Option.bind (x6[Int.toNat x0]?) fun y0 =>
      iteP (within y0.1 (List.length x7)) (
        Option.bind (x7[Int.toNat y0.1]?) fun y1 =>
        iteP (within y0.1 (List.length x7)) (
          Option.bind (x7[Int.toNat y0.1]?) fun y2 =>
          Option.bind (f (IntKind.wrap IntKind.i64 (x0 + (1 : Int)), x1, x2, x3, x4, x5, x6, List.set x7 (Int.toNat y0.1) (IntKind.wrap IntKind.i64 (y1 + (1 : Int))), x8)) fun r => some r) (
          none )) (
        none )) (
      none )) (
    some ((x3, x2, x4, x5, x7, x6, x8)))
noncomputable def F341_506 (N : Nat) : Nat → P341_506 → Option R341_506
  | 0, _ => none
  | k + 1, x => B341_506 N (F341_506 N k) x
noncomputable def C341_506 (N : Nat) (k : Nat) : Cut := L341_506.cut (F341_506 N k)
theorem C341_506_ok (N : Nat) (k : Nat) : CutAt Tryz.prog false Tryz.f341 [0] 506 (C341_506 N k) :=
  L341_506.loopT ownT mix (tab341_ok N) Tryz.f341 [0] (cuts := []) trivial (by decide +kernel) (by kernel_rfl) (B341_506 N) (F341_506 N) (fun _ => rfl) (fun _ _ => rfl) (fun f x => by kernel_rfl) k
@[reducible] def L341_8188 : LD := ⟨8188, [17, 12, 0, 8, 14, 16, 2, 1], [(.ret, [6]), (.exit 2, [1, 2, 16, 17, 14, 8, 0, 12])], ⟨[.int .i64, .sl 1, .adr 0 [], .sl 2, .sl 3, .sl 4, .ro (.int .i64), .ro (.int .i64)], [.var 221 (.agg [.sl 5, .int .i64, .int .i64]), .row (.int .i64) 3, .row y0 373, .row y1 248, .row (.int .i64) 3, .row (.int .u8) 5]⟩, [(.exit 2, ⟨[.ro (.int .i64), .ro (.int .i64), .sl 1, .int .i64, .sl 2, .sl 3, .adr 0 [], .sl 4], [.var 221 (.agg [.sl 5, .int .i64, .int .i64]), .row (.int .i64) 3, .row y1 248, .row y0 373, .row (.int .i64) 3, .row (.int .u8) 5]⟩)]⟩
abbrev P341_8188 : Type := Int × (List Int) × (List Int) × Int × Int × (List Int) × (List (Int × (Int × (Int × Unit)))) × (List (Int × (Int × Unit))) × (List Int) × (List Int)
abbrev R341_8188 : Type := (List Int) × (List Int) × Int × Int × Int × (List Int) × (List (Int × (Int × Unit))) × (List (Int × (Int × (Int × Unit)))) × (List Int) × (List Int)
noncomputable def B341_8188 (N : Nat) (f : P341_8188 → Option R341_8188) : P341_8188 → Option R341_8188
  | (x0, x1, x2, x3, x4, x5, x6, x7, x8, x9) =>
  iteP (decide (x0 > (4 : Int))) (
    iteP (within (IntKind.wrap IntKind.i64 (x0 - (1 : Int))) (List.length x8)) (
      Option.bind (x8[Int.toNat (IntKind.wrap IntKind.i64 (x0 - (1 : Int)))]?) fun y0 =>
      iteP (within y0 (List.length x5)) (
        Option.bind (x5[Int.toNat y0]?) fun y1 =>
        iteP (y1 == (0 : Int)) (
          Option.bind (f (IntKind.wrap IntKind.i64 (x0 - (1 : Int)), x1, x2, x3, x4, x5, x6, x7, x8, x9)) fun r => some r) (
          some ((x2, x1, x0, x3, x4, x8, x7, x6, x5, x9)))) (
        none )) (
      none )) (
    some ((x2, x1, x0, x3, x4, x8, x7, x6, x5, x9)))
noncomputable def F341_8188 (N : Nat) : Nat → P341_8188 → Option R341_8188
  | 0, _ => none
  | k + 1, x => B341_8188 N (F341_8188 N k) x
noncomputable def C341_8188 (N : Nat) (k : Nat) : Cut := L341_8188.cut (F341_8188 N k)
theorem C341_8188_ok (N : Nat) (k : Nat) : CutAt Tryz.prog false Tryz.f341 [0] 8188 (C341_8188 N k) :=
  L341_8188.loopT ownT mix (tab341_ok N) Tryz.f341 [0] (cuts := [(506, C341_506 N N)]) ⟨C341_506_ok N N, trivial⟩ (by decide +kernel) (by kernel_rfl) (B341_8188 N) (F341_8188 N) (fun _ => rfl) (fun _ _ => rfl) (fun f x => by kernel_rfl) k
@[reducible] def L341_262138 : LD := ⟨262138, [116, 115, 14, 8, 114, 0, 12], [(.ret, [6]), (.exit 4, [8, 14, 0])], ⟨[.int .i64, .int .i64, .sl 1, .sl 2, .slp 3 (.c 0) .h, .adr 0 [], .sl 4], [.var 221 (.agg [.sl 5, .int .i64, .int .i64]), .row y1 248, .row y0 373, .row (.int .i64) 3, .row (.int .i64) 3, .row (.int .u8) 5]⟩, [(.exit 4, ⟨[.sl 1, .sl 2, .adr 0 []], [.var 221 (.agg [.sl 3, .int .i64, .int .i64]), .row y0 373, .row y1 248, .row (.int .u8) 5]⟩)]⟩
abbrev P341_262138 : Type := Int × Int × Nat × Int × Int × (List (Int × (Int × Unit))) × (List (Int × (Int × (Int × Unit)))) × (List Int) × (List Int) × (List Int)
abbrev R341_262138 : Type := Int × Int × (List (Int × (Int × (Int × Unit)))) × (List (Int × (Int × Unit))) × (List Int)
noncomputable def B341_262138 (N : Nat) (f : P341_262138 → Option R341_262138) : P341_262138 → Option R341_262138
  | (x0, x1, x2, x3, x4, x5, x6, x7, x8, x9) =>
  iteP (decide (x0 < x1)) (
    iteP (within x0 x2) (
      Option.bind (x7[(0 : Nat) + Int.toNat x0]?) fun y0 =>
      iteP (within y0 (List.length x8)) (
        Option.bind (x8[Int.toNat y0]?) fun y1 =>
        Option.bind (F269 N ((3 : Int), y1, x3, x4, x9)) fun y2 =>
        Option.bind (f (IntKind.wrap IntKind.i64 (x0 + (1 : Int)), x1, x2, y2.1, y2.2.1, x5, x6, x7, x8, y2.2.2)) fun r => some r) (
        none )) (
      none )) (
    some ((x3, x4, x6, x5, x9)))
noncomputable def F341_262138 (N : Nat) : Nat → P341_262138 → Option R341_262138
  | 0, _ => none
  | k + 1, x => B341_262138 N (F341_262138 N k) x
noncomputable def C341_262138 (N : Nat) (k : Nat) : Cut := L341_262138.cut (F341_262138 N k)
theorem C341_262138_ok (N : Nat) (k : Nat) : CutAt Tryz.prog false Tryz.f341 [0] 262138 (C341_262138 N k) :=
  L341_262138.loopT ownT mix (tab341_ok N) Tryz.f341 [0] (cuts := [(506, C341_506 N N), (8188, C341_8188 N N)]) ⟨C341_506_ok N N, C341_8188_ok N N, trivial⟩ (by decide +kernel) (by kernel_rfl) (B341_262138 N) (F341_262138 N) (fun _ => rfl) (fun _ _ => rfl) (fun f x => by kernel_rfl) k
@[reducible] def L341_524282 : LD := ⟨524282, [129, 128, 127, 14, 0], [(.ret, [6]), (.exit 6, [])], ⟨[.int .i64, .int .i64, .sl 1, .sl 2, .adr 0 []], [.var 221 (.agg [.sl 3, .int .i64, .int .i64]), .row y0 373, .row y1 248, .row (.int .u8) 5]⟩, [(.exit 6, ⟨[], [.var 221 (.agg [.sl 1, .int .i64, .int .i64]), .row (.int .u8) 5]⟩)]⟩
abbrev P341_524282 : Type := Int × Int × Int × Int × (List (Int × (Int × (Int × Unit)))) × (List (Int × (Int × Unit))) × (List Int)
abbrev R341_524282 : Type := Int × Int × (List Int)
noncomputable def B341_524282 (N : Nat) (f : P341_524282 → Option R341_524282) : P341_524282 → Option R341_524282
  | (x0, x1, x2, x3, x4, x5, x6) =>
  iteP (decide (x0 < x1)) (
    iteP (within x0 (List.length x4)) (
      Option.bind (x4[Int.toNat x0]?) fun y0 =>
      iteP (within y0.1 (List.length x5)) (
        Option.bind (x5[Int.toNat y0.1]?) fun y1 =>
        Option.bind (F222 N (y1.1, y1.2.1, x2, x3, x6)) fun y2 =>
        Option.bind (F269 N (y0.2.1, y0.2.2.1, y2.1, y2.2.1, y2.2.2)) fun y3 =>
        Option.bind (f (IntKind.wrap IntKind.i64 (x0 + (1 : Int)), x1, y3.1, y3.2.1, x4, x5, y3.2.2)) fun r => some r) (
        none )) (
      none )) (
    some ((x2, x3, x6)))
noncomputable def F341_524282 (N : Nat) : Nat → P341_524282 → Option R341_524282
  | 0, _ => none
  | k + 1, x => B341_524282 N (F341_524282 N k) x
noncomputable def C341_524282 (N : Nat) (k : Nat) : Cut := L341_524282.cut (F341_524282 N k)
theorem C341_524282_ok (N : Nat) (k : Nat) : CutAt Tryz.prog false Tryz.f341 [0] 524282 (C341_524282 N k) :=
  L341_524282.loopT ownT mix (tab341_ok N) Tryz.f341 [0] (cuts := [(506, C341_506 N N), (8188, C341_8188 N N), (262138, C341_262138 N N)]) ⟨C341_506_ok N N, C341_8188_ok N N, C341_262138_ok N N, trivial⟩ (by decide +kernel) (by kernel_rfl) (B341_524282 N) (F341_524282 N) (fun _ => rfl) (fun _ _ => rfl) (fun f x => by kernel_rfl) k
@[reducible] def L341_15 : LD := ⟨15, [1, 2, 0], [(.ret, [6]), (.normal, [6])], ⟨[.ro (.int .i64), .ro (.int .i64), .adr 0 []], [.var 221 (.agg [.sl 1, .int .i64, .int .i64]), .row (.int .u8) 5]⟩, [(.ret, ⟨[.int .i64], [.var 221 (.agg [.sl 1, .int .i64, .int .i64]), .row (.int .u8) 5]⟩)]⟩
noncomputable def F341_15 (N : Nat) : ((List Int) × (List Int) × Int × Int × (List Int)) → Option (Int × Int × Int × (List Int))
  | (x0, x1, x2, x3, x4) =>
  Option.bind (F361 N [x0, x1]) fun y0 =>
  Option.bind (F360 N y0) fun y1 =>
  Option.bind (F341_506 N N ((0 : Int), (↑(List.length y1) : Int), x0, x1, x2, x3, y1, List.replicate (19 : Nat) (0 : Int), x4)) fun (y2_0, y2_1, y2_2, y2_3, y2_4, y2_5, y2_6) =>
  Option.bind (F358 N (y2_4, (7 : Int))) fun y3 =>
  Option.bind (F354 N y3.2) fun y4 =>
  Option.bind (F362 N ()) fun y5 =>
  Option.bind (F341_8188 N N ((↑(List.length y5) : Int), y2_0, y2_1, y2_2, y2_3, y3.2, y2_5, y4.2, y5, y2_6)) fun (y6_0, y6_1, y6_2, y6_3, y6_4, y6_5, y6_6, y6_7, y6_8, y6_9) =>
  Option.bind (F269 N ((5 : Int), IntKind.wrap IntKind.i64 ((↑(List.length y6_0) : Int) - (257 : Int)), y6_3, y6_4, y6_9)) fun y7 =>
  Option.bind (F269 N ((5 : Int), IntKind.wrap IntKind.i64 ((↑(List.length y6_1) : Int) - (1 : Int)), y7.1, y7.2.1, y7.2.2)) fun y8 =>
  Option.bind (F269 N ((4 : Int), IntKind.wrap IntKind.i64 (y6_2 - (4 : Int)), y8.1, y8.2.1, y8.2.2)) fun y9 =>
  iteP (decide ((0 : Int) ≤ y6_2 ∧ y6_2 ≤ (↑(List.length y6_5) : Int))) (
    Option.bind (F341_262138 N N ((0 : Int), (↑(Int.toNat y6_2 - (0 : Nat)) : Int), Int.toNat y6_2 - (0 : Nat), y9.1, y9.2.1, y6_6, y6_7, y6_5, y6_8, y9.2.2)) fun y10 =>
    Option.bind (F341_524282 N N ((0 : Int), (↑(List.length y10.2.2.1) : Int), y10.1, y10.2.1, y10.2.2.1, y10.2.2.2.1, y10.2.2.2.2)) fun y11 =>
    some (((0 : Int), y11.1, y11.2.1, y11.2.2))) (
    none )
noncomputable def C341_15 (N : Nat) (_ : Nat) : Cut := L341_15.cut (F341_15 N)
theorem C341_15_ok (N : Nat) (k : Nat) : CutAt Tryz.prog false Tryz.f341 [0] 15 (C341_15 N k) :=
  L341_15.pieceT ownT mix (tab341_ok N) Tryz.f341 [0] (cuts := [(506, C341_506 N N), (8188, C341_8188 N N), (262138, C341_262138 N N), (524282, C341_524282 N N)]) ⟨C341_506_ok N N, C341_8188_ok N N, C341_262138_ok N N, C341_524282_ok N N, trivial⟩ (by decide +kernel) (by kernel_rfl) (F341_15 N) (fun x => by kernel_rfl)
@[reducible] def w341 : List SP := [⟨[.int .i64], [.var 221 (.agg [.sl 1, .int .i64, .int .i64]), .row (.int .u8) 5]⟩]
noncomputable def F341 (N : Nat) : ((List Int) × (List Int) × Int × Int × (List Int)) → Option (Int × Int × Int × (List Int))
  | (x0, x1, x2, x3, x4) =>
  iteP (decide ((↑(List.length x0) : Int) < (257 : Int))) (
    some (((1 : Int), x2, x3, x4))) (
    iteP (decide ((↑(List.length x0) : Int) > (286 : Int))) (
      some (((1 : Int), x2, x3, x4))) (
      iteP (decide ((↑(List.length x1) : Int) < (1 : Int))) (
        some (((1 : Int), x2, x3, x4))) (
        iteP (decide ((↑(List.length x1) : Int) > (30 : Int))) (
          some (((1 : Int), x2, x3, x4))) (
          Option.bind (F77b N x0) fun y0 =>
          iteP (y0) (
            some (((1 : Int), x2, x3, x4))) (
            Option.bind (F77b N x1) fun y1 =>
            iteP (y1) (
              some (((1 : Int), x2, x3, x4))) (
              Option.bind (F341_15 N (x0, x1, x2, x3, x4)) fun y2 =>
              some ((y2.1, y2.2.1, y2.2.2.1, y2.2.2.2))))))))
noncomputable def T341 (N : Nat) : Pk → Tr Pk := tellS s341 w341 (F341 N)
theorem T341_ok (N : Nat) : FOK Tryz.prog (341) (T341 N) :=
  (fn_ok2 ownT mix (tab341_ok N) Tryz.func341 s341 w341 [0] (cuts := [(506, C341_506 N N), (8188, C341_8188 N N), (262138, C341_262138 N N), (524282, C341_524282 N N), (15, C341_15 N N)]) ⟨C341_506_ok N N, C341_8188_ok N N, C341_262138_ok N N, C341_524282_ok N N, C341_15_ok N N, trivial⟩ (fun _ => by kernel_rfl) (by decide +kernel) (F341 N) (fun x => by kernel_rfl))
@[reducible] def s323 : SP := ⟨[.adr 0 [], .ro y0, .bool, .bool], [.var 221 (.agg [.sl 1, .int .i64, .int .i64]), .row (.int .u8) 5]⟩
noncomputable def tab323 (N : Nat) : List (Nat × (Pk → Tr Pk)) := [(335, T335 N), (271, T271 N), (336, T336 N), (337, T337 N), (338, T338 N), (340, T340 N), (339, T339 N), (341, T341 N)]
theorem tab323_ok (N : Nat) : TabOK Tryz.prog (tab323 N) := ⟨T335_ok N, T271_ok N, T336_ok N, T337_ok N, T338_ok N, T340_ok N, T339_ok N, T341_ok N, trivial⟩
@[reducible] def L323_26 : LD := ⟨26, [19, 1, 0, 3, 2, 18, 20], [(.ret, [8]), (.exit 0, [2, 3, 0, 1])], ⟨[.int .i64, .ro y0, .adr 0 [], .bool, .bool, .ro y0, .int .i64], [.var 221 (.agg [.sl 1, .int .i64, .int .i64]), .row (.int .u8) 5]⟩, [(.ret, ⟨[.int .i64], [.var 221 (.agg [.sl 1, .int .i64, .int .i64]), .row (.int .u8) 5]⟩), (.exit 0, ⟨[.bool, .bool, .adr 0 [], .ro y0], [.var 221 (.agg [.sl 1, .int .i64, .int .i64]), .row (.int .u8) 5]⟩)]⟩
abbrev P323_26 : Type := Int × (List (Int × (Int × (Int × Unit)))) × Bool × Bool × (List (Int × (Int × (Int × Unit)))) × Int × Int × Int × (List Int)
abbrev R323_26 : Type := ((Int × Int × Int × (List Int)) ⊕ (Bool × Bool × (List (Int × (Int × (Int × Unit)))) × Int × Int × (List Int)))
noncomputable def B323_26 (N : Nat) (f : P323_26 → Option R323_26) : P323_26 → Option R323_26
  | (x0, x1, x2, x3, x4, x5, x6, x7, x8) =>
  iteP (decide (x5 < x0)) (
    iteP (within x5 (List.length x4)) (
      Option.bind (x4[Int.toNat x5]?) fun y0 =>
      Option.bind (F335 N (y0.1, y0.2.1, y0.2.2.1)) fun y1 =>
      iteP (!y1) (
        some (.inl (((1 : Int), x6, x7, x8)))) (
        Option.bind (f (x0, x1, x2, x3, x4, IntKind.wrap IntKind.i64 (x5 + (1 : Int)), x6, x7, x8)) fun r => match r with | .inl y => some (.inl y) | .inr y => some (.inr y))) (
      none )) (
    some (.inr ((x3, x2, x1, x6, x7, x8))))
noncomputable def F323_26 (N : Nat) : Nat → P323_26 → Option R323_26
  | 0, _ => none
  | k + 1, x => B323_26 N (F323_26 N k) x
noncomputable def C323_26 (N : Nat) (k : Nat) : Cut := L323_26.cut (F323_26 N k)
theorem C323_26_ok (N : Nat) (k : Nat) : CutAt Tryz.prog false Tryz.f323 [0] 26 (C323_26 N k) :=
  L323_26.loopT ownT mix (tab323_ok N) Tryz.f323 [0] (cuts := []) trivial (by decide +kernel) (by kernel_rfl) (B323_26 N) (F323_26 N) (fun _ => rfl) (fun _ _ => rfl) (fun f x => by kernel_rfl) k
@[reducible] def w323 : List SP := [⟨[.int .i64], [.var 221 (.agg [.sl 1, .int .i64, .int .i64]), .row (.int .u8) 5]⟩]
noncomputable def F323 (N : Nat) : ((List (Int × (Int × (Int × Unit)))) × Bool × Bool × Int × Int × (List Int)) → Option (Int × Int × Int × (List Int))
  | (x0, x1, x2, x3, x4, x5) =>
  Option.bind (F323_26 N N ((↑(List.length x0) : Int), x0, x2, x1, x0, (0 : Int), x3, x4, x5)) fun y0 =>
  match y0 with
  | .inl y1 =>
    some ((y1.1, y1.2.1, y1.2.2.1, y1.2.2.2))
  | .inr (y1_0, y1_1, y1_2, y1_3, y1_4, y1_5) =>
    iteP (!y1_0) (
      Option.bind (F271 N (y1_1, (1 : Int), y1_3, y1_4, y1_5)) fun y2 =>
      Option.bind (F336 N ()) fun y3 =>
      Option.bind (F337 N (y3.1, y3.2, y1_2, y2.1, y2.2.1, y2.2.2)) fun y4 =>
      some ((y4.1, y4.2.1, y4.2.2.1, y4.2.2.2))) (
      Option.bind (F338 N y1_2) fun y5 =>
      Option.bind (F340 N y5.1) fun y6 =>
      Option.bind (F339 N (y6, (257 : Int))) fun y7 =>
      Option.bind (F340 N y5.2) fun y8 =>
      Option.bind (F339 N (y8, (1 : Int))) fun y9 =>
      Option.bind (F271 N (y1_1, (2 : Int), y1_3, y1_4, y1_5)) fun y10 =>
      Option.bind (F341 N (y7, y9, y10.1, y10.2.1, y10.2.2)) fun y11 =>
      iteP (y11.1 != (0 : Int)) (
        some ((y11.1, y11.2.1, y11.2.2.1, y11.2.2.2))) (
        Option.bind (F337 N (y7, y9, y1_2, y11.2.1, y11.2.2.1, y11.2.2.2)) fun y12 =>
        some ((y12.1, y12.2.1, y12.2.2.1, y12.2.2.2))))
noncomputable def T323 (N : Nat) : Pk → Tr Pk := tellS s323 w323 (F323 N)
theorem T323_ok (N : Nat) : FOK Tryz.prog (323) (T323 N) :=
  (fn_ok2 ownT mix (tab323_ok N) Tryz.func323 s323 w323 [0] (cuts := [(26, C323_26 N N)]) ⟨C323_26_ok N N, trivial⟩ (fun _ => by kernel_rfl) (by decide +kernel) (F323 N) (fun x => by kernel_rfl))
@[reducible] def s322 : SP := ⟨[.adr 0 [], .adr 1 [], .adr 2 [], .adr 3 []], [.var 221 (.agg [.sl 4, .int .i64, .int .i64]), .var 278 (.ro y0), .var 4 (.bool), .var 4 (.bool), .row (.int .u8) 5]⟩
noncomputable def tab322 (N : Nat) : List (Nat × (Pk → Tr Pk)) := [(323, T323 N)]
theorem tab322_ok (N : Nat) : TabOK Tryz.prog (tab322 N) := ⟨T323_ok N, trivial⟩
@[reducible] def w322 : List SP := [⟨[.tup []], [.var 221 (.agg [.sl 4, .int .i64, .int .i64]), .var 278 (.ro y0), .var 4 (.bool), .var 4 (.bool), .row (.int .u8) 5]⟩]
noncomputable def F322 (N : Nat) : (Int × Int × (List (Int × (Int × (Int × Unit)))) × Bool × Bool × (List Int)) → Option (Int × Int × (List (Int × (Int × (Int × Unit)))) × Bool × Bool × (List Int))
  | (x0, x1, x2, x3, x4, x5) =>
  Option.bind (F323 N (x2, x3, x4, x0, x1, x5)) fun y0 =>
  some ((y0.2.1, y0.2.2.1, x2, x3, x4, y0.2.2.2))
noncomputable def T322 (N : Nat) : Pk → Tr Pk := tellS s322 w322 (F322 N)
theorem T322_ok (N : Nat) : FOK Tryz.prog (322) (T322 N) :=
  (fn_ok2 ownT mix (tab322_ok N) Tryz.func322 s322 w322 [0, 1, 2, 3] (cuts := []) trivial (fun _ => by kernel_rfl) (by decide +kernel) (F322 N) (fun x => by kernel_rfl))
@[reducible] def y4 : Ty := (.cons (.sl (.int .u8)) (.cons (.int .i64) (.cons (.int .i64) .unit)))
@[reducible] def s324 : SP := ⟨[.radr y4 [.i 0 3]], []⟩
noncomputable def tab324 (N : Nat) : List (Nat × (Pk → Tr Pk)) := []
theorem tab324_ok (N : Nat) : TabOK Tryz.prog (tab324 N) := trivial
@[reducible] def w324 : List SP := [⟨[.int .i64], []⟩]
noncomputable def F324 (N : Nat) : (((List Int) × (Int × (Int × Unit)))) → Option (Int)
  | x0 =>
  some (IntKind.wrap IntKind.i64 (IntKind.wrap IntKind.i64 ((8 : Int) * (↑(List.length x0.1) : Int)) + x0.2.2.1))
noncomputable def T324 (N : Nat) : Pk → Tr Pk := tellS s324 w324 (F324 N)
theorem T324_ok (N : Nat) : FOK Tryz.prog (324) (T324 N) :=
  (fn_ok2 ownT mix (tab324_ok N) Tryz.func324 s324 w324 [] (cuts := []) trivial (fun _ => by kernel_rfl) (by decide +kernel) (F324 N) (fun x => by kernel_rfl))
@[reducible] def s290 : SP := ⟨[.ro y0, .bool, .bool], []⟩
noncomputable def tab290 (N : Nat) : List (Nat × (Pk → Tr Pk)) := [(322, T322 N), (324, T324 N)]
theorem tab290_ok (N : Nat) : TabOK Tryz.prog (tab290 N) := ⟨T322_ok N, T324_ok N, trivial⟩
@[reducible] def w290 : List SP := [⟨[.agg [.int .i64, .clo 322 [.adr 0 [], .adr 1 [], .adr 2 []]]], [.var 278 (.ro y0), .var 4 (.bool), .var 4 (.bool)]⟩]
noncomputable def F290 (N : Nat) : ((List (Int × (Int × (Int × Unit)))) × Bool × Bool) → Option (Int × (List (Int × (Int × (Int × Unit)))) × Bool × Bool)
  | (x0, x1, x2) =>
  Option.bind (F322 N ((0 : Int), (0 : Int), x0, x1, x2, [])) fun (y0_0, y0_1, y0_2, y0_3, y0_4, y0_5) =>
  Option.bind (F324 N (y0_5, y0_0, y0_1, ())) fun y1 =>
  some ((y1, y0_2, y0_3, y0_4))
noncomputable def T290 (N : Nat) : Pk → Tr Pk := tellS s290 w290 (F290 N)
theorem T290_ok (N : Nat) : FOK Tryz.prog (290) (T290 N) :=
  (fn_ok2 ownT mix (tab290_ok N) Tryz.func290 s290 w290 [] (cuts := []) trivial (fun _ => by kernel_rfl) (by decide +kernel) (F290 N) (fun x => by kernel_rfl))
@[reducible] def s289 : SP := ⟨[.agg [.int .i64, .clo 322 [.adr 0 [], .adr 1 [], .adr 2 []]], .agg [.int .i64, .clo 322 [.adr 3 [], .adr 4 [], .adr 5 []]]], [.var 278 (.ro y0), .var 4 (.bool), .var 4 (.bool), .var 278 (.ro y0), .var 4 (.bool), .var 4 (.bool)]⟩
noncomputable def tab289 (N : Nat) : List (Nat × (Pk → Tr Pk)) := []
theorem tab289_ok (N : Nat) : TabOK Tryz.prog (tab289 N) := trivial
@[reducible] def w289 : List SP := [⟨[.agg [.int .i64, .clo 322 [.adr 3 [], .adr 4 [], .adr 5 []]]], [.var 278 (.ro y0), .var 4 (.bool), .var 4 (.bool), .var 278 (.ro y0), .var 4 (.bool), .var 4 (.bool)]⟩, ⟨[.agg [.int .i64, .clo 322 [.adr 0 [], .adr 1 [], .adr 2 []]]], [.var 278 (.ro y0), .var 4 (.bool), .var 4 (.bool), .var 278 (.ro y0), .var 4 (.bool), .var 4 (.bool)]⟩]
noncomputable def F289 (N : Nat) : (Int × Int × (List (Int × (Int × (Int × Unit)))) × Bool × Bool × (List (Int × (Int × (Int × Unit)))) × Bool × Bool) → Option (((Int × (List (Int × (Int × (Int × Unit)))) × Bool × Bool × (List (Int × (Int × (Int × Unit)))) × Bool × Bool) ⊕ (Int × (List (Int × (Int × (Int × Unit)))) × Bool × Bool × (List (Int × (Int × (Int × Unit)))) × Bool × Bool)))
  | (x0, x1, x2, x3, x4, x5, x6, x7) =>
  iteP (decide (x1 < x0)) (
    some (.inl ((x1, x2, x3, x4, x5, x6, x7)))) (
    some (.inr ((x0, x2, x3, x4, x5, x6, x7))))
noncomputable def T289 (N : Nat) : Pk → Tr Pk := tellS s289 w289 (F289 N)
theorem T289_ok (N : Nat) : FOK Tryz.prog (289) (T289 N) :=
  (fn_ok2 ownT mix (tab289_ok N) Tryz.func289 s289 w289 [0, 1, 2, 3, 4, 5] (cuts := []) trivial (fun _ => by kernel_rfl) (by decide +kernel) (F289 N) (fun x => by kernel_rfl))
@[reducible] def s289a : SP := ⟨[.agg [.int .i64, .clo 288 [.adr 0 [], .adr 1 []]], .agg [.int .i64, .clo 322 [.adr 2 [], .adr 3 [], .adr 4 []]]], [.var 9 (.str), .var 4 (.bool), .var 278 (.ro y0), .var 4 (.bool), .var 4 (.bool)]⟩
noncomputable def tab289a (N : Nat) : List (Nat × (Pk → Tr Pk)) := []
theorem tab289a_ok (N : Nat) : TabOK Tryz.prog (tab289a N) := trivial
@[reducible] def w289a : List SP := [⟨[.agg [.int .i64, .clo 322 [.adr 2 [], .adr 3 [], .adr 4 []]]], [.var 9 (.str), .var 4 (.bool), .var 278 (.ro y0), .var 4 (.bool), .var 4 (.bool)]⟩, ⟨[.agg [.int .i64, .clo 288 [.adr 0 [], .adr 1 []]]], [.var 9 (.str), .var 4 (.bool), .var 278 (.ro y0), .var 4 (.bool), .var 4 (.bool)]⟩]
noncomputable def F289a (N : Nat) : (Int × Int × ByteArray × Bool × (List (Int × (Int × (Int × Unit)))) × Bool × Bool) → Option (((Int × ByteArray × Bool × (List (Int × (Int × (Int × Unit)))) × Bool × Bool) ⊕ (Int × ByteArray × Bool × (List (Int × (Int × (Int × Unit)))) × Bool × Bool)))
  | (x0, x1, x2, x3, x4, x5, x6) =>
  iteP (decide (x1 < x0)) (
    some (.inl ((x1, x2, x3, x4, x5, x6)))) (
    some (.inr ((x0, x2, x3, x4, x5, x6))))
noncomputable def T289a (N : Nat) : Pk → Tr Pk := tellS s289a w289a (F289a N)
theorem T289a_ok (N : Nat) : FOK Tryz.prog (289) (T289a N) :=
  (fn_ok2 ownT mix (tab289a_ok N) Tryz.func289 s289a w289a [0, 1, 2, 3, 4] (cuts := []) trivial (fun _ => by kernel_rfl) (by decide +kernel) (F289a N) (fun x => by kernel_rfl))
@[reducible] def s223 : SP := ⟨[.adr 0 []], [.var 221 (.agg [.sl 1, .int .i64, .int .i64]), .row (.int .u8) 5]⟩
noncomputable def tab223 (N : Nat) : List (Nat × (Pk → Tr Pk)) := [(269, T269 N)]
theorem tab223_ok (N : Nat) : TabOK Tryz.prog (tab223 N) := ⟨T269_ok N, trivial⟩
@[reducible] def w223 : List SP := [⟨[.tup []], [.var 221 (.agg [.sl 1, .int .i64, .int .i64]), .row (.int .u8) 5]⟩]
noncomputable def F223 (N : Nat) : (Int × Int × (List Int)) → Option (Int × Int × (List Int))
  | (x0, x1, x2) =>
  Option.bind (F269 N (Int.tmod (IntKind.wrap IntKind.i64 ((8 : Int) - x1)) (8 : Int), (0 : Int), x0, x1, x2)) fun y0 =>
  some ((y0.1, y0.2.1, y0.2.2))
noncomputable def T223 (N : Nat) : Pk → Tr Pk := tellS s223 w223 (F223 N)
theorem T223_ok (N : Nat) : FOK Tryz.prog (223) (T223 N) :=
  (fn_ok2 ownT mix (tab223_ok N) Tryz.func223 s223 w223 [0] (cuts := []) trivial (fun _ => by kernel_rfl) (by decide +kernel) (F223 N) (fun x => by kernel_rfl))
@[reducible] def s272 : SP := ⟨[.adr 0 [], .str], [.var 221 (.agg [.sl 1, .int .i64, .int .i64]), .row (.int .u8) 5]⟩
noncomputable def tab272 (N : Nat) : List (Nat × (Pk → Tr Pk)) := [(223, T223 N)]
theorem tab272_ok (N : Nat) : TabOK Tryz.prog (tab272 N) := ⟨T223_ok N, trivial⟩
@[reducible] def w272 : List SP := [⟨[.tup []], [.var 221 (.agg [.sl 1, .int .i64, .int .i64]), .row (.int .u8) 5]⟩]
noncomputable def F272 (N : Nat) : (ByteArray × Int × Int × (List Int)) → Option (Int × Int × (List Int))
  | (x0, x1, x2, x3) =>
  Option.bind (F223 N (x1, x2, x3)) fun y0 =>
  iteP (decide ((List.length y0.2.2 + List.length (bytesOf x0)) * (1 : Nat) ≤ (140737488355328 : Nat) ∧ List.length y0.2.2 + List.length (bytesOf x0) ≤ (140737488355328 : Nat))) (
    some ((y0.1, y0.2.1, y0.2.2 ++ bytesOf x0))) (
    none )
noncomputable def T272 (N : Nat) : Pk → Tr Pk := tellS s272 w272 (F272 N)
theorem T272_ok (N : Nat) : FOK Tryz.prog (272) (T272 N) :=
  (fn_ok2 ownT mix (tab272_ok N) Tryz.func272 s272 w272 [0] (cuts := []) trivial (fun _ => by kernel_rfl) (by decide +kernel) (F272 N) (fun x => by kernel_rfl))
@[reducible] def s228 : SP := ⟨[.adr 0 [], .str, .bool], [.var 221 (.agg [.sl 1, .int .i64, .int .i64]), .row (.int .u8) 5]⟩
noncomputable def tab228 (N : Nat) : List (Nat × (Pk → Tr Pk)) := [(271, T271 N), (223, T223 N), (269, T269 N), (272, T272 N)]
theorem tab228_ok (N : Nat) : TabOK Tryz.prog (tab228 N) := ⟨T271_ok N, T223_ok N, T269_ok N, T272_ok N, trivial⟩
@[reducible] def L228_2 : LD := ⟨2, [1, 2, 0], [(.ret, [])], ⟨[.str, .bool, .adr 0 []], [.var 221 (.agg [.sl 1, .int .i64, .int .i64]), .row (.int .u8) 5]⟩, [(.ret, ⟨[], [.var 221 (.agg [.sl 1, .int .i64, .int .i64]), .row (.int .u8) 5]⟩)]⟩
abbrev P228_2 : Type := ByteArray × Bool × Int × Int × (List Int)
abbrev R228_2 : Type := Int × Int × (List Int)
noncomputable def B228_2 (N : Nat) (f : P228_2 → Option R228_2) : P228_2 → Option R228_2
  | (x0, x1, x2, x3, x4) =>
  iteP (x1) (
    Option.bind (F271 N ((if (65535 : Int) < (↑(ByteArray.size x0) : Int) then (65535 : Int) else (↑(ByteArray.size x0) : Int)) == (↑(ByteArray.size x0) : Int), (0 : Int), x2, x3, x4)) fun y0 =>
    Option.bind (F223 N (y0.1, y0.2.1, y0.2.2)) fun y1 =>
    Option.bind (F269 N ((16 : Int), if (65535 : Int) < (↑(ByteArray.size x0) : Int) then (65535 : Int) else (↑(ByteArray.size x0) : Int), y1.1, y1.2.1, y1.2.2)) fun y2 =>
    Option.bind (F269 N ((16 : Int), IntKind.wrap IntKind.i64 (↑(BitVec.toNat (BitVec.ofInt (64 : Nat) (if (65535 : Int) < (↑(ByteArray.size x0) : Int) then (65535 : Int) else (↑(ByteArray.size x0) : Int)) ^^^ BitVec.ofInt (64 : Nat) (65535 : Int))) : Int), y2.1, y2.2.1, y2.2.2)) fun y3 =>
    iteP (decide (((0 : Int) ≤ if (65535 : Int) < (↑(ByteArray.size x0) : Int) then (65535 : Int) else (↑(ByteArray.size x0) : Int)) ∧ (if (65535 : Int) < (↑(ByteArray.size x0) : Int) then (65535 : Int) else (↑(ByteArray.size x0) : Int)) ≤ (↑(ByteArray.size x0) : Int))) (
      Option.bind (F272 N (ByteArray.extract x0 (0 : Nat) (Int.toNat (if (65535 : Int) < (↑(ByteArray.size x0) : Int) then (65535 : Int) else (↑(ByteArray.size x0) : Int))), y3.1, y3.2.1, y3.2.2)) fun y4 =>
      iteP (decide (((0 : Int) ≤ if (65535 : Int) < (↑(ByteArray.size x0) : Int) then (65535 : Int) else (↑(ByteArray.size x0) : Int)) ∧ (if (65535 : Int) < (↑(ByteArray.size x0) : Int) then (65535 : Int) else (↑(ByteArray.size x0) : Int)) ≤ (↑(ByteArray.size x0) : Int))) (
        iteP (ByteArray.toList (ByteArray.extract x0 (Int.toNat (if (65535 : Int) < (↑(ByteArray.size x0) : Int) then (65535 : Int) else (↑(ByteArray.size x0) : Int))) (ByteArray.size x0)) == []) (
          some ((y4.1, y4.2.1, y4.2.2))) (
          Option.bind (f (ByteArray.extract x0 (Int.toNat (if (65535 : Int) < (↑(ByteArray.size x0) : Int) then (65535 : Int) else (↑(ByteArray.size x0) : Int))) (ByteArray.size x0), x1, y4.1, y4.2.1, y4.2.2)) fun r => some r)) (
        none )) (
      none )) (
    Option.bind (F271 N (false, (0 : Int), x2, x3, x4)) fun y5 =>
    Option.bind (F223 N (y5.1, y5.2.1, y5.2.2)) fun y6 =>
    Option.bind (F269 N ((16 : Int), if (65535 : Int) < (↑(ByteArray.size x0) : Int) then (65535 : Int) else (↑(ByteArray.size x0) : Int), y6.1, y6.2.1, y6.2.2)) fun y7 =>
    Option.bind (F269 N ((16 : Int), IntKind.wrap IntKind.i64 (↑(BitVec.toNat (BitVec.ofInt (64 : Nat) (if (65535 : Int) < (↑(ByteArray.size x0) : Int) then (65535 : Int) else (↑(ByteArray.size x0) : Int)) ^^^ BitVec.ofInt (64 : Nat) (65535 : Int))) : Int), y7.1, y7.2.1, y7.2.2)) fun y8 =>
    iteP (decide (((0 : Int) ≤ if (65535 : Int) < (↑(ByteArray.size x0) : Int) then (65535 : Int) else (↑(ByteArray.size x0) : Int)) ∧ (if (65535 : Int) < (↑(ByteArray.size x0) : Int) then (65535 : Int) else (↑(ByteArray.size x0) : Int)) ≤ (↑(ByteArray.size x0) : Int))) (
      Option.bind (F272 N (ByteArray.extract x0 (0 : Nat) (Int.toNat (if (65535 : Int) < (↑(ByteArray.size x0) : Int) then (65535 : Int) else (↑(ByteArray.size x0) : Int))), y8.1, y8.2.1, y8.2.2)) fun y9 =>
      iteP (decide (((0 : Int) ≤ if (65535 : Int) < (↑(ByteArray.size x0) : Int) then (65535 : Int) else (↑(ByteArray.size x0) : Int)) ∧ (if (65535 : Int) < (↑(ByteArray.size x0) : Int) then (65535 : Int) else (↑(ByteArray.size x0) : Int)) ≤ (↑(ByteArray.size x0) : Int))) (
        iteP (ByteArray.toList (ByteArray.extract x0 (Int.toNat (if (65535 : Int) < (↑(ByteArray.size x0) : Int) then (65535 : Int) else (↑(ByteArray.size x0) : Int))) (ByteArray.size x0)) == []) (
          some ((y9.1, y9.2.1, y9.2.2))) (
          Option.bind (f (ByteArray.extract x0 (Int.toNat (if (65535 : Int) < (↑(ByteArray.size x0) : Int) then (65535 : Int) else (↑(ByteArray.size x0) : Int))) (ByteArray.size x0), x1, y9.1, y9.2.1, y9.2.2)) fun r => some r)) (
        none )) (
      none ))
noncomputable def F228_2 (N : Nat) : Nat → P228_2 → Option R228_2
  | 0, _ => none
  | k + 1, x => B228_2 N (F228_2 N k) x
noncomputable def C228_2 (N : Nat) (k : Nat) : Cut := L228_2.cut (F228_2 N k)
theorem C228_2_ok (N : Nat) (k : Nat) : CutAt Tryz.prog false Tryz.f228 [0] 2 (C228_2 N k) :=
  L228_2.loopT ownT mix (tab228_ok N) Tryz.f228 [0] (cuts := []) trivial (by decide +kernel) (by kernel_rfl) (B228_2 N) (F228_2 N) (fun _ => rfl) (fun _ _ => rfl) (fun f x => by kernel_rfl) k
@[reducible] def w228 : List SP := [⟨[.tup []], [.var 221 (.agg [.sl 1, .int .i64, .int .i64]), .row (.int .u8) 5]⟩]
noncomputable def F228 (N : Nat) : (ByteArray × Bool × Int × Int × (List Int)) → Option (Int × Int × (List Int))
  | (x0, x1, x2, x3, x4) =>
  Option.bind (F228_2 N N (x0, x1, x2, x3, x4)) fun y0 =>
  some ((y0.1, y0.2.1, y0.2.2))
noncomputable def T228 (N : Nat) : Pk → Tr Pk := tellS s228 w228 (F228 N)
theorem T228_ok (N : Nat) : FOK Tryz.prog (228) (T228 N) :=
  (fn_ok2 ownT mix (tab228_ok N) Tryz.func228 s228 w228 [0] (cuts := [(2, C228_2 N N)]) ⟨C228_2_ok N N, trivial⟩ (fun _ => by kernel_rfl) (by decide +kernel) (F228 N) (fun x => by kernel_rfl))
@[reducible] def s288 : SP := ⟨[.adr 0 [], .adr 1 [], .adr 2 []], [.var 221 (.agg [.sl 3, .int .i64, .int .i64]), .var 9 (.str), .var 4 (.bool), .row (.int .u8) 5]⟩
noncomputable def tab288 (N : Nat) : List (Nat × (Pk → Tr Pk)) := [(228, T228 N)]
theorem tab288_ok (N : Nat) : TabOK Tryz.prog (tab288 N) := ⟨T228_ok N, trivial⟩
@[reducible] def w288 : List SP := [⟨[.tup []], [.var 221 (.agg [.sl 3, .int .i64, .int .i64]), .var 9 (.str), .var 4 (.bool), .row (.int .u8) 5]⟩]
noncomputable def F288 (N : Nat) : (Int × Int × ByteArray × Bool × (List Int)) → Option (Int × Int × ByteArray × Bool × (List Int))
  | (x0, x1, x2, x3, x4) =>
  Option.bind (F228 N (x2, x3, x0, x1, x4)) fun y0 =>
  some ((y0.1, y0.2.1, x2, x3, y0.2.2))
noncomputable def T288 (N : Nat) : Pk → Tr Pk := tellS s288 w288 (F288 N)
theorem T288_ok (N : Nat) : FOK Tryz.prog (288) (T288 N) :=
  (fn_ok2 ownT mix (tab288_ok N) Tryz.func288 s288 w288 [0, 1, 2] (cuts := []) trivial (fun _ => by kernel_rfl) (by decide +kernel) (F288 N) (fun x => by kernel_rfl))
@[reducible] def s252 : SP := ⟨[.adr 0 [], .ro y0, .str, .bool], [.var 221 (.agg [.sl 1, .int .i64, .int .i64]), .row (.int .u8) 5]⟩
noncomputable def tab252 (N : Nat) : List (Nat × (Pk → Tr Pk)) := [(290, T290 N), (289, orT s289.I (T289 N) (T289a N)), (322, T322 N), (288, T288 N)]
theorem tab252_ok (N : Nat) : TabOK Tryz.prog (tab252 N) := ⟨T290_ok N, orT_ok (T289_ok N) (T289a_ok N), T322_ok N, T288_ok N, trivial⟩
@[reducible] def w252 : List SP := [⟨[.tup []], [.var 221 (.agg [.sl 1, .int .i64, .int .i64]), .row (.int .u8) 5]⟩]
noncomputable def F252 (N : Nat) : ((List (Int × (Int × (Int × Unit)))) × ByteArray × Bool × Int × Int × (List Int)) → Option (Int × Int × (List Int))
  | (x0, x1, x2, x3, x4, x5) =>
  Option.bind (F290 N (x0, false, x2)) fun y0 =>
  Option.bind (F290 N (x0, true, x2)) fun y1 =>
  Option.bind (F289 N (y0.1, y1.1, y0.2.1, y0.2.2.1, y0.2.2.2, y1.2.1, y1.2.2.1, y1.2.2.2)) fun y2 =>
  match y2 with
  | .inl (y3_0, y3_1, y3_2, y3_3, y3_4, y3_5, y3_6) =>
    Option.bind (F289a N (IntKind.wrap IntKind.i64 (IntKind.wrap IntKind.i64 ((8 : Int) * (↑(ByteArray.size x1) : Int)) + IntKind.wrap IntKind.i64 ((40 : Int) * IntKind.wrap IntKind.i64 ((1 : Int) + IntKind.wrap IntKind.i64 (Int.tdiv (↑(ByteArray.size x1) : Int) (65535 : Int))))), y3_0, x1, x2, y3_4, y3_5, y3_6)) fun y4 =>
    match y4 with
    | .inl (y5_0, y5_1, y5_2, y5_3, y5_4, y5_5) =>
      Option.bind (F322 N (x3, x4, y5_3, y5_4, y5_5, x5)) fun (y6_0, y6_1, y6_2, y6_3, y6_4, y6_5) =>
      some ((y6_0, y6_1, y6_5))
    | .inr (y5_0, y5_1, y5_2, y5_3, y5_4, y5_5) =>
      Option.bind (F288 N (x3, x4, y5_1, y5_2, x5)) fun y7 =>
      some ((y7.1, y7.2.1, y7.2.2.2.2))
  | .inr (y3_0, y3_1, y3_2, y3_3, y3_4, y3_5, y3_6) =>
    Option.bind (F289a N (IntKind.wrap IntKind.i64 (IntKind.wrap IntKind.i64 ((8 : Int) * (↑(ByteArray.size x1) : Int)) + IntKind.wrap IntKind.i64 ((40 : Int) * IntKind.wrap IntKind.i64 ((1 : Int) + IntKind.wrap IntKind.i64 (Int.tdiv (↑(ByteArray.size x1) : Int) (65535 : Int))))), y3_0, x1, x2, y3_1, y3_2, y3_3)) fun y8 =>
    match y8 with
    | .inl (y9_0, y9_1, y9_2, y9_3, y9_4, y9_5) =>
      Option.bind (F322 N (x3, x4, y9_3, y9_4, y9_5, x5)) fun (y10_0, y10_1, y10_2, y10_3, y10_4, y10_5) =>
      some ((y10_0, y10_1, y10_5))
    | .inr (y9_0, y9_1, y9_2, y9_3, y9_4, y9_5) =>
      Option.bind (F288 N (x3, x4, y9_1, y9_2, x5)) fun y11 =>
      some ((y11.1, y11.2.1, y11.2.2.2.2))
noncomputable def T252 (N : Nat) : Pk → Tr Pk := tellS s252 w252 (F252 N)
theorem T252_ok (N : Nat) : FOK Tryz.prog (252) (T252 N) :=
  (fn_ok2 ownT mix (tab252_ok N) Tryz.func252 s252 w252 [0] (cuts := []) trivial (fun _ => by kernel_rfl) (by decide +kernel) (F252 N) (fun x => by kernel_rfl))
@[reducible] def s192 : SP := ⟨[.adr 0 [], .str, .str, .bool], [.var 221 (.agg [.sl 1, .int .i64, .int .i64]), .row (.int .u8) 5]⟩
noncomputable def tab192 (N : Nat) : List (Nat × (Pk → Tr Pk)) := [(251, T251 N), (252, T252 N)]
theorem tab192_ok (N : Nat) : TabOK Tryz.prog (tab192 N) := ⟨T251_ok N, T252_ok N, trivial⟩
@[reducible] def L192_7322 : LD := ⟨7322, [11, 30, 29, 0, 3, 2, 10, 8, 28], [(.exit 2, [8, 10, 2, 11, 3, 0]), (.exit 1, [3, 0, 2, 8])], ⟨[.int .i64, .int .i64, .int .i64, .adr 0 [], .bool, .str, .int .i64, .sl 1, .slp 1 (.c 0) .h], [.var 221 (.agg [.sl 2, .int .i64, .int .i64]), .row y0 281, .row (.int .u8) 5]⟩, [(.exit 2, ⟨[.sl 1, .int .i64, .str, .int .i64, .bool, .adr 0 []], [.var 221 (.agg [.sl 2, .int .i64, .int .i64]), .row y0 281, .row (.int .u8) 5]⟩)]⟩
abbrev P192_7322 : Type := Int × Int × Int × Bool × ByteArray × Int × Nat × Int × Int × (List (Int × (Int × (Int × Unit)))) × (List Int)
abbrev R192_7322 : Type := Int × ByteArray × Int × Bool × Int × Int × (List (Int × (Int × (Int × Unit)))) × (List Int)
noncomputable def B192_7322 (N : Nat) (f : P192_7322 → Option R192_7322) : P192_7322 → Option R192_7322
  | (x0, x1, x2, x3, x4, x5, x6, x7, x8, x9, x10) =>
  iteP (decide (x1 < x2)) (
    iteP (within x1 x6) (
      Option.bind (x9[(0 : Nat) + Int.toNat x1]?) fun y0 =>
      Option.bind (f (IntKind.wrap IntKind.i64 (x0 + if (1 : Int) > y0.2.1 then (1 : Int) else y0.2.1), IntKind.wrap IntKind.i64 (x1 + (1 : Int)), x2, x3, x4, x5, x6, x7, x8, x9, x10)) fun r => some r) (
      none )) (
    some ((x5, x4, x0, x3, x7, x8, x9, x10)))
noncomputable def F192_7322 (N : Nat) : Nat → P192_7322 → Option R192_7322
  | 0, _ => none
  | k + 1, x => B192_7322 N (F192_7322 N k) x
noncomputable def C192_7322 (N : Nat) (k : Nat) : Cut := L192_7322.cut (F192_7322 N k)
theorem C192_7322_ok (N : Nat) (k : Nat) : CutAt Tryz.prog false Tryz.f192 [0] 7322 (C192_7322 N k) :=
  L192_7322.loopT ownT mix (tab192_ok N) Tryz.f192 [0] (cuts := []) trivial (by decide +kernel) (by kernel_rfl) (B192_7322 N) (F192_7322 N) (fun _ => rfl) (fun _ _ => rfl) (fun f x => by kernel_rfl) k
@[reducible] def L192_7322b : LD := ⟨7322, [11, 30, 29, 0, 3, 2, 10, 8, 28], [(.exit 2, [8, 10, 2, 11, 3, 0]), (.exit 1, [3, 0, 2, 8])], ⟨[.int .i64, .int .i64, .int .i64, .adr 0 [], .bool, .str, .int .i64, .slp 1 .h .h, .slp 1 .h .h], [.var 221 (.agg [.sl 2, .int .i64, .int .i64]), .row y0 281, .row (.int .u8) 5]⟩, [(.exit 2, ⟨[.slp 1 .h .h, .int .i64, .str, .int .i64, .bool, .adr 0 []], [.var 221 (.agg [.sl 2, .int .i64, .int .i64]), .row y0 281, .row (.int .u8) 5]⟩)]⟩
abbrev P192_7322b : Type := Int × Int × Int × Bool × ByteArray × Int × Nat × Nat × Nat × Nat × Int × Int × (List (Int × (Int × (Int × Unit)))) × (List Int)
abbrev R192_7322b : Type := Nat × Nat × Int × ByteArray × Int × Bool × Int × Int × (List (Int × (Int × (Int × Unit)))) × (List Int)
noncomputable def B192_7322b (N : Nat) (f : P192_7322b → Option R192_7322b) : P192_7322b → Option R192_7322b
  | (x0, x1, x2, x3, x4, x5, x6, x7, x8, x9, x10, x11, x12, x13) =>
  iteP (decide (x1 < x2)) (
    iteP (within x1 x9) (
      Option.bind (x12[x8 + Int.toNat x1]?) fun y0 =>
      Option.bind (f (IntKind.wrap IntKind.i64 (x0 + if (1 : Int) > y0.2.1 then (1 : Int) else y0.2.1), IntKind.wrap IntKind.i64 (x1 + (1 : Int)), x2, x3, x4, x5, x6, x7, x8, x9, x10, x11, x12, x13)) fun r => some r) (
      none )) (
    some ((x6, x7, x5, x4, x0, x3, x10, x11, x12, x13)))
noncomputable def F192_7322b (N : Nat) : Nat → P192_7322b → Option R192_7322b
  | 0, _ => none
  | k + 1, x => B192_7322b N (F192_7322b N k) x
noncomputable def C192_7322b (N : Nat) (k : Nat) : Cut := L192_7322b.cut (F192_7322b N k)
theorem C192_7322b_ok (N : Nat) (k : Nat) : CutAt Tryz.prog false Tryz.f192 [0] 7322 (C192_7322b N k) :=
  L192_7322b.loopT ownT mix (tab192_ok N) Tryz.f192 [0] (cuts := [(7322, C192_7322 N N)]) ⟨C192_7322_ok N N, trivial⟩ (by decide +kernel) (by kernel_rfl) (B192_7322b N) (F192_7322b N) (fun _ => rfl) (fun _ _ => rfl) (fun f x => by kernel_rfl) k
@[reducible] def L192_14n : LD := ⟨14, [9, 3, 0, 2, 8], [(.exit 0, [])], ⟨[.bool, .bool, .adr 0 [], .str, .slp 1 .h .h], [.var 221 (.agg [.sl 2, .int .i64, .int .i64]), .row y0 281, .row (.int .u8) 5]⟩, [(.exit 0, ⟨[], [.var 221 (.agg [.sl 1, .int .i64, .int .i64]), .row (.int .u8) 5]⟩)]⟩
abbrev P192_14n : Type := Bool × Bool × ByteArray × Nat × Nat × Int × Int × (List (Int × (Int × (Int × Unit)))) × (List Int)
abbrev R192_14n : Type := Int × Int × (List Int)
noncomputable def B192_14n (N : Nat) (f : P192_14n → Option R192_14n) : P192_14n → Option R192_14n
  | (x0, x1, x2, x3, x4, x5, x6, x7, x8) =>
  iteP (x0) (
    iteP (decide (((0 : Int) ≤ if (8192 : Int) < (↑x4 : Int) then (8192 : Int) else (↑x4 : Int)) ∧ (if (8192 : Int) < (↑x4 : Int) then (8192 : Int) else (↑x4 : Int)) ≤ (↑x4 : Int))) (
      Option.bind (F192_7322b N N ((0 : Int), (0 : Int), (↑(Int.toNat (if (8192 : Int) < (↑x4 : Int) then (8192 : Int) else (↑x4 : Int)) - (0 : Nat)) : Int), x1, x2, if (8192 : Int) < (↑x4 : Int) then (8192 : Int) else (↑x4 : Int), x3, x4, x3 + (0 : Nat), Int.toNat (if (8192 : Int) < (↑x4 : Int) then (8192 : Int) else (↑x4 : Int)) - (0 : Nat), x5, x6, x7, x8)) fun (y0_0, y0_1, y0_2, y0_3, y0_4, y0_5, y0_6, y0_7, y0_8, y0_9) =>
      iteP (decide ((0 : Int) ≤ y0_2 ∧ y0_2 ≤ (↑y0_1 : Int))) (
        iteP (decide ((0 : Int) ≤ y0_4 ∧ y0_4 ≤ (↑(ByteArray.size y0_3) : Int))) (
          iteP (y0_5) (
            Option.bind (F252 N (List.take (Int.toNat y0_2 - (0 : Nat)) (List.drop (y0_0 + (0 : Nat)) y0_8), ByteArray.extract y0_3 (0 : Nat) (Int.toNat y0_4), y0_2 == (↑y0_1 : Int), y0_6, y0_7, y0_9)) fun y1 =>
            iteP (decide ((0 : Int) ≤ y0_2 ∧ y0_2 ≤ (↑y0_1 : Int))) (
              iteP (decide ((0 : Int) ≤ y0_4 ∧ y0_4 ≤ (↑(ByteArray.size y0_3) : Int))) (
                Option.bind (f (false, y0_5, ByteArray.extract y0_3 (Int.toNat y0_4) (ByteArray.size y0_3), y0_0 + Int.toNat y0_2, y0_1 - Int.toNat y0_2, y1.1, y1.2.1, y0_8, y1.2.2)) fun r => some r) (
                none )) (
              none )) (
            Option.bind (F252 N (List.take (Int.toNat y0_2 - (0 : Nat)) (List.drop (y0_0 + (0 : Nat)) y0_8), ByteArray.extract y0_3 (0 : Nat) (Int.toNat y0_4), false, y0_6, y0_7, y0_9)) fun y2 =>
            iteP (decide ((0 : Int) ≤ y0_2 ∧ y0_2 ≤ (↑y0_1 : Int))) (
              iteP (decide ((0 : Int) ≤ y0_4 ∧ y0_4 ≤ (↑(ByteArray.size y0_3) : Int))) (
                Option.bind (f (false, y0_5, ByteArray.extract y0_3 (Int.toNat y0_4) (ByteArray.size y0_3), y0_0 + Int.toNat y0_2, y0_1 - Int.toNat y0_2, y2.1, y2.2.1, y0_8, y2.2.2)) fun r => some r) (
                none )) (
              none ))) (
          none )) (
        none )) (
      none )) (
    iteP (decide ((↑x4 : Int) > (0 : Int))) (
      iteP (decide (((0 : Int) ≤ if (8192 : Int) < (↑x4 : Int) then (8192 : Int) else (↑x4 : Int)) ∧ (if (8192 : Int) < (↑x4 : Int) then (8192 : Int) else (↑x4 : Int)) ≤ (↑x4 : Int))) (
        Option.bind (F192_7322b N N ((0 : Int), (0 : Int), (↑(Int.toNat (if (8192 : Int) < (↑x4 : Int) then (8192 : Int) else (↑x4 : Int)) - (0 : Nat)) : Int), x1, x2, if (8192 : Int) < (↑x4 : Int) then (8192 : Int) else (↑x4 : Int), x3, x4, x3 + (0 : Nat), Int.toNat (if (8192 : Int) < (↑x4 : Int) then (8192 : Int) else (↑x4 : Int)) - (0 : Nat), x5, x6, x7, x8)) fun (y3_0, y3_1, y3_2, y3_3, y3_4, y3_5, y3_6, y3_7, y3_8, y3_9) =>
        iteP (decide ((0 : Int) ≤ y3_2 ∧ y3_2 ≤ (↑y3_1 : Int))) (
          iteP (decide ((0 : Int) ≤ y3_4 ∧ y3_4 ≤ (↑(ByteArray.size y3_3) : Int))) (
            iteP (y3_5) (
              Option.bind (F252 N (List.take (Int.toNat y3_2 - (0 : Nat)) (List.drop (y3_0 + (0 : Nat)) y3_8), ByteArray.extract y3_3 (0 : Nat) (Int.toNat y3_4), y3_2 == (↑y3_1 : Int), y3_6, y3_7, y3_9)) fun y4 =>
              iteP (decide ((0 : Int) ≤ y3_2 ∧ y3_2 ≤ (↑y3_1 : Int))) (
                iteP (decide ((0 : Int) ≤ y3_4 ∧ y3_4 ≤ (↑(ByteArray.size y3_3) : Int))) (
                  Option.bind (f (false, y3_5, ByteArray.extract y3_3 (Int.toNat y3_4) (ByteArray.size y3_3), y3_0 + Int.toNat y3_2, y3_1 - Int.toNat y3_2, y4.1, y4.2.1, y3_8, y4.2.2)) fun r => some r) (
                  none )) (
                none )) (
              Option.bind (F252 N (List.take (Int.toNat y3_2 - (0 : Nat)) (List.drop (y3_0 + (0 : Nat)) y3_8), ByteArray.extract y3_3 (0 : Nat) (Int.toNat y3_4), false, y3_6, y3_7, y3_9)) fun y5 =>
              iteP (decide ((0 : Int) ≤ y3_2 ∧ y3_2 ≤ (↑y3_1 : Int))) (
                iteP (decide ((0 : Int) ≤ y3_4 ∧ y3_4 ≤ (↑(ByteArray.size y3_3) : Int))) (
                  Option.bind (f (false, y3_5, ByteArray.extract y3_3 (Int.toNat y3_4) (ByteArray.size y3_3), y3_0 + Int.toNat y3_2, y3_1 - Int.toNat y3_2, y5.1, y5.2.1, y3_8, y5.2.2)) fun r => some r) (
                  none )) (
                none ))) (
            none )) (
          none )) (
        none )) (
      some ((x5, x6, x8))))
noncomputable def F192_14n (N : Nat) : Nat → P192_14n → Option R192_14n
  | 0, _ => none
  | k + 1, x => B192_14n N (F192_14n N k) x
noncomputable def C192_14n (N : Nat) (k : Nat) : Cut := L192_14n.cut (F192_14n N k)
theorem C192_14n_ok (N : Nat) (k : Nat) : CutAt Tryz.prog false Tryz.f192 [0] 14 (C192_14n N k) :=
  L192_14n.loopT ownT mix (tab192_ok N) Tryz.f192 [0] (cuts := [(7322, orC L192_7322.s.I (C192_7322 N N) (C192_7322b N N))]) ⟨fun c' h => orC_ok (C192_7322_ok N N c' h) (C192_7322b_ok N N c' h) rfl rfl, trivial⟩ (by decide +kernel) (by kernel_rfl) (B192_14n N) (F192_14n N) (fun _ => rfl) (fun _ _ => rfl) (fun f x => by kernel_rfl) k
@[reducible] def L192_14 : LD := ⟨14, L192_14n.live, L192_14n.out, ⟨[.bool, .bool, .adr 0 [], .str, .sl 1], [.var 221 (.agg [.sl 2, .int .i64, .int .i64]), .row y0 281, .row (.int .u8) 5]⟩, L192_14n.w⟩
noncomputable def B192_14 (N : Nat) (f : (Bool × Bool × ByteArray × Nat × Nat × Int × Int × (List (Int × (Int × (Int × Unit)))) × (List Int)) → Option (Int × Int × (List Int))) : (Bool × Bool × ByteArray × Int × Int × (List (Int × (Int × (Int × Unit)))) × (List Int)) → Option (Int × Int × (List Int))
  | (x0, x1, x2, x3, x4, x5, x6) =>
  iteP (x0) (
    iteP (decide (((0 : Int) ≤ if (8192 : Int) < (↑(List.length x5) : Int) then (8192 : Int) else (↑(List.length x5) : Int)) ∧ (if (8192 : Int) < (↑(List.length x5) : Int) then (8192 : Int) else (↑(List.length x5) : Int)) ≤ (↑(List.length x5) : Int))) (
      Option.bind (F192_7322 N N ((0 : Int), (0 : Int), (↑(Int.toNat (if (8192 : Int) < (↑(List.length x5) : Int) then (8192 : Int) else (↑(List.length x5) : Int)) - (0 : Nat)) : Int), x1, x2, if (8192 : Int) < (↑(List.length x5) : Int) then (8192 : Int) else (↑(List.length x5) : Int), Int.toNat (if (8192 : Int) < (↑(List.length x5) : Int) then (8192 : Int) else (↑(List.length x5) : Int)) - (0 : Nat), x3, x4, x5, x6)) fun (y0_0, y0_1, y0_2, y0_3, y0_4, y0_5, y0_6, y0_7) =>
      iteP (decide ((0 : Int) ≤ y0_0 ∧ y0_0 ≤ (↑(List.length y0_6) : Int))) (
        iteP (decide ((0 : Int) ≤ y0_2 ∧ y0_2 ≤ (↑(ByteArray.size y0_1) : Int))) (
          iteP (y0_3) (
            Option.bind (F252 N (List.take (Int.toNat y0_0 - (0 : Nat)) y0_6, ByteArray.extract y0_1 (0 : Nat) (Int.toNat y0_2), y0_0 == (↑(List.length y0_6) : Int), y0_4, y0_5, y0_7)) fun y1 =>
            iteP (decide ((0 : Int) ≤ y0_0 ∧ y0_0 ≤ (↑(List.length y0_6) : Int))) (
              iteP (decide ((0 : Int) ≤ y0_2 ∧ y0_2 ≤ (↑(ByteArray.size y0_1) : Int))) (
                Option.bind (f (false, y0_3, ByteArray.extract y0_1 (Int.toNat y0_2) (ByteArray.size y0_1), Int.toNat y0_0, List.length y0_6 - Int.toNat y0_0, y1.1, y1.2.1, y0_6, y1.2.2)) fun r => some r) (
                none )) (
              none )) (
            Option.bind (F252 N (List.take (Int.toNat y0_0 - (0 : Nat)) y0_6, ByteArray.extract y0_1 (0 : Nat) (Int.toNat y0_2), false, y0_4, y0_5, y0_7)) fun y2 =>
            iteP (decide ((0 : Int) ≤ y0_0 ∧ y0_0 ≤ (↑(List.length y0_6) : Int))) (
              iteP (decide ((0 : Int) ≤ y0_2 ∧ y0_2 ≤ (↑(ByteArray.size y0_1) : Int))) (
                Option.bind (f (false, y0_3, ByteArray.extract y0_1 (Int.toNat y0_2) (ByteArray.size y0_1), Int.toNat y0_0, List.length y0_6 - Int.toNat y0_0, y2.1, y2.2.1, y0_6, y2.2.2)) fun r => some r) (
                none )) (
              none ))) (
          none )) (
        none )) (
      none )) (
    iteP (decide ((↑(List.length x5) : Int) > (0 : Int))) (
      iteP (decide (((0 : Int) ≤ if (8192 : Int) < (↑(List.length x5) : Int) then (8192 : Int) else (↑(List.length x5) : Int)) ∧ (if (8192 : Int) < (↑(List.length x5) : Int) then (8192 : Int) else (↑(List.length x5) : Int)) ≤ (↑(List.length x5) : Int))) (
        Option.bind (F192_7322 N N ((0 : Int), (0 : Int), (↑(Int.toNat (if (8192 : Int) < (↑(List.length x5) : Int) then (8192 : Int) else (↑(List.length x5) : Int)) - (0 : Nat)) : Int), x1, x2, if (8192 : Int) < (↑(List.length x5) : Int) then (8192 : Int) else (↑(List.length x5) : Int), Int.toNat (if (8192 : Int) < (↑(List.length x5) : Int) then (8192 : Int) else (↑(List.length x5) : Int)) - (0 : Nat), x3, x4, x5, x6)) fun (y3_0, y3_1, y3_2, y3_3, y3_4, y3_5, y3_6, y3_7) =>
        iteP (decide ((0 : Int) ≤ y3_0 ∧ y3_0 ≤ (↑(List.length y3_6) : Int))) (
          iteP (decide ((0 : Int) ≤ y3_2 ∧ y3_2 ≤ (↑(ByteArray.size y3_1) : Int))) (
            iteP (y3_3) (
              Option.bind (F252 N (List.take (Int.toNat y3_0 - (0 : Nat)) y3_6, ByteArray.extract y3_1 (0 : Nat) (Int.toNat y3_2), y3_0 == (↑(List.length y3_6) : Int), y3_4, y3_5, y3_7)) fun y4 =>
              iteP (decide ((0 : Int) ≤ y3_0 ∧ y3_0 ≤ (↑(List.length y3_6) : Int))) (
                iteP (decide ((0 : Int) ≤ y3_2 ∧ y3_2 ≤ (↑(ByteArray.size y3_1) : Int))) (
                  Option.bind (f (false, y3_3, ByteArray.extract y3_1 (Int.toNat y3_2) (ByteArray.size y3_1), Int.toNat y3_0, List.length y3_6 - Int.toNat y3_0, y4.1, y4.2.1, y3_6, y4.2.2)) fun r => some r) (
                  none )) (
                none )) (
              Option.bind (F252 N (List.take (Int.toNat y3_0 - (0 : Nat)) y3_6, ByteArray.extract y3_1 (0 : Nat) (Int.toNat y3_2), false, y3_4, y3_5, y3_7)) fun y5 =>
              iteP (decide ((0 : Int) ≤ y3_0 ∧ y3_0 ≤ (↑(List.length y3_6) : Int))) (
                iteP (decide ((0 : Int) ≤ y3_2 ∧ y3_2 ≤ (↑(ByteArray.size y3_1) : Int))) (
                  Option.bind (f (false, y3_3, ByteArray.extract y3_1 (Int.toNat y3_2) (ByteArray.size y3_1), Int.toNat y3_0, List.length y3_6 - Int.toNat y3_0, y5.1, y5.2.1, y3_6, y5.2.2)) fun r => some r) (
                  none )) (
                none ))) (
            none )) (
          none )) (
        none )) (
      some ((x3, x4, x6))))
noncomputable def F192_14 (N : Nat) (k : Nat) : (Bool × Bool × ByteArray × Int × Int × (List (Int × (Int × (Int × Unit)))) × (List Int)) → Option (Int × Int × (List Int)) := B192_14 N (F192_14n N k)
noncomputable def C192_14 (N : Nat) (k : Nat) : Cut := L192_14.cut (F192_14 N k)
theorem C192_14_ok (N : Nat) (k : Nat) : CutAt Tryz.prog false Tryz.f192 [0] 14 (C192_14 N k) :=
  L192_14.loop2T ownT mix (tab192_ok N) L192_14n.s Tryz.f192 [0] (cuts := [(7322, orC L192_7322.s.I (C192_7322 N N) (C192_7322b N N)), (14, C192_14n N N)]) ⟨fun c' h => orC_ok (C192_7322_ok N N c' h) (C192_7322b_ok N N c' h) rfl rfl, C192_14n_ok N N, trivial⟩ (by decide +kernel) (by kernel_rfl) (B192_14 N) (B192_14n N) (F192_14n N) (fun _ => rfl) (fun _ _ => rfl) (fun f g x => by kernel_rfl) (fun f g x => by kernel_rfl) k
@[reducible] def w192 : List SP := [⟨[.tup []], [.var 221 (.agg [.sl 1, .int .i64, .int .i64]), .row (.int .u8) 5]⟩]
noncomputable def F192 (N : Nat) : (ByteArray × ByteArray × Bool × Int × Int × (List Int)) → Option (Int × Int × (List Int))
  | (x0, x1, x2, x3, x4, x5) =>
  Option.bind (F251 N (x0, x1)) fun y0 =>
  Option.bind (F192_14 N N (true, x2, x1, x3, x4, y0, x5)) fun y1 =>
  some ((y1.1, y1.2.1, y1.2.2))
noncomputable def T192 (N : Nat) : Pk → Tr Pk := tellS s192 w192 (F192 N)
theorem T192_ok (N : Nat) : FOK Tryz.prog (192) (T192 N) :=
  (fn_ok2 ownT mix (tab192_ok N) Tryz.func192 s192 w192 [0] (cuts := [(7322, orC L192_7322.s.I (C192_7322 N N) (C192_7322b N N)), (14, orC L192_14n.s.I (C192_14n N N) (C192_14 N N))]) ⟨fun c' h => orC_ok (C192_7322_ok N N c' h) (C192_7322b_ok N N c' h) rfl rfl, fun c' h => orC_ok (C192_14n_ok N N c' h) (C192_14_ok N N c' h) rfl rfl, trivial⟩ (fun _ => by kernel_rfl) (by decide +kernel) (F192 N) (fun x => by kernel_rfl))
@[reducible] def s193 : SP := ⟨[.radr y4 [.i 0 3]], []⟩
noncomputable def tab193 (N : Nat) : List (Nat × (Pk → Tr Pk)) := []
theorem tab193_ok (N : Nat) : TabOK Tryz.prog (tab193 N) := trivial
@[reducible] def w193 : List SP := [⟨[.str], []⟩]
noncomputable def F193 (N : Nat) : (((List Int) × (Int × (Int × Unit)))) → Option (ByteArray)
  | x0 =>
  iteP (decide (x0.2.2.1 > (0 : Int))) (
    iteP (decide ((↑(ByteArray.size (stringOf x0.1) + ByteArray.size (stringOf [IntKind.wrap IntKind.u8 x0.2.1])) : Int) > (9223372036854775807 : Int))) (
      none ) (
      some (stringOf x0.1 ++ stringOf [IntKind.wrap IntKind.u8 x0.2.1]))) (
    some (stringOf x0.1))
noncomputable def T193 (N : Nat) : Pk → Tr Pk := tellS s193 w193 (F193 N)
theorem T193_ok (N : Nat) : FOK Tryz.prog (193) (T193 N) :=
  (fn_ok2 ownT mix (tab193_ok N) Tryz.func193 s193 w193 [] (cuts := []) trivial (fun _ => by kernel_rfl) (by decide +kernel) (F193 N) (fun x => by kernel_rfl))
@[reducible] def s124 : SP := ⟨[.str, .str], []⟩
noncomputable def tab124 (N : Nat) : List (Nat × (Pk → Tr Pk)) := [(192, T192 N), (193, T193 N)]
theorem tab124_ok (N : Nat) : TabOK Tryz.prog (tab124 N) := ⟨T192_ok N, T193_ok N, trivial⟩
@[reducible] def w124 : List SP := [⟨[.str], []⟩]
noncomputable def F124 (N : Nat) : (ByteArray × ByteArray) → Option (ByteArray)
  | (x0, x1) =>
  Option.bind (F192 N (x0, x1, true, (0 : Int), (0 : Int), [])) fun y0 =>
  Option.bind (F193 N (y0.2.2, y0.1, y0.2.1, ())) fun y1 =>
  some (y1)
noncomputable def T124 (N : Nat) : Pk → Tr Pk := tellS s124 w124 (F124 N)
theorem T124_ok (N : Nat) : FOK Tryz.prog (124) (T124 N) :=
  (fn_ok2 ownT mix (tab124_ok N) Tryz.func124 s124 w124 [] (cuts := []) trivial (fun _ => by kernel_rfl) (by decide +kernel) (F124 N) (fun x => by kernel_rfl))
@[reducible] def s64 : SP := ⟨[.str], []⟩
noncomputable def tab64 (N : Nat) : List (Nat × (Pk → Tr Pk)) := [(123, T123 N), (100, T100 N), (124, T124 N)]
theorem tab64_ok (N : Nat) : TabOK Tryz.prog (tab64 N) := ⟨T123_ok N, T100_ok N, T124_ok N, trivial⟩
@[reducible] def w64 : List SP := [⟨[.str], []⟩]
noncomputable def F64 (N : Nat) : (ByteArray) → Option (ByteArray)
  | x0 =>
  Option.bind (F123 N [x0]) fun y0 =>
  Option.bind (F100 N ((4 : Int), y0)) fun y1 =>
  Option.bind (F124 N (ByteArray.mk #[], x0)) fun y2 =>
  iteP (decide ((↑((2 : Nat) + ByteArray.size y2) : Int) > (9223372036854775807 : Int))) (
    none ) (
    iteP (decide ((↑(ByteArray.size (ByteArray.mk #[(120 : UInt8), (156 : UInt8)] ++ y2) + ByteArray.size y1.1) : Int) > (9223372036854775807 : Int))) (
      none ) (
      some (ByteArray.mk #[(120 : UInt8), (156 : UInt8)] ++ y2 ++ y1.1)))
noncomputable def T64 (N : Nat) : Pk → Tr Pk := tellS s64 w64 (F64 N)
theorem T64_ok (N : Nat) : FOK Tryz.prog (64) (T64 N) :=
  (fn_ok2 ownT mix (tab64_ok N) Tryz.func64 s64 w64 [] (cuts := []) trivial (fun _ => by kernel_rfl) (by decide +kernel) (F64 N) (fun x => by kernel_rfl))
@[reducible] def s66 : SP := ⟨[.sl 0, .int .i64], [.row (.int .u8) 5]⟩
noncomputable def tab66 (N : Nat) : List (Nat × (Pk → Tr Pk)) := []
theorem tab66_ok (N : Nat) : TabOK Tryz.prog (tab66 N) := trivial
@[reducible] def w66 : List SP := [⟨[.clo 130 [.adr 0 [], .adr 1 []]], [.var 93 (.sl 2), .var 3 (.int .i64), .row (.int .u8) 5]⟩]
noncomputable def F66 (N : Nat) : (Int × (List Int)) → Option (Int × (List Int))
  | (x0, x1) =>
  iteP (decide (x0 < (1 : Int))) (
    none ) (
    some ((x0, x1)))
noncomputable def T66 (N : Nat) : Pk → Tr Pk := tellS s66 w66 (F66 N)
theorem T66_ok (N : Nat) : FOK Tryz.prog (66) (T66 N) :=
  (fn_ok2 ownT mix (tab66_ok N) Tryz.func66 s66 w66 [] (cuts := []) trivial (fun _ => by kernel_rfl) (by decide +kernel) (F66 N) (fun x => by kernel_rfl))
@[reducible] def s20r8186 : SP := ⟨[.yv 0, .slp 1 .h .h, .adr 2 []], [.lp 368934881474191040506 [7] [.adr 2 []] 0, .row (.int .u8) 5, .var 95 (.agg [.adr 2 [], .sl 3]), .row (.int .u8) 5]⟩
noncomputable def tab20r8186 (N : Nat) : List (Nat × (Pk → Tr Pk)) := [(18, T18 N), (62, T62a N)]
theorem tab20r8186_ok (N : Nat) : TabOK Tryz.prog (tab20r8186 N) := ⟨T18_ok N, T62a_ok N, trivial⟩
@[reducible] def w20r8186 : List SP := [⟨[.bc true], [.lp 368934881474191040506 [7] [.adr 2 []] 0, .row (.int .u8) 5, .var 95 (.agg [.adr 2 [], .sl 3]), .row (.int .u8) 5]⟩]
noncomputable def F20r8186 (N : Nat) : (Nat × Nat × (List Int) × (List Int)) → Option ((List Int) × (List Int))
  | (x0, x1, x2, x3) =>
  Option.bind (F18 N (ByteArray.mk #[(73 : UInt8), (68 : UInt8), (65 : UInt8), (84 : UInt8)], stringOf (List.take x1 (List.drop x0 x2)))) fun y0 =>
  Option.bind (F62a N (y0, x3)) fun y1 =>
  some ((x2, y1.2))
noncomputable def T20r8186 (N : Nat) : Pk → Tr Pk := tellS s20r8186 w20r8186 (F20r8186 N)
theorem T20r8186_ok (N : Nat) : FOK Tryz.prog (20 * bigK + 8186) (T20r8186 N) :=
  (rnd_ok ownT mix (tab20r8186_ok N) Tryz.func20 8186 s20r8186 w20r8186 [0, 1, 2, 2, 2] (cuts := []) trivial (fun _ => by kernel_rfl) (by decide +kernel) (F20r8186 N) (fun x => by kernel_rfl))
@[reducible] def s130 : SP := ⟨[.yv 0, .adr 1 [], .adr 2 []], [.lp 368934881474191040506 [7] [.adr 3 []] 0, .var 93 (.sl 4), .var 3 (.int .i64), .var 95 (.agg [.adr 3 [], .sl 5]), .row (.int .u8) 5, .row (.int .u8) 5]⟩
noncomputable def tab130 (N : Nat) : List (Nat × (Pk → Tr Pk)) := [(20 * bigK + 8186, T20r8186 N)]
theorem tab130_ok (N : Nat) : TabOK Tryz.prog (tab130 N) := ⟨T20r8186_ok N, trivial⟩
@[reducible] def L130_6 : LD := ⟨6, [0, 1, 2, 4], [(.exit 0, [])], ⟨[.yv 0, .adr 1 [], .adr 2 [], .int .i64], [.lp 368934881474191040506 [7] [.adr 3 []] 0, .var 93 (.sl 4), .var 3 (.int .i64), .var 95 (.agg [.adr 3 [], .sl 5]), .row (.int .u8) 5, .row (.int .u8) 5]⟩, [(.exit 0, ⟨[], [.lp 368934881474191040506 [7] [.adr 3 []] 0, .var 93 (.sl 4), .var 3 (.int .i64), .var 95 (.agg [.adr 3 [], .sl 5]), .row (.int .u8) 5, .row (.int .u8) 5]⟩)]⟩
abbrev P130_6 : Type := Int × Int × (List Int) × (List Int)
abbrev R130_6 : Type := Int × (List Int) × (List Int)
noncomputable def B130_6 (N : Nat) (f : P130_6 → Option R130_6) : P130_6 → Option R130_6
  | (x0, x1, x2, x3) =>
  iteP (decide (x0 < (↑(List.length x2) : Int))) (
    iteP (decide ((0 : Int) ≤ x0 ∧ x0 ≤ (↑(List.length x2) : Int))) (
      iteP (decide ((0 : Int) ≤ x0 ∧ x0 ≤ IntKind.wrap IntKind.i64 (x0 + if (↑(List.length x2 - Int.toNat x0) : Int) < x1 then (↑(List.length x2 - Int.toNat x0) : Int) else x1) ∧ IntKind.wrap IntKind.i64 (x0 + if (↑(List.length x2 - Int.toNat x0) : Int) < x1 then (↑(List.length x2 - Int.toNat x0) : Int) else x1) ≤ IntKind.wrap IntKind.i64 (x0 + if (↑(List.length x2 - Int.toNat x0) : Int) < x1 then (↑(List.length x2 - Int.toNat x0) : Int) else x1) ∧ IntKind.wrap IntKind.i64 (x0 + if (↑(List.length x2 - Int.toNat x0) : Int) < x1 then (↑(List.length x2 - Int.toNat x0) : Int) else x1) ≤ (↑(List.length x2) : Int))) (
        Option.bind (F20r8186 N (Int.toNat x0, Int.toNat (IntKind.wrap IntKind.i64 (x0 + if (↑(List.length x2 - Int.toNat x0) : Int) < x1 then (↑(List.length x2 - Int.toNat x0) : Int) else x1)) - Int.toNat x0, x2, x3)) fun y0 =>
        Option.bind (f (IntKind.wrap IntKind.i64 (x0 + x1), x1, y0.1, y0.2)) fun r => some r) (
        none )) (
      none )) (
    some ((x1, x2, x3)))
noncomputable def F130_6 (N : Nat) : Nat → P130_6 → Option R130_6
  | 0, _ => none
  | k + 1, x => B130_6 N (F130_6 N k) x
noncomputable def C130_6 (N : Nat) (k : Nat) : Cut := L130_6.cut (F130_6 N k)
theorem C130_6_ok (N : Nat) (k : Nat) : CutAt Tryz.prog false Tryz.f130 [0, 1, 2, 3, 3] 6 (C130_6 N k) :=
  L130_6.loopT ownT mix (tab130_ok N) Tryz.f130 [0, 1, 2, 3, 3] (cuts := []) trivial (by decide +kernel) (by kernel_rfl) (B130_6 N) (F130_6 N) (fun _ => rfl) (fun _ _ => rfl) (fun f x => by kernel_rfl) k
@[reducible] def w130 : List SP := [⟨[.tup []], [.lp 368934881474191040506 [7] [.adr 3 []] 0, .var 93 (.sl 4), .var 3 (.int .i64), .var 95 (.agg [.adr 3 [], .sl 5]), .row (.int .u8) 5, .row (.int .u8) 5]⟩]
noncomputable def F130 (N : Nat) : (Int × (List Int) × (List Int)) → Option (Int × (List Int) × (List Int))
  | (x0, x1, x2) =>
  Option.bind (F130_6 N N ((0 : Int), x0, x1, x2)) fun y0 =>
  some ((y0.1, y0.2.1, y0.2.2))
noncomputable def T130 (N : Nat) : Pk → Tr Pk := tellS s130 w130 (F130 N)
theorem T130_ok (N : Nat) : FOK Tryz.prog (130) (T130 N) :=
  (fn_ok2 ownT mix (tab130_ok N) Tryz.func130 s130 w130 [0, 1, 2, 3, 3] (cuts := [(6, C130_6 N N)]) ⟨C130_6_ok N N, trivial⟩ (fun _ => by kernel_rfl) (by decide +kernel) (F130 N) (fun x => by kernel_rfl))
@[reducible] def s20 : SP := ⟨[.agg [.agg [.int .i64, .int .i64, .ro (.int .i64)], .ro (.int .i64)], .int .i64], []⟩
noncomputable def tab20 (N : Nat) : List (Nat × (Pk → Tr Pk)) := [(24, T24 N), (61, T61 N), (62, orT s62.I (T62 N) (T62a N)), (58, T58 N), (18, T18 N), (63, T63 N), (65, T65 N), (64, T64 N), (66, T66 N), (130, T130 N)]
theorem tab20_ok (N : Nat) : TabOK Tryz.prog (tab20 N) := ⟨T24_ok N, T61_ok N, orT_ok (T62_ok N) (T62a_ok N), T58_ok N, T18_ok N, T63_ok N, T65_ok N, T64_ok N, T66_ok N, T130_ok N, trivial⟩
@[reducible] def L20_16298 : LD := ⟨16298, [8, 40, 39, 7, 4, 5, 1, 2, 38], [(.ret, [4, 5]), (.exit 0, [8, 2, 1, 5, 4, 7])], ⟨[.str, .int .i64, .int .i64, .adr 0 [], .str, .int .i64, .int .i64, .adr 1 [], .ro (.int .i64)], [.var 95 (.agg [.adr 0 [], .sl 2]), .var 33 (.agg [.agg [.int .i64, .int .i64, .ro (.int .i64)], .ro (.int .i64)]), .row (.int .u8) 5]⟩, [(.exit 0, ⟨[.str, .adr 0 [], .int .i64, .int .i64, .str, .adr 1 []], [.var 33 (.agg [.agg [.int .i64, .int .i64, .ro (.int .i64)], .ro (.int .i64)]), .var 95 (.agg [.adr 1 [], .sl 2]), .row (.int .u8) 5]⟩)]⟩
abbrev P20_16298 : Type := ByteArray × Int × Int × ByteArray × Int × Int × (List Int) × Int × Int × (List Int) × (List Int) × (List Int)
abbrev R20_16298 : Type := ByteArray × Int × Int × ByteArray × Int × Int × (List Int) × (List Int) × (List Int)
noncomputable def B20_16298 (N : Nat) (f : P20_16298 → Option R20_16298) : P20_16298 → Option R20_16298
  | (x0, x1, x2, x3, x4, x5, x6, x7, x8, x9, x10, x11) =>
  iteP (decide (x1 < x2)) (
    iteP (within x1 (List.length x6)) (
      Option.bind (x6[Int.toNat x1]?) fun y0 =>
      Option.bind (F63 N y0) fun y1 =>
      iteP (decide ((↑(ByteArray.size x0 + ByteArray.size y1) : Int) > (9223372036854775807 : Int))) (
        none ) (
        Option.bind (f (x0 ++ y1, IntKind.wrap IntKind.i64 (x1 + (1 : Int)), x2, x3, x4, x5, x6, x7, x8, x9, x10, x11)) fun r => some r)) (
      none )) (
    some ((x0, x5, x4, x3, x7, x8, x9, x10, x11)))
noncomputable def F20_16298 (N : Nat) : Nat → P20_16298 → Option R20_16298
  | 0, _ => none
  | k + 1, x => B20_16298 N (F20_16298 N k) x
noncomputable def C20_16298 (N : Nat) (k : Nat) : Cut := L20_16298.cut (F20_16298 N k)
theorem C20_16298_ok (N : Nat) (k : Nat) : CutAt Tryz.prog false Tryz.f20 [] 16298 (C20_16298 N k) :=
  L20_16298.loopT ownT mix (tab20_ok N) Tryz.f20 [] (cuts := []) trivial (by decide +kernel) (by kernel_rfl) (B20_16298 N) (F20_16298 N) (fun _ => rfl) (fun _ _ => rfl) (fun f x => by kernel_rfl) k
@[reducible] def L20_8186 : LD := ⟨8186, [5, 4, 7, 62], [(.ret, [4, 5]), (.exit 2, [7]), (.normal, [7])], ⟨[.int .i64, .str, .adr 0 [], .clo 130 [.adr 1 [], .adr 2 []]], [.var 95 (.agg [.adr 0 [], .sl 3]), .var 93 (.sl 4), .var 3 (.int .i64), .row (.int .u8) 5, .row (.int .u8) 5]⟩, [(.normal, ⟨[.adr 0 []], [.var 95 (.agg [.adr 0 [], .sl 1]), .row (.int .u8) 5]⟩)]⟩
noncomputable def F20_8186 (N : Nat) : (Int × ByteArray × Int × (List Int) × (List Int)) → Option ((List Int))
  | (x0, x1, x2, x3, x4) =>
  Option.bind (F130 N (x2, x4, x3)) fun y0 =>
  some y0.2.2
noncomputable def C20_8186 (N : Nat) (_ : Nat) : Cut := L20_8186.cut (F20_8186 N)
theorem C20_8186_ok (N : Nat) (k : Nat) : CutAt Tryz.prog false Tryz.f20 [] 8186 (C20_8186 N k) :=
  L20_8186.rngT ownT mix (tab20_ok N) Tryz.func20 [] [7] (by decide +kernel) (F20_8186 N) (fun x => by kernel_rfl)
@[reducible] def L20_255 : LD := ⟨255, [2, 1, 5, 4, 7], [(.ret, [4, 5]), (.normal, [4, 5])], ⟨[.adr 0 [], .int .i64, .int .i64, .str, .adr 1 []], [.var 33 (.agg [.agg [.int .i64, .int .i64, .ro (.int .i64)], .ro (.int .i64)]), .var 95 (.agg [.adr 1 [], .sl 2]), .row (.int .u8) 5]⟩, [(.ret, ⟨[.str, .int .i64], []⟩)]⟩
noncomputable def F20_255 (N : Nat) : (Int × Int × ByteArray × Int × Int × (List Int) × (List Int) × (List Int)) → Option (ByteArray × Int)
  | (x0, x1, x2, x3, x4, x5, x6, x7) =>
  Option.bind (F65 N (x3, x4, x5, x6)) fun y0 =>
  Option.bind (F64 N y0) fun y1 =>
  iteP (decide (x0 < (1 : Int))) (
    iteP (decide (ByteArray.size y1 ≤ (140737488355328 : Nat))) (
      Option.bind (F66 N ((↑(ByteArray.size y1) : Int), bytesOf y1)) fun y2 =>
      Option.bind (F20_8186 N (x1, x2, y2.1, x7, y2.2)) fun y3 =>
      Option.bind (F18 N (ByteArray.mk #[(73 : UInt8), (69 : UInt8), (78 : UInt8), (68 : UInt8)], ByteArray.mk #[])) fun y4 =>
      Option.bind (F62a N (y4, y3)) fun y5 =>
      iteP (decide ((0 : Nat) < List.length y5.2 ∧ List.length y5.2 ≤ (140737488355328 : Nat))) (
        some ((stringOf y5.2, (0 : Int)))) (
        none )) (
      none )) (
    iteP (decide (ByteArray.size y1 ≤ (140737488355328 : Nat))) (
      Option.bind (F66 N (x0, bytesOf y1)) fun y6 =>
      Option.bind (F20_8186 N (x1, x2, y6.1, x7, y6.2)) fun y7 =>
      Option.bind (F18 N (ByteArray.mk #[(73 : UInt8), (69 : UInt8), (78 : UInt8), (68 : UInt8)], ByteArray.mk #[])) fun y8 =>
      Option.bind (F62a N (y8, y7)) fun y9 =>
      iteP (decide ((0 : Nat) < List.length y9.2 ∧ List.length y9.2 ≤ (140737488355328 : Nat))) (
        some ((stringOf y9.2, (0 : Int)))) (
        none )) (
      none ))
noncomputable def C20_255 (N : Nat) (_ : Nat) : Cut := L20_255.cut (F20_255 N)
theorem C20_255_ok (N : Nat) (k : Nat) : CutAt Tryz.prog false Tryz.f20 [] 255 (C20_255 N k) :=
  L20_255.pieceT ownT mix (tab20_ok N) Tryz.f20 [] (cuts := [(16298, C20_16298 N N), (8186, C20_8186 N N)]) ⟨C20_16298_ok N N, C20_8186_ok N N, trivial⟩ (by decide +kernel) (by kernel_rfl) (F20_255 N) (fun x => by kernel_rfl)
@[reducible] def w20 : List SP := [⟨[.tup [.str, .int .i64]], []⟩]
noncomputable def F20 (N : Nat) : (Int × Int × (List Int) × (List Int) × Int) → Option (ByteArray × Int)
  | (x0, x1, x2, x3, x4) =>
  Option.bind (F24 N (x0, x1, x2, x3)) fun y0 =>
  iteP (!y0) (
    some ((ByteArray.mk #[], (121 : Int)))) (
    Option.bind (F61 N (x0, x1, x2, x3)) fun y1 =>
    Option.bind (F62 N (ByteArray.mk #[(137 : UInt8), (80 : UInt8), (78 : UInt8), (71 : UInt8), (13 : UInt8), (10 : UInt8), (26 : UInt8), (10 : UInt8)], [])) fun y2 =>
    Option.bind (F58 N x0) fun y3 =>
    Option.bind (F58 N x1) fun y4 =>
    iteP (decide ((↑(ByteArray.size y3 + ByteArray.size y4) : Int) > (9223372036854775807 : Int))) (
      none ) (
      iteP (decide ((↑(ByteArray.size (y3 ++ y4) + ByteArray.size (stringOf [(8 : Int), IntKind.wrap IntKind.u8 y1, (0 : Int), (0 : Int), (0 : Int)])) : Int) > (9223372036854775807 : Int))) (
        none ) (
        Option.bind (F18 N (ByteArray.mk #[(73 : UInt8), (72 : UInt8), (68 : UInt8), (82 : UInt8)], y3 ++ y4 ++ stringOf [(8 : Int), IntKind.wrap IntKind.u8 y1, (0 : Int), (0 : Int), (0 : Int)])) fun y5 =>
        Option.bind (F62a N (y5, y2.2)) fun y6 =>
        iteP (y1 == (3 : Int)) (
          Option.bind (F20_16298 N N (ByteArray.mk #[], (0 : Int), (↑(List.length x3) : Int), ByteArray.mk #[], (0 : Int), x4, x3, x0, x1, x2, x3, y6.2)) fun (y7_0, y7_1, y7_2, y7_3, y7_4, y7_5, y7_6, y7_7, y7_8) =>
          Option.bind (F18 N (ByteArray.mk #[(80 : UInt8), (76 : UInt8), (84 : UInt8), (69 : UInt8)], y7_0)) fun y8 =>
          Option.bind (F62a N (y8, y7_8)) fun y9 =>
          Option.bind (F20_255 N (y7_1, y7_2, y7_3, y7_4, y7_5, y7_6, y7_7, y9.2)) fun y10 =>
          some ((y10.1, y10.2))) (
          Option.bind (F20_255 N (x4, (0 : Int), ByteArray.mk #[], x0, x1, x2, x3, y6.2)) fun y11 =>
          some ((y11.1, y11.2))))))
noncomputable def T20 (N : Nat) : Pk → Tr Pk := tellS s20 w20 (F20 N)
theorem T20_ok (N : Nat) : FOK Tryz.prog (20) (T20 N) :=
  (fn_ok2 ownT mix (tab20_ok N) Tryz.func20 s20 w20 [] (cuts := [(16298, C20_16298 N N), (8186, C20_8186 N N), (255, C20_255 N N)]) ⟨C20_16298_ok N N, C20_8186_ok N N, C20_255_ok N N, trivial⟩ (fun _ => by kernel_rfl) (by decide +kernel) (F20 N) (fun x => by kernel_rfl))
@[reducible] def s186 : SP := ⟨[.str, .str], []⟩
noncomputable def tab186 (N : Nat) : List (Nat × (Pk → Tr Pk)) := []
theorem tab186_ok (N : Nat) : TabOK Tryz.prog (tab186 N) := trivial
@[reducible] def w186 : List SP := [⟨[.bool], []⟩]
noncomputable def F186 (N : Nat) : (ByteArray × ByteArray) → Option (Bool)
  | (x0, x1) =>
  iteP (decide ((↑(ByteArray.size x0) : Int) ≥ (↑(ByteArray.size x1) : Int))) (
    iteP (decide ((0 : Int) ≤ (↑(ByteArray.size x1) : Int) ∧ (↑(ByteArray.size x1) : Int) ≤ (↑(ByteArray.size x0) : Int))) (
      some (ByteArray.toList (ByteArray.extract x0 (0 : Nat) (Int.toNat (↑(ByteArray.size x1) : Int))) == ByteArray.toList x1)) (
      none )) (
    some (false))
noncomputable def T186 (N : Nat) : Pk → Tr Pk := tellS s186 w186 (F186 N)
theorem T186_ok (N : Nat) : FOK Tryz.prog (186) (T186 N) :=
  (fn_ok2 ownT mix (tab186_ok N) Tryz.func186 s186 w186 [] (cuts := []) trivial (fun _ => by kernel_rfl) (by decide +kernel) (F186 N) (fun x => by kernel_rfl))
@[reducible] def s114 : SP := ⟨[.str, .str], []⟩
noncomputable def tab114 (N : Nat) : List (Nat × (Pk → Tr Pk)) := [(186, T186 N)]
theorem tab114_ok (N : Nat) : TabOK Tryz.prog (tab114 N) := ⟨T186_ok N, trivial⟩
@[reducible] def w114 : List SP := [⟨[.bool], []⟩]
noncomputable def F114 (N : Nat) : (ByteArray × ByteArray) → Option (Bool)
  | (x0, x1) =>
  Option.bind (F186 N (x0, x1)) fun y0 =>
  some (y0)
noncomputable def T114 (N : Nat) : Pk → Tr Pk := tellS s114 w114 (F114 N)
theorem T114_ok (N : Nat) : FOK Tryz.prog (114) (T114 N) :=
  (fn_ok2 ownT mix (tab114_ok N) Tryz.func114 s114 w114 [] (cuts := []) trivial (fun _ => by kernel_rfl) (by decide +kernel) (F114 N) (fun x => by kernel_rfl))
@[reducible] def y5 : Ty := (.cons .str (.cons .str .unit))
@[reducible] def s81 : SP := ⟨[.str], []⟩
noncomputable def tab81 (N : Nat) : List (Nat × (Pk → Tr Pk)) := []
theorem tab81_ok (N : Nat) : TabOK Tryz.prog (tab81 N) := trivial
@[reducible] def w81 : List SP := [⟨[.adr 0 []], [.var 189 (.agg [.str, .int .i64, .int .i64])]⟩]
noncomputable def F81 (N : Nat) : (ByteArray) → Option (ByteArray × Int × Int)
  | x0 =>
  some ((x0, (0 : Int), (0 : Int)))
noncomputable def T81 (N : Nat) : Pk → Tr Pk := tellS s81 w81 (F81 N)
theorem T81_ok (N : Nat) : FOK Tryz.prog (81) (T81 N) :=
  (fn_ok2 ownT mix (tab81_ok N) Tryz.func81 s81 w81 [] (cuts := []) trivial (fun _ => by kernel_rfl) (by decide +kernel) (F81 N) (fun x => by kernel_rfl))
@[reducible] def s206 : SP := ⟨[.adr 0 [], .int .i64], [.var 189 (.agg [.str, .int .i64, .int .i64])]⟩
noncomputable def tab206 (N : Nat) : List (Nat × (Pk → Tr Pk)) := []
theorem tab206_ok (N : Nat) : TabOK Tryz.prog (tab206 N) := trivial
@[reducible] def w206 : List SP := [⟨[.tup []], [.var 189 (.agg [.str, .int .i64, .int .i64])]⟩]
noncomputable def F206 (N : Nat) : (Int × ByteArray × Int × Int) → Option (ByteArray × Int × Int)
  | (x0, x1, x2, x3) =>
  iteP (x3 == (0 : Int)) (
    some ((x1, x2, x0))) (
    some ((x1, x2, x3)))
noncomputable def T206 (N : Nat) : Pk → Tr Pk := tellS s206 w206 (F206 N)
theorem T206_ok (N : Nat) : FOK Tryz.prog (206) (T206 N) :=
  (fn_ok2 ownT mix (tab206_ok N) Tryz.func206 s206 w206 [0] (cuts := []) trivial (fun _ => by kernel_rfl) (by decide +kernel) (F206 N) (fun x => by kernel_rfl))
@[reducible] def y6 : Ty := (.cons .str (.cons (.int .i64) (.cons (.int .i64) .unit)))
@[reducible] def s86 : SP := ⟨[.radr y6 [.i 0 3]], []⟩
noncomputable def tab86 (N : Nat) : List (Nat × (Pk → Tr Pk)) := []
theorem tab86_ok (N : Nat) : TabOK Tryz.prog (tab86 N) := trivial
@[reducible] def w86 : List SP := [⟨[.int .i64], []⟩]
noncomputable def F86 (N : Nat) : ((ByteArray × (Int × (Int × Unit)))) → Option (Int)
  | x0 =>
  some (IntKind.wrap IntKind.i64 ((↑(ByteArray.size x0.1) : Int) - x0.2.1))
noncomputable def T86 (N : Nat) : Pk → Tr Pk := tellS s86 w86 (F86 N)
theorem T86_ok (N : Nat) : FOK Tryz.prog (86) (T86 N) :=
  (fn_ok2 ownT mix (tab86_ok N) Tryz.func86 s86 w86 [] (cuts := []) trivial (fun _ => by kernel_rfl) (by decide +kernel) (F86 N) (fun x => by kernel_rfl))
@[reducible] def s135 : SP := ⟨[.adr 0 [], .int .i64], [.var 189 (.agg [.str, .int .i64, .int .i64])]⟩
noncomputable def tab135 (N : Nat) : List (Nat × (Pk → Tr Pk)) := [(206, T206 N), (86, T86 N)]
theorem tab135_ok (N : Nat) : TabOK Tryz.prog (tab135 N) := ⟨T206_ok N, T86_ok N, trivial⟩
@[reducible] def w135 : List SP := [⟨[.str], [.var 189 (.agg [.str, .int .i64, .int .i64])]⟩]
noncomputable def F135 (N : Nat) : (Int × ByteArray × Int × Int) → Option (ByteArray × ByteArray × Int × Int)
  | (x0, x1, x2, x3) =>
  iteP (decide (x0 < (0 : Int))) (
    Option.bind (F206 N ((1 : Int), x1, x2, x3)) fun y0 =>
    iteP (y0.2.2 != (0 : Int)) (
      some ((ByteArray.mk #[], y0.1, y0.2.1, y0.2.2))) (
      iteP (decide ((0 : Int) ≤ IntKind.wrap IntKind.i64 (y0.2.1 + x0) ∧ IntKind.wrap IntKind.i64 (y0.2.1 + x0) ≤ (↑(ByteArray.size y0.1) : Int))) (
        iteP (decide ((0 : Int) ≤ IntKind.wrap IntKind.i64 (IntKind.wrap IntKind.i64 (y0.2.1 + x0) - x0) ∧ IntKind.wrap IntKind.i64 (IntKind.wrap IntKind.i64 (y0.2.1 + x0) - x0) ≤ (↑(Int.toNat (IntKind.wrap IntKind.i64 (y0.2.1 + x0))) : Int))) (
          some ((ByteArray.extract y0.1 (Int.toNat (IntKind.wrap IntKind.i64 (IntKind.wrap IntKind.i64 (y0.2.1 + x0) - x0))) (Int.toNat (IntKind.wrap IntKind.i64 (y0.2.1 + x0))), y0.1, IntKind.wrap IntKind.i64 (y0.2.1 + x0), y0.2.2))) (
          none )) (
        none ))) (
    Option.bind (F86 N (x1, x2, x3, ())) fun y1 =>
    iteP (decide (x0 > y1)) (
      Option.bind (F206 N ((2 : Int), x1, x2, x3)) fun y2 =>
      iteP (y2.2.2 != (0 : Int)) (
        some ((ByteArray.mk #[], y2.1, y2.2.1, y2.2.2))) (
        iteP (decide ((0 : Int) ≤ IntKind.wrap IntKind.i64 (y2.2.1 + x0) ∧ IntKind.wrap IntKind.i64 (y2.2.1 + x0) ≤ (↑(ByteArray.size y2.1) : Int))) (
          iteP (decide ((0 : Int) ≤ IntKind.wrap IntKind.i64 (IntKind.wrap IntKind.i64 (y2.2.1 + x0) - x0) ∧ IntKind.wrap IntKind.i64 (IntKind.wrap IntKind.i64 (y2.2.1 + x0) - x0) ≤ (↑(Int.toNat (IntKind.wrap IntKind.i64 (y2.2.1 + x0))) : Int))) (
            some ((ByteArray.extract y2.1 (Int.toNat (IntKind.wrap IntKind.i64 (IntKind.wrap IntKind.i64 (y2.2.1 + x0) - x0))) (Int.toNat (IntKind.wrap IntKind.i64 (y2.2.1 + x0))), y2.1, IntKind.wrap IntKind.i64 (y2.2.1 + x0), y2.2.2))) (
            none )) (
          none ))) (
      iteP (x3 != (0 : Int)) (
        some ((ByteArray.mk #[], x1, x2, x3))) (
        iteP (decide ((0 : Int) ≤ IntKind.wrap IntKind.i64 (x2 + x0) ∧ IntKind.wrap IntKind.i64 (x2 + x0) ≤ (↑(ByteArray.size x1) : Int))) (
          iteP (decide ((0 : Int) ≤ IntKind.wrap IntKind.i64 (IntKind.wrap IntKind.i64 (x2 + x0) - x0) ∧ IntKind.wrap IntKind.i64 (IntKind.wrap IntKind.i64 (x2 + x0) - x0) ≤ (↑(Int.toNat (IntKind.wrap IntKind.i64 (x2 + x0))) : Int))) (
            some ((ByteArray.extract x1 (Int.toNat (IntKind.wrap IntKind.i64 (IntKind.wrap IntKind.i64 (x2 + x0) - x0))) (Int.toNat (IntKind.wrap IntKind.i64 (x2 + x0))), x1, IntKind.wrap IntKind.i64 (x2 + x0), x3))) (
            none )) (
          none ))))
noncomputable def T135 (N : Nat) : Pk → Tr Pk := tellS s135 w135 (F135 N)
theorem T135_ok (N : Nat) : FOK Tryz.prog (135) (T135 N) :=
  (fn_ok2 ownT mix (tab135_ok N) Tryz.func135 s135 w135 [0] (cuts := []) trivial (fun _ => by kernel_rfl) (by decide +kernel) (F135 N) (fun x => by kernel_rfl))
@[reducible] def s173 : SP := ⟨[.adr 0 [], .int .i64, .fn 165], [.var 189 (.agg [.str, .int .i64, .int .i64])]⟩
noncomputable def tab173 (N : Nat) : List (Nat × (Pk → Tr Pk)) := [(230, T230 N), (206, T206 N), (135, T135 N), (165, T165 N)]
theorem tab173_ok (N : Nat) : TabOK Tryz.prog (tab173 N) := ⟨T230_ok N, T206_ok N, T135_ok N, T165_ok N, trivial⟩
@[reducible] def L173_122 : LD := ⟨122, [7, 22, 21, 20], [(.ret, [6]), (.exit 0, [7])], ⟨[.int .i64, .int .i64, .int .i64, .sl 1], [.var 189 (.agg [.str, .int .i64, .int .i64]), .row (.int .u8) 5]⟩, [(.exit 0, ⟨[.int .i64], [.var 189 (.agg [.str, .int .i64, .int .i64])]⟩)]⟩
abbrev P173_122 : Type := Int × Int × Int × ByteArray × Int × Int × (List Int)
abbrev R173_122 : Type := Int × ByteArray × Int × Int
noncomputable def B173_122 (N : Nat) (f : P173_122 → Option R173_122) : P173_122 → Option R173_122
  | (x0, x1, x2, x3, x4, x5, x6) =>
  iteP (decide (x1 < x2)) (
    iteP (within x1 (List.length x6)) (
      Option.bind (x6[Int.toNat x1]?) fun y0 =>
      iteP (decide (IntKind.wrap IntKind.i64 ((8 : Int) * x1) < (0 : Int))) (
        none ) (
        Option.bind (f (IntKind.wrap IntKind.i64 (↑(BitVec.toNat (BitVec.ofInt (64 : Nat) x0 ||| BitVec.ofInt (64 : Nat) (IntKind.wrap IntKind.i64 (IntKind.wrap IntKind.i64 y0 * (2 : Int) ^ min (Int.toNat (IntKind.wrap IntKind.i64 ((8 : Int) * x1))) (64 : Nat))))) : Int), IntKind.wrap IntKind.i64 (x1 + (1 : Int)), x2, x3, x4, x5, x6)) fun r => some r)) (
      none )) (
    some ((x0, x3, x4, x5)))
noncomputable def F173_122 (N : Nat) : Nat → P173_122 → Option R173_122
  | 0, _ => none
  | k + 1, x => B173_122 N (F173_122 N k) x
noncomputable def C173_122 (N : Nat) (k : Nat) : Cut := L173_122.cut (F173_122 N k)
theorem C173_122_ok (N : Nat) (k : Nat) : CutAt Tryz.prog false Tryz.f173 [0] 122 (C173_122 N k) :=
  L173_122.loopT ownT mix (tab173_ok N) Tryz.f173 [0] (cuts := []) trivial (by decide +kernel) (by kernel_rfl) (B173_122 N) (F173_122 N) (fun _ => rfl) (fun _ _ => rfl) (fun f x => by kernel_rfl) k
@[reducible] def w173 : List SP := [⟨[.int .i64], [.var 189 (.agg [.str, .int .i64, .int .i64])]⟩]
noncomputable def F173 (N : Nat) : (Int × ByteArray × Int × Int) → Option (Int × ByteArray × Int × Int)
  | (x0, x1, x2, x3) =>
  Option.bind (F230 N x0) fun y0 =>
  iteP (!y0) (
    Option.bind (F206 N ((1 : Int), x1, x2, x3)) fun y1 =>
    Option.bind (F135 N (x0, y1.1, y1.2.1, y1.2.2)) fun y2 =>
    Option.bind (F165 N y2.1) fun y3 =>
    iteP (decide (ByteArray.size y3 ≤ (140737488355328 : Nat))) (
      Option.bind (F173_122 N N ((0 : Int), (0 : Int), (↑(List.length (bytesOf y3)) : Int), y2.2.1, y2.2.2.1, y2.2.2.2, bytesOf y3)) fun y4 =>
      some ((y4.1, y4.2.1, y4.2.2.1, y4.2.2.2))) (
      none )) (
    Option.bind (F135 N (x0, x1, x2, x3)) fun y5 =>
    Option.bind (F165 N y5.1) fun y6 =>
    iteP (decide (ByteArray.size y6 ≤ (140737488355328 : Nat))) (
      Option.bind (F173_122 N N ((0 : Int), (0 : Int), (↑(List.length (bytesOf y6)) : Int), y5.2.1, y5.2.2.1, y5.2.2.2, bytesOf y6)) fun y7 =>
      some ((y7.1, y7.2.1, y7.2.2.1, y7.2.2.2))) (
      none ))
noncomputable def T173 (N : Nat) : Pk → Tr Pk := tellS s173 w173 (F173 N)
theorem T173_ok (N : Nat) : FOK Tryz.prog (173) (T173 N) :=
  (fn_ok2 ownT mix (tab173_ok N) Tryz.func173 s173 w173 [0] (cuts := [(122, C173_122 N N)]) ⟨C173_122_ok N N, trivial⟩ (fun _ => by kernel_rfl) (by decide +kernel) (F173 N) (fun x => by kernel_rfl))
@[reducible] def s105 : SP := ⟨[.adr 0 [], .int .i64], [.var 189 (.agg [.str, .int .i64, .int .i64])]⟩
noncomputable def tab105 (N : Nat) : List (Nat × (Pk → Tr Pk)) := [(173, T173 N)]
theorem tab105_ok (N : Nat) : TabOK Tryz.prog (tab105 N) := ⟨T173_ok N, trivial⟩
@[reducible] def w105 : List SP := [⟨[.int .i64], [.var 189 (.agg [.str, .int .i64, .int .i64])]⟩]
noncomputable def F105 (N : Nat) : (Int × ByteArray × Int × Int) → Option (Int × ByteArray × Int × Int)
  | (x0, x1, x2, x3) =>
  Option.bind (F173 N (x0, x1, x2, x3)) fun y0 =>
  some ((y0.1, y0.2.1, y0.2.2.1, y0.2.2.2))
noncomputable def T105 (N : Nat) : Pk → Tr Pk := tellS s105 w105 (F105 N)
theorem T105_ok (N : Nat) : FOK Tryz.prog (105) (T105 N) :=
  (fn_ok2 ownT mix (tab105_ok N) Tryz.func105 s105 w105 [0] (cuts := []) trivial (fun _ => by kernel_rfl) (by decide +kernel) (F105 N) (fun x => by kernel_rfl))
@[reducible] def s84 : SP := ⟨[.radr y6 [.i 0 3]], []⟩
noncomputable def tab84 (N : Nat) : List (Nat × (Pk → Tr Pk)) := []
theorem tab84_ok (N : Nat) : TabOK Tryz.prog (tab84 N) := trivial
@[reducible] def w84 : List SP := [⟨[.int .i64], []⟩]
noncomputable def F84 (N : Nat) : ((ByteArray × (Int × (Int × Unit)))) → Option (Int)
  | x0 =>
  some x0.2.2.1
noncomputable def T84 (N : Nat) : Pk → Tr Pk := tellS s84 w84 (F84 N)
theorem T84_ok (N : Nat) : FOK Tryz.prog (84) (T84 N) :=
  (fn_ok2 ownT mix (tab84_ok N) Tryz.func84 s84 w84 [] (cuts := []) trivial (fun _ => by kernel_rfl) (by decide +kernel) (F84 N) (fun x => by kernel_rfl))
@[reducible] def s115 : SP := ⟨[.adr 0 []], [.var 189 (.agg [.str, .int .i64, .int .i64])]⟩
noncomputable def tab115 (N : Nat) : List (Nat × (Pk → Tr Pk)) := [(105, T105 N), (135, T135 N), (84, T84 N), (59, T59 N)]
theorem tab115_ok (N : Nat) : TabOK Tryz.prog (tab115 N) := ⟨T105_ok N, T135_ok N, T84_ok N, T59_ok N, trivial⟩
@[reducible] def w115 : List SP := [⟨[.tup [.agg [.str, .str], .int .i64]], [.var 189 (.agg [.str, .int .i64, .int .i64])]⟩]
noncomputable def F115 (N : Nat) : (ByteArray × Int × Int) → Option (ByteArray × ByteArray × Int × ByteArray × Int × Int)
  | (x0, x1, x2) =>
  Option.bind (F105 N ((4 : Int), x0, x1, x2)) fun y0 =>
  iteP (decide (y0.1 > (2147483647 : Int))) (
    some ((ByteArray.mk #[], ByteArray.mk #[], (4 : Int), y0.2.1, y0.2.2.1, y0.2.2.2))) (
    Option.bind (F135 N ((4 : Int), y0.2.1, y0.2.2.1, y0.2.2.2)) fun y1 =>
    Option.bind (F135 N (y0.1, y1.2.1, y1.2.2.1, y1.2.2.2)) fun y2 =>
    Option.bind (F105 N ((4 : Int), y2.2.1, y2.2.2.1, y2.2.2.2)) fun y3 =>
    Option.bind (F84 N (y3.2.1, y3.2.2.1, y3.2.2.2, ())) fun y4 =>
    iteP (y4 != (0 : Int)) (
      some ((ByteArray.mk #[], ByteArray.mk #[], y4, y3.2.1, y3.2.2.1, y3.2.2.2))) (
      Option.bind (F59 N (y1.1, y2.1)) fun y5 =>
      iteP (y3.1 != y5) (
        some ((ByteArray.mk #[], ByteArray.mk #[], (101 : Int), y3.2.1, y3.2.2.1, y3.2.2.2))) (
        some ((y1.1, y2.1, (0 : Int), y3.2.1, y3.2.2.1, y3.2.2.2)))))
noncomputable def T115 (N : Nat) : Pk → Tr Pk := tellS s115 w115 (F115 N)
theorem T115_ok (N : Nat) : FOK Tryz.prog (115) (T115 N) :=
  (fn_ok2 ownT mix (tab115_ok N) Tryz.func115 s115 w115 [0] (cuts := []) trivial (fun _ => by kernel_rfl) (by decide +kernel) (F115 N) (fun x => by kernel_rfl))
@[reducible] def s116 : SP := ⟨[.radr y6 [.i 0 3]], []⟩
noncomputable def tab116 (N : Nat) : List (Nat × (Pk → Tr Pk)) := [(86, T86 N)]
theorem tab116_ok (N : Nat) : TabOK Tryz.prog (tab116 N) := ⟨T86_ok N, trivial⟩
@[reducible] def w116 : List SP := [⟨[.int .i64], []⟩]
noncomputable def F116 (N : Nat) : ((ByteArray × (Int × (Int × Unit)))) → Option (Int)
  | x0 =>
  iteP (x0.2.2.1 == (0 : Int)) (
    Option.bind (F86 N x0) fun y0 =>
    iteP (decide (y0 > (0 : Int))) (
      some ((3 : Int))) (
      some x0.2.2.1)) (
    some x0.2.2.1)
noncomputable def T116 (N : Nat) : Pk → Tr Pk := tellS s116 w116 (F116 N)
theorem T116_ok (N : Nat) : FOK Tryz.prog (116) (T116 N) :=
  (fn_ok2 ownT mix (tab116_ok N) Tryz.func116 s116 w116 [] (cuts := []) trivial (fun _ => by kernel_rfl) (by decide +kernel) (F116 N) (fun x => by kernel_rfl))
@[reducible] def s55 : SP := ⟨[.str], []⟩
noncomputable def tab55 (N : Nat) : List (Nat × (Pk → Tr Pk)) := [(114, T114 N), (81, T81 N), (115, T115 N), (116, T116 N)]
theorem tab55_ok (N : Nat) : TabOK Tryz.prog (tab55 N) := ⟨T114_ok N, T81_ok N, T115_ok N, T116_ok N, trivial⟩
@[reducible] def L55_250 : LD := ⟨250, [6, 4, 5], [(.ret, [2, 3]), (.exit 0, [4, 5])], ⟨[.bool, .adr 0 [], .sl 1], [.var 189 (.agg [.str, .int .i64, .int .i64]), .row y5 86]⟩, [(.ret, ⟨[.sl 0, .int .i64], [.row y5 86]⟩), (.exit 0, ⟨[.adr 0 [], .sl 1], [.var 189 (.agg [.str, .int .i64, .int .i64]), .row y5 86]⟩)]⟩
abbrev P55_250 : Type := Bool × ByteArray × Int × Int × (List (ByteArray × (ByteArray × Unit)))
abbrev R55_250 : Type := ((Int × (List (ByteArray × (ByteArray × Unit)))) ⊕ (ByteArray × Int × Int × (List (ByteArray × (ByteArray × Unit)))))
noncomputable def B55_250 (N : Nat) (f : P55_250 → Option R55_250) : P55_250 → Option R55_250
  | (x0, x1, x2, x3, x4) =>
  iteP (!x0) (
    Option.bind (F115 N (x1, x2, x3)) fun (y0_0, y0_1, y0_2, y0_3, y0_4, y0_5) =>
    iteP (y0_2 != (0 : Int)) (
      some (.inl ((y0_2, [])))) (
      iteP (decide ((List.length x4 + List.length [(y0_0, y0_1, ())]) * (32 : Nat) ≤ (140737488355328 : Nat) ∧ List.length x4 + List.length [(y0_0, y0_1, ())] ≤ (140737488355328 : Nat))) (
        Option.bind (f (ByteArray.toList y0_0 == [(73 : UInt8), (69 : UInt8), (78 : UInt8), (68 : UInt8)], y0_3, y0_4, y0_5, x4 ++ [(y0_0, y0_1, ())])) fun r => match r with | .inl y => some (.inl y) | .inr y => some (.inr y)) (
        none ))) (
    some (.inr ((x1, x2, x3, x4))))
noncomputable def F55_250 (N : Nat) : Nat → P55_250 → Option R55_250
  | 0, _ => none
  | k + 1, x => B55_250 N (F55_250 N k) x
noncomputable def C55_250 (N : Nat) (k : Nat) : Cut := L55_250.cut (F55_250 N k)
theorem C55_250_ok (N : Nat) (k : Nat) : CutAt Tryz.prog false Tryz.f55 [] 250 (C55_250 N k) :=
  L55_250.loopT ownT mix (tab55_ok N) Tryz.f55 [] (cuts := []) trivial (by decide +kernel) (by kernel_rfl) (B55_250 N) (F55_250 N) (fun _ => rfl) (fun _ _ => rfl) (fun f x => by kernel_rfl) k
@[reducible] def w55 : List SP := [⟨[.tup [.sl 0, .int .i64]], [.row y5 86]⟩]
noncomputable def F55 (N : Nat) : (ByteArray) → Option (Int × (List (ByteArray × (ByteArray × Unit))))
  | x0 =>
  Option.bind (F114 N (x0, ByteArray.mk #[(137 : UInt8), (80 : UInt8), (78 : UInt8), (71 : UInt8), (13 : UInt8), (10 : UInt8), (26 : UInt8), (10 : UInt8)])) fun y0 =>
  iteP (!y0) (
    Option.bind (F114 N (ByteArray.mk #[(137 : UInt8), (80 : UInt8), (78 : UInt8), (71 : UInt8), (13 : UInt8), (10 : UInt8), (26 : UInt8), (10 : UInt8)], x0)) fun y1 =>
    iteP (y1) (
      some (((2 : Int), []))) (
      some (((100 : Int), [])))) (
    iteP (decide ((0 : Int) ≤ (8 : Int) ∧ (8 : Int) ≤ (↑(ByteArray.size x0) : Int))) (
      Option.bind (F81 N (ByteArray.extract x0 (8 : Nat) (ByteArray.size x0))) fun y2 =>
      Option.bind (F55_250 N N (false, y2.1, y2.2.1, y2.2.2, [])) fun y3 =>
      match y3 with
      | .inl y4 =>
        some ((y4.1, y4.2))
      | .inr y4 =>
        Option.bind (F116 N (y4.1, y4.2.1, y4.2.2.1, ())) fun y5 =>
        iteP (y5 != (0 : Int)) (
          some ((y5, []))) (
          some (((0 : Int), y4.2.2.2)))) (
      none ))
noncomputable def T55 (N : Nat) : Pk → Tr Pk := tellS s55 w55 (F55 N)
theorem T55_ok (N : Nat) : FOK Tryz.prog (55) (T55 N) :=
  (fn_ok2 ownT mix (tab55_ok N) Tryz.func55 s55 w55 [] (cuts := [(250, C55_250 N N)]) ⟨C55_250_ok N N, trivial⟩ (fun _ => by kernel_rfl) (by decide +kernel) (F55 N) (fun x => by kernel_rfl))
@[reducible] def s181 : SP := ⟨[.adr 0 [], .agg [.str, .str], .int .i64], [.var 168 (.agg [.int .i64, .int .i64, .int .i64, .sl 1, .bool, .bool, .str]), .row (.int .i64) 3]⟩
noncomputable def tab181 (N : Nat) : List (Nat × (Pk → Tr Pk)) := [(81, T81 N), (105, T105 N), (135, T135 N), (73, T73 N), (116, T116 N)]
theorem tab181_ok (N : Nat) : TabOK Tryz.prog (tab181 N) := ⟨T81_ok N, T105_ok N, T135_ok N, T73_ok N, T116_ok N, trivial⟩
@[reducible] def L181_4071 : LD := ⟨4071, [41, 2, 0], [(.ret, [6]), (.normal, [])], ⟨[.bool, .int .i64, .adr 0 []], [.var 168 (.agg [.int .i64, .int .i64, .int .i64, .sl 1, .bool, .bool, .str]), .row (.int .i64) 3]⟩, [(.ret, ⟨[.int .i64], [.var 168 (.agg [.int .i64, .int .i64, .int .i64, .sl 1, .bool, .bool, .str]), .row (.int .i64) 3]⟩), (.normal, ⟨[], [.var 168 (.agg [.int .i64, .int .i64, .int .i64, .sl 1, .bool, .bool, .str]), .row (.int .i64) 3]⟩)]⟩
noncomputable def F181_4071 (N : Nat) : (Bool × Int × Int × Int × Int × Bool × Bool × ByteArray × (List Int)) → Option (((Int × Int × Int × Int × Bool × Bool × ByteArray × (List Int)) ⊕ (Int × Int × Int × Bool × Bool × ByteArray × (List Int))))
  | (x0, x1, x2, x3, x4, x5, x6, x7, x8) =>
  iteP (x0) (
    some (.inl (((121 : Int), x2, x3, x4, x5, x6, x7, x8)))) (
    iteP (decide (IntKind.wrap IntKind.i64 (x2 * x3) > x1)) (
      some (.inl (((4 : Int), x2, x3, x4, x5, x6, x7, x8)))) (
      some (.inr ((x2, x3, x4, x5, x6, x7, x8)))))
noncomputable def C181_4071 (N : Nat) (_ : Nat) : Cut := L181_4071.cut (F181_4071 N)
theorem C181_4071_ok (N : Nat) (k : Nat) : CutAt Tryz.prog false Tryz.f181 [0] 4071 (C181_4071 N k) :=
  L181_4071.pieceT ownT mix (tab181_ok N) Tryz.f181 [0] (cuts := []) trivial (by decide +kernel) (by kernel_rfl) (F181_4071 N) (fun x => by kernel_rfl)
@[reducible] def L181_1017 : LD := ⟨1017, [32, 0, 2, 9, 8], [(.ret, [6]), (.normal, [])], ⟨[.bool, .adr 0 [], .int .i64, .str, .int .i64], [.var 168 (.agg [.int .i64, .int .i64, .int .i64, .sl 1, .bool, .bool, .str]), .row (.int .i64) 3]⟩, [(.ret, ⟨[.int .i64], [.var 168 (.agg [.int .i64, .int .i64, .int .i64, .sl 1, .bool, .bool, .str]), .row (.int .i64) 3]⟩), (.normal, ⟨[], [.var 168 (.agg [.int .i64, .int .i64, .int .i64, .sl 1, .bool, .bool, .str]), .row (.int .i64) 3]⟩)]⟩
noncomputable def F181_1017 (N : Nat) : (Bool × Int × ByteArray × Int × Int × Int × Int × Bool × Bool × ByteArray × (List Int)) → Option (((Int × Int × Int × Int × Bool × Bool × ByteArray × (List Int)) ⊕ (Int × Int × Int × Bool × Bool × ByteArray × (List Int))))
  | (x0, x1, x2, x3, x4, x5, x6, x7, x8, x9, x10) =>
  iteP (x0) (
    some (.inl (((120 : Int), x4, x5, x6, x7, x8, x9, x10)))) (
    Option.bind (F73 N x4) fun y0 =>
    iteP (!y0) (
      Option.bind (F181_4071 N (true, x1, x4, x5, x6, x7, x8, x9, x10)) fun y1 =>
      match y1 with
      | .inl (y2_0, y2_1, y2_2, y2_3, y2_4, y2_5, y2_6, y2_7) =>
        some (.inl ((y2_0, y2_1, y2_2, y2_3, y2_4, y2_5, y2_6, y2_7)))
      | .inr (y2_0, y2_1, y2_2, y2_3, y2_4, y2_5, y2_6) =>
        some (.inr ((y2_0, y2_1, y2_2, y2_3, y2_4, y2_5, y2_6)))) (
      Option.bind (F73 N x5) fun y3 =>
      iteP (!y3) (
        Option.bind (F181_4071 N (true, x1, x4, x5, x6, x7, x8, x9, x10)) fun y4 =>
        match y4 with
        | .inl (y5_0, y5_1, y5_2, y5_3, y5_4, y5_5, y5_6, y5_7) =>
          some (.inl ((y5_0, y5_1, y5_2, y5_3, y5_4, y5_5, y5_6, y5_7)))
        | .inr (y5_0, y5_1, y5_2, y5_3, y5_4, y5_5, y5_6) =>
          some (.inr ((y5_0, y5_1, y5_2, y5_3, y5_4, y5_5, y5_6)))) (
        iteP (x3 != (8 : Int)) (
          Option.bind (F181_4071 N (true, x1, x4, x5, x6, x7, x8, x9, x10)) fun y6 =>
          match y6 with
          | .inl (y7_0, y7_1, y7_2, y7_3, y7_4, y7_5, y7_6, y7_7) =>
            some (.inl ((y7_0, y7_1, y7_2, y7_3, y7_4, y7_5, y7_6, y7_7)))
          | .inr (y7_0, y7_1, y7_2, y7_3, y7_4, y7_5, y7_6) =>
            some (.inr ((y7_0, y7_1, y7_2, y7_3, y7_4, y7_5, y7_6)))) (
          iteP (x6 != (2 : Int)) (
            iteP (x6 != (3 : Int)) (
              Option.bind (F181_4071 N (true, x1, x4, x5, x6, x7, x8, x9, x10)) fun y8 =>
              match y8 with
              | .inl (y9_0, y9_1, y9_2, y9_3, y9_4, y9_5, y9_6, y9_7) =>
                some (.inl ((y9_0, y9_1, y9_2, y9_3, y9_4, y9_5, y9_6, y9_7)))
              | .inr (y9_0, y9_1, y9_2, y9_3, y9_4, y9_5, y9_6) =>
                some (.inr ((y9_0, y9_1, y9_2, y9_3, y9_4, y9_5, y9_6)))) (
              Option.bind (F181_4071 N (!ByteArray.toList x2 == [(0 : UInt8), (0 : UInt8), (0 : UInt8)], x1, x4, x5, x6, x7, x8, x9, x10)) fun y10 =>
              match y10 with
              | .inl (y11_0, y11_1, y11_2, y11_3, y11_4, y11_5, y11_6, y11_7) =>
                some (.inl ((y11_0, y11_1, y11_2, y11_3, y11_4, y11_5, y11_6, y11_7)))
              | .inr (y11_0, y11_1, y11_2, y11_3, y11_4, y11_5, y11_6) =>
                some (.inr ((y11_0, y11_1, y11_2, y11_3, y11_4, y11_5, y11_6))))) (
            Option.bind (F181_4071 N (!ByteArray.toList x2 == [(0 : UInt8), (0 : UInt8), (0 : UInt8)], x1, x4, x5, x6, x7, x8, x9, x10)) fun y12 =>
            match y12 with
            | .inl (y13_0, y13_1, y13_2, y13_3, y13_4, y13_5, y13_6, y13_7) =>
              some (.inl ((y13_0, y13_1, y13_2, y13_3, y13_4, y13_5, y13_6, y13_7)))
            | .inr (y13_0, y13_1, y13_2, y13_3, y13_4, y13_5, y13_6) =>
              some (.inr ((y13_0, y13_1, y13_2, y13_3, y13_4, y13_5, y13_6))))))))
noncomputable def C181_1017 (N : Nat) (_ : Nat) : Cut := L181_1017.cut (F181_1017 N)
theorem C181_1017_ok (N : Nat) (k : Nat) : CutAt Tryz.prog false Tryz.f181 [0] 1017 (C181_1017 N k) :=
  L181_1017.pieceT ownT mix (tab181_ok N) Tryz.f181 [0] (cuts := [(4071, C181_4071 N N)]) ⟨C181_4071_ok N N, trivial⟩ (by decide +kernel) (by kernel_rfl) (F181_1017 N) (fun x => by kernel_rfl)
@[reducible] def w181 : List SP := [⟨[.int .i64], [.var 168 (.agg [.int .i64, .int .i64, .int .i64, .sl 1, .bool, .bool, .str]), .row (.int .i64) 3]⟩]
noncomputable def F181 (N : Nat) : (ByteArray × ByteArray × Int × Int × Int × Int × Bool × Bool × ByteArray × (List Int)) → Option (Int × Int × Int × Int × Bool × Bool × ByteArray × (List Int))
  | (x0, x1, x2, x3, x4, x5, x6, x7, x8, x9) =>
  Option.bind (F81 N x1) fun y0 =>
  Option.bind (F105 N ((4 : Int), y0.1, y0.2.1, y0.2.2)) fun y1 =>
  Option.bind (F105 N ((4 : Int), y1.2.1, y1.2.2.1, y1.2.2.2)) fun y2 =>
  Option.bind (F105 N ((1 : Int), y2.2.1, y2.2.2.1, y2.2.2.2)) fun y3 =>
  Option.bind (F105 N ((1 : Int), y3.2.1, y3.2.2.1, y3.2.2.2)) fun y4 =>
  Option.bind (F135 N ((3 : Int), y4.2.1, y4.2.2.1, y4.2.2.2)) fun y5 =>
  iteP (!ByteArray.toList x0 == [(73 : UInt8), (72 : UInt8), (68 : UInt8), (82 : UInt8)]) (
    Option.bind (F181_1017 N (true, x2, y5.1, y3.1, y1.1, y2.1, y4.1, x6, x7, x8, x9)) fun y6 =>
    match y6 with
    | .inl (y7_0, y7_1, y7_2, y7_3, y7_4, y7_5, y7_6, y7_7) =>
      some ((y7_0, y7_1, y7_2, y7_3, y7_4, y7_5, y7_6, y7_7))
    | .inr (y7_0, y7_1, y7_2, y7_3, y7_4, y7_5, y7_6) =>
      some (((0 : Int), y7_0, y7_1, y7_2, y7_3, y7_4, y7_5, y7_6))) (
    Option.bind (F116 N (y5.2.1, y5.2.2.1, y5.2.2.2, ())) fun y8 =>
    Option.bind (F181_1017 N (y8 != (0 : Int), x2, y5.1, y3.1, y1.1, y2.1, y4.1, x6, x7, x8, x9)) fun y9 =>
    match y9 with
    | .inl (y10_0, y10_1, y10_2, y10_3, y10_4, y10_5, y10_6, y10_7) =>
      some ((y10_0, y10_1, y10_2, y10_3, y10_4, y10_5, y10_6, y10_7))
    | .inr (y10_0, y10_1, y10_2, y10_3, y10_4, y10_5, y10_6) =>
      some (((0 : Int), y10_0, y10_1, y10_2, y10_3, y10_4, y10_5, y10_6)))
noncomputable def T181 (N : Nat) : Pk → Tr Pk := tellS s181 w181 (F181 N)
theorem T181_ok (N : Nat) : FOK Tryz.prog (181) (T181 N) :=
  (fn_ok2 ownT mix (tab181_ok N) Tryz.func181 s181 w181 [0] (cuts := [(4071, C181_4071 N N), (1017, C181_1017 N N)]) ⟨C181_4071_ok N N, C181_1017_ok N N, trivial⟩ (fun _ => by kernel_rfl) (by decide +kernel) (F181 N) (fun x => by kernel_rfl))
@[reducible] def s245 : SP := ⟨[.adr 0 [], .str], [.var 168 (.agg [.int .i64, .int .i64, .int .i64, .sl 1, .bool, .bool, .str]), .row (.int .i64) 3]⟩
noncomputable def tab245 (N : Nat) : List (Nat × (Pk → Tr Pk)) := [(81, T81 N), (105, T105 N)]
theorem tab245_ok (N : Nat) : TabOK Tryz.prog (tab245 N) := ⟨T81_ok N, T105_ok N, trivial⟩
@[reducible] def L245_122 : LD := ⟨122, [46, 45, 1, 0], [(.ret, [4]), (.exit 0, [])], ⟨[.int .i64, .int .i64, .str, .adr 0 []], [.var 168 (.agg [.int .i64, .int .i64, .int .i64, .sl 1, .bool, .bool, .str]), .row (.int .i64) 3]⟩, [(.exit 0, ⟨[], [.var 168 (.agg [.int .i64, .int .i64, .int .i64, .sl 1, .bool, .bool, .str]), .row (.int .i64) 3]⟩)]⟩
abbrev P245_122 : Type := Int × Int × ByteArray × Int × Int × Int × Bool × Bool × ByteArray × (List Int)
abbrev R245_122 : Type := Int × Int × Int × Bool × Bool × ByteArray × (List Int)
noncomputable def B245_122 (N : Nat) (f : P245_122 → Option R245_122) : P245_122 → Option R245_122
  | (x0, x1, x2, x3, x4, x5, x6, x7, x8, x9) =>
  iteP (decide (x0 < x1)) (
    iteP (decide ((0 : Int) ≤ IntKind.wrap IntKind.i64 (IntKind.wrap IntKind.i64 ((3 : Int) * x0) + (3 : Int)) ∧ IntKind.wrap IntKind.i64 (IntKind.wrap IntKind.i64 ((3 : Int) * x0) + (3 : Int)) ≤ (↑(ByteArray.size x2) : Int))) (
      iteP (decide ((0 : Int) ≤ IntKind.wrap IntKind.i64 ((3 : Int) * x0) ∧ IntKind.wrap IntKind.i64 ((3 : Int) * x0) ≤ (↑(Int.toNat (IntKind.wrap IntKind.i64 (IntKind.wrap IntKind.i64 ((3 : Int) * x0) + (3 : Int)))) : Int))) (
        iteP (decide ((↑((1 : Nat) + ByteArray.size (ByteArray.extract x2 (Int.toNat (IntKind.wrap IntKind.i64 ((3 : Int) * x0))) (Int.toNat (IntKind.wrap IntKind.i64 (IntKind.wrap IntKind.i64 ((3 : Int) * x0) + (3 : Int)))))) : Int) > (9223372036854775807 : Int))) (
          none ) (
          Option.bind (F81 N (ByteArray.mk #[(0 : UInt8)] ++ ByteArray.extract x2 (Int.toNat (IntKind.wrap IntKind.i64 ((3 : Int) * x0))) (Int.toNat (IntKind.wrap IntKind.i64 (IntKind.wrap IntKind.i64 ((3 : Int) * x0) + (3 : Int)))))) fun y0 =>
          Option.bind (F105 N ((4 : Int), y0.1, y0.2.1, y0.2.2)) fun y1 =>
          iteP (decide ((List.length x9 + List.length [y1.1]) * (8 : Nat) ≤ (140737488355328 : Nat) ∧ List.length x9 + List.length [y1.1] ≤ (140737488355328 : Nat))) (
            Option.bind (f (IntKind.wrap IntKind.i64 (x0 + (1 : Int)), x1, x2, x3, x4, x5, x6, x7, x8, x9 ++ [y1.1])) fun r => some r) (
            none ))) (
        none )) (
      none )) (
    some ((x3, x4, x5, x6, x7, x8, x9)))
noncomputable def F245_122 (N : Nat) : Nat → P245_122 → Option R245_122
  | 0, _ => none
  | k + 1, x => B245_122 N (F245_122 N k) x
noncomputable def C245_122 (N : Nat) (k : Nat) : Cut := L245_122.cut (F245_122 N k)
theorem C245_122_ok (N : Nat) (k : Nat) : CutAt Tryz.prog false Tryz.f245 [0] 122 (C245_122 N k) :=
  L245_122.loopT ownT mix (tab245_ok N) Tryz.f245 [0] (cuts := []) trivial (by decide +kernel) (by kernel_rfl) (B245_122 N) (F245_122 N) (fun _ => rfl) (fun _ _ => rfl) (fun f x => by kernel_rfl) k
@[reducible] def w245 : List SP := [⟨[.int .i64], [.var 168 (.agg [.int .i64, .int .i64, .int .i64, .sl 1, .bool, .bool, .str]), .row (.int .i64) 3]⟩]
noncomputable def F245 (N : Nat) : (ByteArray × Int × Int × Int × Bool × Bool × ByteArray × (List Int)) → Option (Int × Int × Int × Int × Bool × Bool × ByteArray × (List Int))
  | (x0, x1, x2, x3, x4, x5, x6, x7) =>
  iteP (x3 == (2 : Int)) (
    some (((120 : Int), x1, x2, x3, x4, x5, x6, x7))) (
    iteP (decide ((↑(List.length x7) : Int) > (0 : Int))) (
      some (((120 : Int), x1, x2, x3, x4, x5, x6, x7))) (
      iteP (x4) (
        some (((120 : Int), x1, x2, x3, x4, x5, x6, x7))) (
        iteP ((↑(ByteArray.size x0) : Int) != IntKind.wrap IntKind.i64 ((3 : Int) * IntKind.wrap IntKind.i64 (Int.tdiv (↑(ByteArray.size x0) : Int) (3 : Int)))) (
          some (((120 : Int), x1, x2, x3, x4, x5, x6, x7))) (
          iteP (decide (IntKind.wrap IntKind.i64 (Int.tdiv (↑(ByteArray.size x0) : Int) (3 : Int)) < (1 : Int))) (
            some (((120 : Int), x1, x2, x3, x4, x5, x6, x7))) (
            iteP (decide (IntKind.wrap IntKind.i64 (Int.tdiv (↑(ByteArray.size x0) : Int) (3 : Int)) > (256 : Int))) (
              some (((120 : Int), x1, x2, x3, x4, x5, x6, x7))) (
              Option.bind (F245_122 N N ((0 : Int), IntKind.wrap IntKind.i64 (Int.tdiv (↑(ByteArray.size x0) : Int) (3 : Int)), x0, x1, x2, x3, x4, x5, x6, x7)) fun (y0_0, y0_1, y0_2, y0_3, y0_4, y0_5, y0_6) =>
              some (((0 : Int), y0_0, y0_1, y0_2, y0_3, y0_4, y0_5, y0_6))))))))
noncomputable def T245 (N : Nat) : Pk → Tr Pk := tellS s245 w245 (F245 N)
theorem T245_ok (N : Nat) : FOK Tryz.prog (245) (T245 N) :=
  (fn_ok2 ownT mix (tab245_ok N) Tryz.func245 s245 w245 [0] (cuts := [(122, C245_122 N N)]) ⟨C245_122_ok N N, trivial⟩ (fun _ => by kernel_rfl) (by decide +kernel) (F245 N) (fun x => by kernel_rfl))
@[reducible] def s182 : SP := ⟨[.adr 0 [], .agg [.str, .str]], [.var 168 (.agg [.int .i64, .int .i64, .int .i64, .sl 1, .bool, .bool, .str]), .row (.int .i64) 3]⟩
noncomputable def tab182 (N : Nat) : List (Nat × (Pk → Tr Pk)) := [(245, T245 N)]
theorem tab182_ok (N : Nat) : TabOK Tryz.prog (tab182 N) := ⟨T245_ok N, trivial⟩
@[reducible] def L182_15 : LD := ⟨15, [5], [(.ret, [4]), (.normal, [4])], ⟨[.bool], [.var 168 (.agg [.int .i64, .int .i64, .int .i64, .sl 1, .bool, .bool, .str]), .row (.int .i64) 3]⟩, [(.ret, ⟨[.int .i64], [.var 168 (.agg [.int .i64, .int .i64, .int .i64, .sl 1, .bool, .bool, .str]), .row (.int .i64) 3]⟩)]⟩
noncomputable def F182_15 (N : Nat) : (Bool × Int × Int × Int × Bool × Bool × ByteArray × (List Int)) → Option (Int × Int × Int × Int × Bool × Bool × ByteArray × (List Int))
  | (x0, x1, x2, x3, x4, x5, x6, x7) =>
  iteP (!x0) (
    some (((120 : Int), x1, x2, x3, x4, x5, x6, x7))) (
    some (((0 : Int), x1, x2, x3, x4, x5, x6, x7)))
noncomputable def C182_15 (N : Nat) (_ : Nat) : Cut := L182_15.cut (F182_15 N)
theorem C182_15_ok (N : Nat) (k : Nat) : CutAt Tryz.prog false Tryz.f182 [0] 15 (C182_15 N k) :=
  L182_15.pieceT ownT mix (tab182_ok N) Tryz.f182 [0] (cuts := []) trivial (by decide +kernel) (by kernel_rfl) (F182_15 N) (fun x => by kernel_rfl)
@[reducible] def w182 : List SP := [⟨[.int .i64], [.var 168 (.agg [.int .i64, .int .i64, .int .i64, .sl 1, .bool, .bool, .str]), .row (.int .i64) 3]⟩]
noncomputable def F182 (N : Nat) : (ByteArray × ByteArray × Int × Int × Int × Bool × Bool × ByteArray × (List Int)) → Option (Int × Int × Int × Int × Bool × Bool × ByteArray × (List Int))
  | (x0, x1, x2, x3, x4, x5, x6, x7, x8) =>
  iteP (ByteArray.toList x0 == [(73 : UInt8), (72 : UInt8), (68 : UInt8), (82 : UInt8)]) (
    Option.bind (F182_15 N (false, x2, x3, x4, x5, x6, x7, x8)) fun (y0_0, y0_1, y0_2, y0_3, y0_4, y0_5, y0_6, y0_7) =>
    some ((y0_0, y0_1, y0_2, y0_3, y0_4, y0_5, y0_6, y0_7))) (
    iteP (ByteArray.toList x0 == [(80 : UInt8), (76 : UInt8), (84 : UInt8), (69 : UInt8)]) (
      Option.bind (F245 N (x1, x2, x3, x4, x5, x6, x7, x8)) fun (y1_0, y1_1, y1_2, y1_3, y1_4, y1_5, y1_6, y1_7) =>
      some ((y1_0, y1_1, y1_2, y1_3, y1_4, y1_5, y1_6, y1_7))) (
      iteP (ByteArray.toList x0 == [(73 : UInt8), (68 : UInt8), (65 : UInt8), (84 : UInt8)]) (
        iteP (!x6) (
          iteP (x4 == (2 : Int)) (
            iteP (decide ((↑(ByteArray.size x7 + ByteArray.size x1) : Int) > (9223372036854775807 : Int))) (
              none ) (
              Option.bind (F182_15 N (true, x2, x3, x4, true, x6, x7 ++ x1, x8)) fun (y2_0, y2_1, y2_2, y2_3, y2_4, y2_5, y2_6, y2_7) =>
              some ((y2_0, y2_1, y2_2, y2_3, y2_4, y2_5, y2_6, y2_7)))) (
            iteP (decide ((↑(ByteArray.size x7 + ByteArray.size x1) : Int) > (9223372036854775807 : Int))) (
              none ) (
              Option.bind (F182_15 N (decide ((↑(List.length x8) : Int) > (0 : Int)), x2, x3, x4, true, x6, x7 ++ x1, x8)) fun (y3_0, y3_1, y3_2, y3_3, y3_4, y3_5, y3_6, y3_7) =>
              some ((y3_0, y3_1, y3_2, y3_3, y3_4, y3_5, y3_6, y3_7))))) (
          iteP (decide ((↑(ByteArray.size x7 + ByteArray.size x1) : Int) > (9223372036854775807 : Int))) (
            none ) (
            Option.bind (F182_15 N (false, x2, x3, x4, true, x6, x7 ++ x1, x8)) fun (y4_0, y4_1, y4_2, y4_3, y4_4, y4_5, y4_6, y4_7) =>
            some ((y4_0, y4_1, y4_2, y4_3, y4_4, y4_5, y4_6, y4_7))))) (
        iteP (ByteArray.toList x0 == [(73 : UInt8), (69 : UInt8), (78 : UInt8), (68 : UInt8)]) (
          Option.bind (F182_15 N (ByteArray.toList x1 == [], x2, x3, x4, x5, x6, x7, x8)) fun (y5_0, y5_1, y5_2, y5_3, y5_4, y5_5, y5_6, y5_7) =>
          some ((y5_0, y5_1, y5_2, y5_3, y5_4, y5_5, y5_6, y5_7))) (
          Option.bind (x0[(0 : Nat)]?) fun y6 =>
          iteP (decide ((97 : Int) ≤ (↑(UInt8.toNat y6) : Int))) (
            Option.bind (x0[(0 : Nat)]?) fun y7 =>
            Option.bind (F182_15 N (decide ((↑(UInt8.toNat y7) : Int) ≤ (122 : Int)), x2, x3, x4, x5, x5, x7, x8)) fun (y8_0, y8_1, y8_2, y8_3, y8_4, y8_5, y8_6, y8_7) =>
            some ((y8_0, y8_1, y8_2, y8_3, y8_4, y8_5, y8_6, y8_7))) (
            Option.bind (F182_15 N (false, x2, x3, x4, x5, x5, x7, x8)) fun (y9_0, y9_1, y9_2, y9_3, y9_4, y9_5, y9_6, y9_7) =>
            some ((y9_0, y9_1, y9_2, y9_3, y9_4, y9_5, y9_6, y9_7)))))))
noncomputable def T182 (N : Nat) : Pk → Tr Pk := tellS s182 w182 (F182 N)
theorem T182_ok (N : Nat) : FOK Tryz.prog (182) (T182 N) :=
  (fn_ok2 ownT mix (tab182_ok N) Tryz.func182 s182 w182 [0] (cuts := [(15, C182_15 N N)]) ⟨C182_15_ok N N, trivial⟩ (fun _ => by kernel_rfl) (by decide +kernel) (F182 N) (fun x => by kernel_rfl))
@[reducible] def s111 : SP := ⟨[.adr 0 [], .ro y5, .int .i64], [.var 168 (.agg [.int .i64, .int .i64, .int .i64, .sl 1, .bool, .bool, .str]), .row (.int .i64) 3]⟩
noncomputable def tab111 (N : Nat) : List (Nat × (Pk → Tr Pk)) := [(181, T181 N), (182, T182 N)]
theorem tab111_ok (N : Nat) : TabOK Tryz.prog (tab111 N) := ⟨T181_ok N, T182_ok N, trivial⟩
@[reducible] def L111_58 : LD := ⟨58, [7, 19, 18, 17, 0], [(.ret, [6]), (.exit 0, [0, 7])], ⟨[.int .i64, .int .i64, .int .i64, .ro y5, .adr 0 []], [.var 168 (.agg [.int .i64, .int .i64, .int .i64, .sl 1, .bool, .bool, .str]), .row (.int .i64) 3]⟩, [(.exit 0, ⟨[.adr 0 [], .int .i64], [.var 168 (.agg [.int .i64, .int .i64, .int .i64, .sl 1, .bool, .bool, .str]), .row (.int .i64) 3]⟩)]⟩
abbrev P111_58 : Type := Int × Int × Int × (List (ByteArray × (ByteArray × Unit))) × Int × Int × Int × Bool × Bool × ByteArray × (List Int)
abbrev R111_58 : Type := Int × Int × Int × Int × Bool × Bool × ByteArray × (List Int)
noncomputable def B111_58 (N : Nat) (f : P111_58 → Option R111_58) : P111_58 → Option R111_58
  | (x0, x1, x2, x3, x4, x5, x6, x7, x8, x9, x10) =>
  iteP (decide (x1 < x2)) (
    iteP (within x1 (List.length x3)) (
      Option.bind (x3[Int.toNat x1]?) fun y0 =>
      iteP (x0 == (0 : Int)) (
        Option.bind (F182 N (y0.1, y0.2.1, x4, x5, x6, x7, x8, x9, x10)) fun (y1_0, y1_1, y1_2, y1_3, y1_4, y1_5, y1_6, y1_7) =>
        Option.bind (f (y1_0, IntKind.wrap IntKind.i64 (x1 + (1 : Int)), x2, x3, y1_1, y1_2, y1_3, y1_4, y1_5, y1_6, y1_7)) fun r => some r) (
        Option.bind (f (x0, IntKind.wrap IntKind.i64 (x1 + (1 : Int)), x2, x3, x4, x5, x6, x7, x8, x9, x10)) fun r => some r)) (
      none )) (
    some ((x0, x4, x5, x6, x7, x8, x9, x10)))
noncomputable def F111_58 (N : Nat) : Nat → P111_58 → Option R111_58
  | 0, _ => none
  | k + 1, x => B111_58 N (F111_58 N k) x
noncomputable def C111_58 (N : Nat) (k : Nat) : Cut := L111_58.cut (F111_58 N k)
theorem C111_58_ok (N : Nat) (k : Nat) : CutAt Tryz.prog false Tryz.f111 [0] 58 (C111_58 N k) :=
  L111_58.loopT ownT mix (tab111_ok N) Tryz.f111 [0] (cuts := []) trivial (by decide +kernel) (by kernel_rfl) (B111_58 N) (F111_58 N) (fun _ => rfl) (fun _ _ => rfl) (fun f x => by kernel_rfl) k
@[reducible] def w111 : List SP := [⟨[.int .i64], [.var 168 (.agg [.int .i64, .int .i64, .int .i64, .sl 1, .bool, .bool, .str]), .row (.int .i64) 3]⟩]
noncomputable def F111 (N : Nat) : ((List (ByteArray × (ByteArray × Unit))) × Int × Int × Int × Int × Bool × Bool × ByteArray × (List Int)) → Option (Int × Int × Int × Int × Bool × Bool × ByteArray × (List Int))
  | (x0, x1, x2, x3, x4, x5, x6, x7, x8) =>
  iteP (within (0 : Int) (List.length x0)) (
    Option.bind (x0[(0 : Nat)]?) fun y0 =>
    Option.bind (F181 N (y0.1, y0.2.1, x1, x2, x3, x4, x5, x6, x7, x8)) fun (y1_0, y1_1, y1_2, y1_3, y1_4, y1_5, y1_6, y1_7) =>
    iteP (decide ((0 : Int) ≤ (1 : Int) ∧ (1 : Int) ≤ (↑(List.length x0) : Int))) (
      Option.bind (F111_58 N N (y1_0, (0 : Int), (↑(List.length (List.take (List.length x0 - (1 : Nat)) (List.drop (1 : Nat) x0))) : Int), List.take (List.length x0 - (1 : Nat)) (List.drop (1 : Nat) x0), y1_1, y1_2, y1_3, y1_4, y1_5, y1_6, y1_7)) fun (y2_0, y2_1, y2_2, y2_3, y2_4, y2_5, y2_6, y2_7) =>
      iteP (y2_0 == (0 : Int)) (
        iteP (!y2_4) (
          some (((120 : Int), y2_1, y2_2, y2_3, y2_4, y2_5, y2_6, y2_7))) (
          some ((y2_0, y2_1, y2_2, y2_3, y2_4, y2_5, y2_6, y2_7)))) (
        some ((y2_0, y2_1, y2_2, y2_3, y2_4, y2_5, y2_6, y2_7)))) (
      none )) (
    none )
noncomputable def T111 (N : Nat) : Pk → Tr Pk := tellS s111 w111 (F111 N)
theorem T111_ok (N : Nat) : FOK Tryz.prog (111) (T111 N) :=
  (fn_ok2 ownT mix (tab111_ok N) Tryz.func111 s111 w111 [0] (cuts := [(58, C111_58 N N)]) ⟨C111_58_ok N N, trivial⟩ (fun _ => by kernel_rfl) (by decide +kernel) (F111 N) (fun x => by kernel_rfl))
@[reducible] def y7 : Ty := (.cons (.int .i64) (.cons (.int .i64) (.cons (.int .i64) (.cons (.sl (.int .i64)) (.cons .bool (.cons .bool (.cons .str .unit)))))))
@[reducible] def s246 : SP := ⟨[.str], []⟩
noncomputable def tab246 (N : Nat) : List (Nat × (Pk → Tr Pk)) := [(81, T81 N), (105, T105 N), (84, T84 N)]
theorem tab246_ok (N : Nat) : TabOK Tryz.prog (tab246 N) := ⟨T81_ok N, T105_ok N, T84_ok N, trivial⟩
@[reducible] def w246 : List SP := [⟨[.int .i64], []⟩]
noncomputable def F246 (N : Nat) : (ByteArray) → Option (Int)
  | x0 =>
  Option.bind (F81 N x0) fun y0 =>
  Option.bind (F105 N ((1 : Int), y0.1, y0.2.1, y0.2.2)) fun y1 =>
  Option.bind (F105 N ((1 : Int), y1.2.1, y1.2.2.1, y1.2.2.2)) fun y2 =>
  Option.bind (F84 N (y2.2.1, y2.2.2.1, y2.2.2.2, ())) fun y3 =>
  iteP (y3 != (0 : Int)) (
    Option.bind (F84 N (y2.2.1, y2.2.2.1, y2.2.2.2, ())) fun y4 =>
    some (y4)) (
    iteP (IntKind.wrap IntKind.i64 (↑(BitVec.toNat (BitVec.ofInt (64 : Nat) y1.1 &&& BitVec.ofInt (64 : Nat) (15 : Int))) : Int) != (8 : Int)) (
      some ((100 : Int))) (
      iteP (decide (Int.fdiv y1.1 (16 : Int) > (7 : Int))) (
        some ((100 : Int))) (
        iteP (IntKind.wrap IntKind.i64 (↑(BitVec.toNat (BitVec.ofInt (64 : Nat) y2.1 &&& BitVec.ofInt (64 : Nat) (32 : Int))) : Int) != (0 : Int)) (
          some ((100 : Int))) (
          iteP (Int.tmod (IntKind.wrap IntKind.i64 (↑(BitVec.toNat (BitVec.ofInt (64 : Nat) (IntKind.wrap IntKind.i64 (y1.1 * (256 : Int))) ||| BitVec.ofInt (64 : Nat) y2.1)) : Int)) (31 : Int) != (0 : Int)) (
            some ((100 : Int))) (
            some ((0 : Int)))))))
noncomputable def T246 (N : Nat) : Pk → Tr Pk := tellS s246 w246 (F246 N)
theorem T246_ok (N : Nat) : FOK Tryz.prog (246) (T246 N) :=
  (fn_ok2 ownT mix (tab246_ok N) Tryz.func246 s246 w246 [] (cuts := []) trivial (fun _ => by kernel_rfl) (by decide +kernel) (F246 N) (fun x => by kernel_rfl))
@[reducible] def s283 : SP := ⟨[.str], []⟩
noncomputable def tab283 (N : Nat) : List (Nat × (Pk → Tr Pk)) := []
theorem tab283_ok (N : Nat) : TabOK Tryz.prog (tab283 N) := trivial
@[reducible] def w283 : List SP := [⟨[.adr 0 []], [.var 345 (.agg [.str, .int .i64, .int .i64])]⟩]
noncomputable def F283 (N : Nat) : (ByteArray) → Option (ByteArray × Int × Int)
  | x0 =>
  some ((x0, (0 : Int), (0 : Int)))
noncomputable def T283 (N : Nat) : Pk → Tr Pk := tellS s283 w283 (F283 N)
theorem T283_ok (N : Nat) : FOK Tryz.prog (283) (T283 N) :=
  (fn_ok2 ownT mix (tab283_ok N) Tryz.func283 s283 w283 [] (cuts := []) trivial (fun _ => by kernel_rfl) (by decide +kernel) (F283 N) (fun x => by kernel_rfl))
@[reducible] def s305 : SP := ⟨[.radr y6 [.i 0 3]], []⟩
noncomputable def tab305 (N : Nat) : List (Nat × (Pk → Tr Pk)) := []
theorem tab305_ok (N : Nat) : TabOK Tryz.prog (tab305 N) := trivial
@[reducible] def w305 : List SP := [⟨[.int .i64], []⟩]
noncomputable def F305 (N : Nat) : ((ByteArray × (Int × (Int × Unit)))) → Option (Int)
  | x0 =>
  some (IntKind.wrap IntKind.i64 (IntKind.wrap IntKind.i64 ((8 : Int) * (↑(ByteArray.size x0.1) : Int)) - x0.2.1))
noncomputable def T305 (N : Nat) : Pk → Tr Pk := tellS s305 w305 (F305 N)
theorem T305_ok (N : Nat) : FOK Tryz.prog (305) (T305 N) :=
  (fn_ok2 ownT mix (tab305_ok N) Tryz.func305 s305 w305 [] (cuts := []) trivial (fun _ => by kernel_rfl) (by decide +kernel) (F305 N) (fun x => by kernel_rfl))
@[reducible] def s344 : SP := ⟨[.adr 0 [], .int .i64], [.var 345 (.agg [.str, .int .i64, .int .i64])]⟩
noncomputable def tab344 (N : Nat) : List (Nat × (Pk → Tr Pk)) := [(305, T305 N)]
theorem tab344_ok (N : Nat) : TabOK Tryz.prog (tab344 N) := ⟨T305_ok N, trivial⟩
@[reducible] def w344 : List SP := [⟨[.bool], [.var 345 (.agg [.str, .int .i64, .int .i64])]⟩]
noncomputable def F344 (N : Nat) : (Int × ByteArray × Int × Int) → Option (Bool × ByteArray × Int × Int)
  | (x0, x1, x2, x3) =>
  iteP (x3 == (0 : Int)) (
    Option.bind (F305 N (x1, x2, x3, ())) fun y0 =>
    iteP (decide (x0 > y0)) (
      some ((false, x1, x2, (2 : Int)))) (
      some ((x3 == (0 : Int), x1, x2, x3)))) (
    some ((x3 == (0 : Int), x1, x2, x3)))
noncomputable def T344 (N : Nat) : Pk → Tr Pk := tellS s344 w344 (F344 N)
theorem T344_ok (N : Nat) : FOK Tryz.prog (344) (T344 N) :=
  (fn_ok2 ownT mix (tab344_ok N) Tryz.func344 s344 w344 [0] (cuts := []) trivial (fun _ => by kernel_rfl) (by decide +kernel) (F344 N) (fun x => by kernel_rfl))
@[reducible] def s329 : SP := ⟨[.adr 0 [], .int .i64], [.var 345 (.agg [.str, .int .i64, .int .i64])]⟩
noncomputable def tab329 (N : Nat) : List (Nat × (Pk → Tr Pk)) := [(310, T310 N), (344, T344 N)]
theorem tab329_ok (N : Nat) : TabOK Tryz.prog (tab329 N) := ⟨T310_ok N, T344_ok N, trivial⟩
@[reducible] def L329_250 : LD := ⟨250, [5, 15, 14, 1, 0], [(.ret, [4]), (.exit 0, [0, 1, 5])], ⟨[.int .i64, .int .i64, .int .i64, .int .i64, .adr 0 []], [.var 345 (.agg [.str, .int .i64, .int .i64])]⟩, [(.exit 0, ⟨[.adr 0 [], .int .i64, .int .i64], [.var 345 (.agg [.str, .int .i64, .int .i64])]⟩)]⟩
abbrev P329_250 : Type := Int × Int × Int × Int × ByteArray × Int × Int
abbrev R329_250 : Type := Int × Int × ByteArray × Int × Int
noncomputable def B329_250 (N : Nat) (f : P329_250 → Option R329_250) : P329_250 → Option R329_250
  | (x0, x1, x2, x3, x4, x5, x6) =>
  iteP (decide (x1 < x2)) (
    iteP (decide ((0 : Int) ≤ IntKind.wrap IntKind.i64 (Int.tdiv (IntKind.wrap IntKind.i64 (x5 + x1)) (8 : Int)))) (
      Option.bind (x4[Int.toNat (IntKind.wrap IntKind.i64 (Int.tdiv (IntKind.wrap IntKind.i64 (x5 + x1)) (8 : Int)))]?) fun y0 =>
      iteP (decide (Int.tmod (IntKind.wrap IntKind.i64 (x5 + x1)) (8 : Int) < (0 : Int))) (
        none ) (
        iteP (decide (x1 < (0 : Int))) (
          none ) (
          Option.bind (f (IntKind.wrap IntKind.i64 (↑(BitVec.toNat (BitVec.ofInt (64 : Nat) x0 ||| BitVec.ofInt (64 : Nat) (IntKind.wrap IntKind.i64 (IntKind.wrap IntKind.i64 (↑(BitVec.toNat (BitVec.ofInt (64 : Nat) (Int.fdiv (IntKind.wrap IntKind.i64 (↑(UInt8.toNat y0) : Int)) ((2 : Int) ^ min (Int.toNat (Int.tmod (IntKind.wrap IntKind.i64 (x5 + x1)) (8 : Int))) (64 : Nat))) &&& BitVec.ofInt (64 : Nat) (1 : Int))) : Int) * (2 : Int) ^ min (Int.toNat x1) (64 : Nat))))) : Int), IntKind.wrap IntKind.i64 (x1 + (1 : Int)), x2, x3, x4, x5, x6)) fun r => some r))) (
      none )) (
    some ((x3, x0, x4, x5, x6)))
noncomputable def F329_250 (N : Nat) : Nat → P329_250 → Option R329_250
  | 0, _ => none
  | k + 1, x => B329_250 N (F329_250 N k) x
noncomputable def C329_250 (N : Nat) (k : Nat) : Cut := L329_250.cut (F329_250 N k)
theorem C329_250_ok (N : Nat) (k : Nat) : CutAt Tryz.prog false Tryz.f329 [0] 250 (C329_250 N k) :=
  L329_250.loopT ownT mix (tab329_ok N) Tryz.f329 [0] (cuts := []) trivial (by decide +kernel) (by kernel_rfl) (B329_250 N) (F329_250 N) (fun _ => rfl) (fun _ _ => rfl) (fun f x => by kernel_rfl) k
@[reducible] def w329 : List SP := [⟨[.int .i64], [.var 345 (.agg [.str, .int .i64, .int .i64])]⟩]
noncomputable def F329 (N : Nat) : (Int × ByteArray × Int × Int) → Option (Int × ByteArray × Int × Int)
  | (x0, x1, x2, x3) =>
  Option.bind (F310 N x0) fun y0 =>
  Option.bind (F344 N (y0, x1, x2, x3)) fun y1 =>
  iteP (!y1.1) (
    some (((0 : Int), y1.2.1, y1.2.2.1, y1.2.2.2))) (
    Option.bind (F329_250 N N ((0 : Int), (0 : Int), y0, y0, y1.2.1, y1.2.2.1, y1.2.2.2)) fun y2 =>
    some ((y2.2.1, y2.2.2.1, IntKind.wrap IntKind.i64 (y2.2.2.2.1 + y2.1), y2.2.2.2.2)))
noncomputable def T329 (N : Nat) : Pk → Tr Pk := tellS s329 w329 (F329 N)
theorem T329_ok (N : Nat) : FOK Tryz.prog (329) (T329 N) :=
  (fn_ok2 ownT mix (tab329_ok N) Tryz.func329 s329 w329 [0] (cuts := [(250, C329_250 N N)]) ⟨C329_250_ok N N, trivial⟩ (fun _ => by kernel_rfl) (by decide +kernel) (F329 N) (fun x => by kernel_rfl))
@[reducible] def s330 : SP := ⟨[.radr y6 [.i 0 3]], []⟩
noncomputable def tab330 (N : Nat) : List (Nat × (Pk → Tr Pk)) := []
theorem tab330_ok (N : Nat) : TabOK Tryz.prog (tab330 N) := trivial
@[reducible] def w330 : List SP := [⟨[.int .i64], []⟩]
noncomputable def F330 (N : Nat) : ((ByteArray × (Int × (Int × Unit)))) → Option (Int)
  | x0 =>
  some x0.2.2.1
noncomputable def T330 (N : Nat) : Pk → Tr Pk := tellS s330 w330 (F330 N)
theorem T330_ok (N : Nat) : FOK Tryz.prog (330) (T330 N) :=
  (fn_ok2 ownT mix (tab330_ok N) Tryz.func330 s330 w330 [] (cuts := []) trivial (fun _ => by kernel_rfl) (by decide +kernel) (F330 N) (fun x => by kernel_rfl))
@[reducible] def s364 : SP := ⟨[.radr y6 [.i 0 3]], []⟩
noncomputable def tab364 (N : Nat) : List (Nat × (Pk → Tr Pk)) := []
theorem tab364_ok (N : Nat) : TabOK Tryz.prog (tab364 N) := trivial
@[reducible] def w364 : List SP := [⟨[.int .i64], []⟩]
noncomputable def F364 (N : Nat) : ((ByteArray × (Int × (Int × Unit)))) → Option (Int)
  | x0 =>
  some (Int.tmod (IntKind.wrap IntKind.i64 ((8 : Int) - Int.tmod x0.2.1 (8 : Int))) (8 : Int))
noncomputable def T364 (N : Nat) : Pk → Tr Pk := tellS s364 w364 (F364 N)
theorem T364_ok (N : Nat) : FOK Tryz.prog (364) (T364 N) :=
  (fn_ok2 ownT mix (tab364_ok N) Tryz.func364 s364 w364 [] (cuts := []) trivial (fun _ => by kernel_rfl) (by decide +kernel) (F364 N) (fun x => by kernel_rfl))
@[reducible] def s345 : SP := ⟨[.adr 0 []], [.var 345 (.agg [.str, .int .i64, .int .i64])]⟩
noncomputable def tab345 (N : Nat) : List (Nat × (Pk → Tr Pk)) := [(364, T364 N), (329, T329 N)]
theorem tab345_ok (N : Nat) : TabOK Tryz.prog (tab345 N) := ⟨T364_ok N, T329_ok N, trivial⟩
@[reducible] def w345 : List SP := [⟨[.int .i64], [.var 345 (.agg [.str, .int .i64, .int .i64])]⟩]
noncomputable def F345 (N : Nat) : (ByteArray × Int × Int) → Option (Int × ByteArray × Int × Int)
  | (x0, x1, x2) =>
  Option.bind (F364 N (x0, x1, x2, ())) fun y0 =>
  Option.bind (F329 N (y0, x0, x1, x2)) fun y1 =>
  some ((y1.1, y1.2.1, y1.2.2.1, y1.2.2.2))
noncomputable def T345 (N : Nat) : Pk → Tr Pk := tellS s345 w345 (F345 N)
theorem T345_ok (N : Nat) : FOK Tryz.prog (345) (T345 N) :=
  (fn_ok2 ownT mix (tab345_ok N) Tryz.func345 s345 w345 [0] (cuts := []) trivial (fun _ => by kernel_rfl) (by decide +kernel) (F345 N) (fun x => by kernel_rfl))
@[reducible] def s346 : SP := ⟨[.adr 0 [], .int .i64], [.var 345 (.agg [.str, .int .i64, .int .i64])]⟩
noncomputable def tab346 (N : Nat) : List (Nat × (Pk → Tr Pk)) := [(305, T305 N), (344, T344 N), (364, T364 N)]
theorem tab346_ok (N : Nat) : TabOK Tryz.prog (tab346 N) := ⟨T305_ok N, T344_ok N, T364_ok N, trivial⟩
@[reducible] def w346 : List SP := [⟨[.str], [.var 345 (.agg [.str, .int .i64, .int .i64])]⟩]
noncomputable def F346 (N : Nat) : (Int × ByteArray × Int × Int) → Option (ByteArray × ByteArray × Int × Int)
  | (x0, x1, x2, x3) =>
  iteP (decide ((if (0 : Int) > x0 then (0 : Int) else x0) > (↑(ByteArray.size x1) : Int))) (
    Option.bind (F305 N (x1, x2, x3, ())) fun y0 =>
    Option.bind (F344 N (IntKind.wrap IntKind.i64 (y0 + (1 : Int)), x1, x2, x3)) fun y1 =>
    some ((ByteArray.mk #[], y1.2.1, y1.2.2.1, y1.2.2.2))) (
    Option.bind (F364 N (x1, x2, x3, ())) fun y2 =>
    Option.bind (F344 N (IntKind.wrap IntKind.i64 (y2 + IntKind.wrap IntKind.i64 ((8 : Int) * if (0 : Int) > x0 then (0 : Int) else x0)), x1, x2, x3)) fun y3 =>
    iteP (!y3.1) (
      Option.bind (F305 N (y3.2.1, y3.2.2.1, y3.2.2.2, ())) fun y4 =>
      Option.bind (F344 N (IntKind.wrap IntKind.i64 (y4 + (1 : Int)), y3.2.1, y3.2.2.1, y3.2.2.2)) fun y5 =>
      some ((ByteArray.mk #[], y5.2.1, y5.2.2.1, y5.2.2.2))) (
      Option.bind (F364 N (y3.2.1, y3.2.2.1, y3.2.2.2, ())) fun y6 =>
      iteP (decide ((0 : Int) ≤ IntKind.wrap IntKind.i64 (IntKind.wrap IntKind.i64 (Int.tdiv (IntKind.wrap IntKind.i64 (y3.2.2.1 + y6)) (8 : Int)) + if (0 : Int) > x0 then (0 : Int) else x0) ∧ IntKind.wrap IntKind.i64 (IntKind.wrap IntKind.i64 (Int.tdiv (IntKind.wrap IntKind.i64 (y3.2.2.1 + y6)) (8 : Int)) + if (0 : Int) > x0 then (0 : Int) else x0) ≤ (↑(ByteArray.size y3.2.1) : Int))) (
        iteP (decide ((0 : Int) ≤ IntKind.wrap IntKind.i64 (Int.tdiv (IntKind.wrap IntKind.i64 (y3.2.2.1 + y6)) (8 : Int)) ∧ IntKind.wrap IntKind.i64 (Int.tdiv (IntKind.wrap IntKind.i64 (y3.2.2.1 + y6)) (8 : Int)) ≤ (↑(Int.toNat (IntKind.wrap IntKind.i64 (IntKind.wrap IntKind.i64 (Int.tdiv (IntKind.wrap IntKind.i64 (y3.2.2.1 + y6)) (8 : Int)) + if (0 : Int) > x0 then (0 : Int) else x0))) : Int))) (
          some ((ByteArray.extract y3.2.1 (Int.toNat (IntKind.wrap IntKind.i64 (Int.tdiv (IntKind.wrap IntKind.i64 (y3.2.2.1 + y6)) (8 : Int)))) (Int.toNat (IntKind.wrap IntKind.i64 (IntKind.wrap IntKind.i64 (Int.tdiv (IntKind.wrap IntKind.i64 (y3.2.2.1 + y6)) (8 : Int)) + if (0 : Int) > x0 then (0 : Int) else x0))), y3.2.1, IntKind.wrap IntKind.i64 ((8 : Int) * IntKind.wrap IntKind.i64 (IntKind.wrap IntKind.i64 (Int.tdiv (IntKind.wrap IntKind.i64 (y3.2.2.1 + y6)) (8 : Int)) + if (0 : Int) > x0 then (0 : Int) else x0)), y3.2.2.2))) (
          none )) (
        none )))
noncomputable def T346 (N : Nat) : Pk → Tr Pk := tellS s346 w346 (F346 N)
theorem T346_ok (N : Nat) : FOK Tryz.prog (346) (T346 N) :=
  (fn_ok2 ownT mix (tab346_ok N) Tryz.func346 s346 w346 [0] (cuts := []) trivial (fun _ => by kernel_rfl) (by decide +kernel) (F346 N) (fun x => by kernel_rfl))
@[reducible] def s331 : SP := ⟨[.adr 0 [], .int .i64], [.var 345 (.agg [.str, .int .i64, .int .i64])]⟩
noncomputable def tab331 (N : Nat) : List (Nat × (Pk → Tr Pk)) := [(345, T345 N), (329, T329 N), (330, T330 N), (346, T346 N)]
theorem tab331_ok (N : Nat) : TabOK Tryz.prog (tab331 N) := ⟨T345_ok N, T329_ok N, T330_ok N, T346_ok N, trivial⟩
@[reducible] def w331 : List SP := [⟨[.tup [.str, .int .i64]], [.var 345 (.agg [.str, .int .i64, .int .i64])]⟩]
noncomputable def F331 (N : Nat) : (Int × ByteArray × Int × Int) → Option (ByteArray × Int × ByteArray × Int × Int)
  | (x0, x1, x2, x3) =>
  Option.bind (F345 N (x1, x2, x3)) fun y0 =>
  Option.bind (F329 N ((16 : Int), y0.2.1, y0.2.2.1, y0.2.2.2)) fun y1 =>
  Option.bind (F329 N ((16 : Int), y1.2.1, y1.2.2.1, y1.2.2.2)) fun y2 =>
  Option.bind (F330 N (y2.2.1, y2.2.2.1, y2.2.2.2, ())) fun y3 =>
  iteP (y3 != (0 : Int)) (
    some ((ByteArray.mk #[], y3, y2.2.1, y2.2.2.1, y2.2.2.2))) (
    iteP (IntKind.wrap IntKind.i64 (↑(BitVec.toNat (BitVec.ofInt (64 : Nat) y1.1 ^^^ BitVec.ofInt (64 : Nat) y2.1)) : Int) != (65535 : Int)) (
      some ((ByteArray.mk #[], (80 : Int), y2.2.1, y2.2.2.1, y2.2.2.2))) (
      iteP (decide (y1.1 > x0)) (
        some ((ByteArray.mk #[], (4 : Int), y2.2.1, y2.2.2.1, y2.2.2.2))) (
        Option.bind (F346 N (y1.1, y2.2.1, y2.2.2.1, y2.2.2.2)) fun y4 =>
        Option.bind (F330 N (y4.2.1, y4.2.2.1, y4.2.2.2, ())) fun y5 =>
        some ((y4.1, y5, y4.2.1, y4.2.2.1, y4.2.2.2)))))
noncomputable def T331 (N : Nat) : Pk → Tr Pk := tellS s331 w331 (F331 N)
theorem T331_ok (N : Nat) : FOK Tryz.prog (331) (T331 N) :=
  (fn_ok2 ownT mix (tab331_ok N) Tryz.func331 s331 w331 [0] (cuts := []) trivial (fun _ => by kernel_rfl) (by decide +kernel) (F331 N) (fun x => by kernel_rfl))
@[reducible] def s368 : SP := ⟨[.ro (.int .i64)], []⟩
noncomputable def tab368 (N : Nat) : List (Nat × (Pk → Tr Pk)) := [(370, T370 N), (371, T371 N)]
theorem tab368_ok (N : Nat) : TabOK Tryz.prog (tab368 N) := ⟨T370_ok N, T371_ok N, trivial⟩
@[reducible] def L368_16018 : LD := ⟨16018, [34, 33, 0, 32, 6, 7], [(.ret, [2, 3]), (.exit 2, [7, 0, 6]), (.exit 1, [7, 0, 6]), (.exit 0, [6])], ⟨[.int .i64, .int .i64, .ro (.int .i64), .ro (.int .i64), .adr 0 [], .int .i64], [.var 397 (.agg [.arr (.int .i64) 16, .sl 1, .int .i64]), .row (.int .i64) 3]⟩, [(.exit 2, ⟨[.int .i64, .ro (.int .i64), .adr 0 []], [.var 397 (.agg [.arr (.int .i64) 16, .sl 1, .int .i64]), .row (.int .i64) 3]⟩)]⟩
abbrev P368_16018 : Type := Int × Int × (List Int) × (List Int) × Int × (List Int) × Int × (List Int)
abbrev R368_16018 : Type := Int × (List Int) × (List Int) × Int × (List Int)
noncomputable def B368_16018 (N : Nat) (f : P368_16018 → Option R368_16018) : P368_16018 → Option R368_16018
  | (x0, x1, x2, x3, x4, x5, x6, x7) =>
  iteP (decide (x0 < x1)) (
    iteP (within x0 (List.length x3)) (
      Option.bind (x3[Int.toNat x0]?) fun y0 =>
      iteP (y0 == x4) (
        iteP (decide ((List.length x7 + List.length [x0]) * (8 : Nat) ≤ (140737488355328 : Nat) ∧ List.length x7 + List.length [x0] ≤ (140737488355328 : Nat))) (
          Option.bind (f (IntKind.wrap IntKind.i64 (x0 + (1 : Int)), x1, x2, x3, x4, x5, x4, x7 ++ [x0])) fun r => some r) (
          none )) (
        Option.bind (f (IntKind.wrap IntKind.i64 (x0 + (1 : Int)), x1, x2, x3, x4, x5, x6, x7)) fun r => some r)) (
      none )) (
    some ((x4, x2, x5, x6, x7)))
noncomputable def F368_16018 (N : Nat) : Nat → P368_16018 → Option R368_16018
  | 0, _ => none
  | k + 1, x => B368_16018 N (F368_16018 N k) x
noncomputable def C368_16018 (N : Nat) (k : Nat) : Cut := L368_16018.cut (F368_16018 N k)
theorem C368_16018_ok (N : Nat) (k : Nat) : CutAt Tryz.prog false Tryz.f368 [] 16018 (C368_16018 N k) :=
  L368_16018.loopT ownT mix (tab368_ok N) Tryz.f368 [] (cuts := []) trivial (by decide +kernel) (by kernel_rfl) (B368_16018 N) (F368_16018 N) (fun _ => rfl) (fun _ _ => rfl) (fun f x => by kernel_rfl) k
@[reducible] def L368_250 : LD := ⟨250, [0, 6, 7], [(.ret, [2, 3]), (.exit 0, [6])], ⟨[.ro (.int .i64), .adr 0 [], .int .i64], [.var 397 (.agg [.arr (.int .i64) 16, .sl 1, .int .i64]), .row (.int .i64) 3]⟩, [(.exit 0, ⟨[.adr 0 []], [.var 397 (.agg [.arr (.int .i64) 16, .sl 1, .int .i64]), .row (.int .i64) 3]⟩)]⟩
abbrev P368_250 : Type := (List Int) × Int × (List Int) × Int × (List Int)
abbrev R368_250 : Type := (List Int) × Int × (List Int)
noncomputable def B368_250 (N : Nat) (f : P368_250 → Option R368_250) : P368_250 → Option R368_250
  | (x0, x1, x2, x3, x4) =>
  iteP (decide (x1 ≤ (15 : Int))) (
    Option.bind (F368_16018 N N ((0 : Int), (↑(List.length x0) : Int), x0, x0, x1, x2, x3, x4)) fun y0 =>
    Option.bind (f (y0.2.1, IntKind.wrap IntKind.i64 (y0.1 + (1 : Int)), y0.2.2.1, y0.2.2.2.1, y0.2.2.2.2)) fun r => some r) (
    some ((x2, x3, x4)))
noncomputable def F368_250 (N : Nat) : Nat → P368_250 → Option R368_250
  | 0, _ => none
  | k + 1, x => B368_250 N (F368_250 N k) x
noncomputable def C368_250 (N : Nat) (k : Nat) : Cut := L368_250.cut (F368_250 N k)
theorem C368_250_ok (N : Nat) (k : Nat) : CutAt Tryz.prog false Tryz.f368 [] 250 (C368_250 N k) :=
  L368_250.loopT ownT mix (tab368_ok N) Tryz.f368 [] (cuts := [(16018, C368_16018 N N)]) ⟨C368_16018_ok N N, trivial⟩ (by decide +kernel) (by kernel_rfl) (B368_250 N) (F368_250 N) (fun _ => rfl) (fun _ _ => rfl) (fun f x => by kernel_rfl) k
@[reducible] def w368 : List SP := [⟨[.tup [.nilp, .int .i64]], []⟩, ⟨[.tup [.adr 0 [], .int .i64]], [.var 397 (.agg [.arr (.int .i64) 16, .sl 1, .int .i64]), .row (.int .i64) 3]⟩]
noncomputable def F368 (N : Nat) : ((List Int)) → Option (((Int) ⊕ (Int × (List Int) × Int × (List Int))))
  | x0 =>
  Option.bind (F370 N x0) fun y0 =>
  iteP (y0.2 != (0 : Int)) (
    some (.inl y0.2)) (
    Option.bind (F371 N x0) fun y1 =>
    Option.bind (F368_250 N N (x0, (1 : Int), y1.1, (0 : Int), [])) fun y2 =>
    some (.inr (((0 : Int), y2.1, y2.2.1, y2.2.2))))
noncomputable def T368 (N : Nat) : Pk → Tr Pk := tellS s368 w368 (F368 N)
theorem T368_ok (N : Nat) : FOK Tryz.prog (368) (T368 N) :=
  (fn_ok2 ownT mix (tab368_ok N) Tryz.func368 s368 w368 [] (cuts := [(16018, C368_16018 N N), (250, C368_250 N N)]) ⟨C368_16018_ok N N, C368_250_ok N N, trivial⟩ (fun _ => by kernel_rfl) (by decide +kernel) (F368 N) (fun x => by kernel_rfl))
@[reducible] def s349 : SP := ⟨[.int .i64], []⟩
noncomputable def tab349 (N : Nat) : List (Nat × (Pk → Tr Pk)) := []
theorem tab349_ok (N : Nat) : TabOK Tryz.prog (tab349 N) := trivial
@[reducible] def w349 : List SP := [⟨[.int .i64], []⟩]
noncomputable def F349 (N : Nat) : (Int) → Option (Int)
  | x0 =>
  iteP (x0 == (50 : Int)) (
    some ((80 : Int))) (
    iteP (x0 == (3 : Int)) (
      some ((80 : Int))) (
      some (x0)))
noncomputable def T349 (N : Nat) : Pk → Tr Pk := tellS s349 w349 (F349 N)
theorem T349_ok (N : Nat) : FOK Tryz.prog (349) (T349 N) :=
  (fn_ok2 ownT mix (tab349_ok N) Tryz.func349 s349 w349 [] (cuts := []) trivial (fun _ => by kernel_rfl) (by decide +kernel) (F349 N) (fun x => by kernel_rfl))
end Go.Proofs.YtfcamlibbfnldaaGreat.Am
