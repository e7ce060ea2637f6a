/- The seat's Go functions come to the Lean functions written here, wherever these give an answer (part A). -/
import Derived.Test.YtonjhbefeeoiiaaGreatAmC
import Derived.KernelRfl
import Derived.Test.YtonjhbefeeoiiaaGreatChecked
import Derived.Lib.UnsafeStr
import Derived.Shelf.RegionOpenPlain
import Derived.WalkKit
import Derived.Test.YtonjhbefeeoiiaaGreatProg
set_option linter.unusedSimpArgs false
set_option linter.unusedVariables false
set_option linter.unusedSectionVars false
set_option maxRecDepth 100000
set_option maxHeartbeats 2000000
namespace Go.Proofs.YtonjhbefeeoiiaaGreat.Am
open Go Go.Am
noncomputable instance instP : Inhabited Program := ⟨Tryz.prog⟩
theorem loadInts {P : Program} {w : World} : ∀ (l : List Int) (a : Addr) (acc : ByteArray), (∀ j x, l[j]? = some x → w.cell? (a.add j) = some (.int .u8 x)) →
    (loadBytes a acc l.length).run P w = .ok ⟨acc.data ++ (l.map fun n => UInt8.ofNat n.toNat).toArray⟩ w
  | [], a, acc, _ => by simp [loadBytes]
  | x :: l, a, acc, h => by
    have h0 : w.cell? a = some (.int .u8 x) := by
      have := h 0 x rfl
      simpa [Addr.add] using this
    have ih := loadInts (P := P) l (a.add 1) (acc.push (UInt8.ofNat x.toNat)) (fun j y hy => by
      have := h (j + 1) y (by simpa using hy)
      have e : (a.add 1).add j = a.add (j + 1) := by
        unfold Addr.add
        by_cases hj : j = 0
        · subst hj; simp
        · simp [hj]; omega
      rw [e]; exact this)
    simp only [List.length_cons, loadBytes, Sem.run_bind, run_load, h0, Result.andThen]
    rw [show (x.toNat).toUInt8 = UInt8.ofNat x.toNat from rfl, ih]
    congr 1
    apply ByteArray.ext
    simp [ByteArray.push]
theorem unsafeInts {P : Program} {w : World} (pt it ty e : TypeId) (hp : P.underlying pt = some (.pointer e)) (hc : P.cellsOf e = 1) (g cells : Nat) (hsh : w.shape? g = some (e, cells)) (l : List Int) (h0 : l ≠ []) (hn : l.length ≤ cells) (h63 : l.length ≤ 9223372036854775807)
    (hcell : ∀ j x, l[j]? = some x → w.cell? ((⟨g, 0, none⟩ : Addr).add j) = some (.int .u8 x)) :
    (Builtin.unsafeString_ #[pt, it] ty #[.pointer (some ⟨g, 0, none⟩), .int .i64 l.length]).run P w = .ok (.string (stringOf l)) (w.freeze ⟨g, 0, none⟩ l.length) := by
  have hl : l.length ≠ 0 := by simpa using h0
  have hlb := loadInts (P := P) (w := w) l ⟨g, 0, none⟩ .empty hcell
  have hlies := Lib.liesAt_bytes (P := P) hc (cells / P.cellsOf e) l.length (by rw [hc]; simpa using hn)
  have h63' : ¬ (9223372036854775807 : Int) < (l.length : Int) := by omega
  have hdef : Builtin.unsafeString_ #[pt, it] ty #[.pointer (some ⟨g, 0, none⟩), .int .i64 l.length] =
      (do
        let n ← asInt (.int .i64 l.length)
        if n < 0 then runtimePanic (.error "unsafe.String: len out of range")
        if n > IntKind.i64.max then unsupported (.unsafePointer "String: a length above the largest int")
        if n = 0 then pure (.string .empty)
        else if ← variablesAt ⟨g, 0, none⟩ (← elemOf pt) n.toNat then do
          let s ← loadBytes ⟨g, 0, none⟩ .empty n.toNat
          freeze ⟨g, 0, none⟩ n.toNat
          pure (.string s)
        else unsupported (.unsafePointer "String: not so many bytes at ptr")) := rfl
  rw [hdef]
  have hmax : IntKind.i64.max = 9223372036854775807 := rfl
  have hneg : ¬ (l.length : Int) < 0 := by omega
  simp [asInt, asIntOf, hmax, h63', hneg, hl, variablesAt, hsh, elemOf, run_underlying hp, hlies, hlb, stringOf]
set_option maxHeartbeats 4000000 in
theorem str137 : StrOK Tryz.prog 137 5 := by
  intro b o n c w gk cs fr xs h1 h2 h3 h4 h5 h6 h7
  subst h6
  have c1 : w.drew.cell? ⟨b, o + 1, none⟩ = some (.slice (some ⟨gk, 0, none⟩) xs.length c) := h1
  have hSD : (Builtin.unsafeSliceData_ #[155] 203 #[.slice (some ⟨gk, 0, none⟩) xs.length c]).run Tryz.prog w.drew = .ok (.pointer (some ⟨gk, 0, none⟩)) w.drew :=
    Lib.run_unsafeSliceData_row _ _ _ _ _ _ (by omega)
  have hsz : xs.length ≤ cs.size := by
    have := h7 (xs.length - 1) (.int .u8 (xs[xs.length - 1]'(by omega))) (by simp)
    unfold World.cell? at this
    rw [h5] at this
    simp at this
    have := (Array.getElem?_eq_some_iff.1 this).1
    omega
  have hUS : (Builtin.unsafeString_ #[203, 3] 9 #[.pointer (some ⟨gk, 0, none⟩), .int .i64 xs.length]).run Tryz.prog w.drew = .ok (.string (stringOf xs)) (w.drew.freeze ⟨gk, 0, none⟩ xs.length) := by
    refine unsafeInts 203 3 9 5 Tryz.underlying203 (by kernel_rfl) gk cs.size (by have hg' : w.drew.heap[gk]? = some (.cells cs 5 fr) := h5; simp [World.shape?, hg']) xs (by intro e; rw [e] at h2; simp at h2) hsz (by unfold maxRow at h3; omega) ?_
    intro j x hx
    have := h7 j (.int .u8 x) (by simp [hx])
    by_cases e : j = 0
    · subst e; simpa [Addr.add] using this
    · simpa [Addr.add, e] using this
  have mixed : Tryz.prog.follows .mixedOrders = true := by kernel_rfl
  go_enter Tryz.func137, Tryz.ntmps137
  go_wp2
  go_region_o
  all_goals (go_wp2; go_ret; exact ⟨rfl, rfl⟩)
def ownT : FuncId → List Nat := ownL [(0, [36, 77, 110, 140]), (5, [1, 0, 4]), (15, [2]), (25, [1, 0, 0]), (27, [1, 0, 0]), (29, [1, 0, 0]), (31, [1, 0, 0]), (41, [5]), (60, [1, 1]), (85, [2]), (86, [2]), (90, [2]), (93, [1, 1]), (95, [1, 1, 0]), (97, [1]), (102, [0, 5, 5]), (117, [4]), (118, [1, 1]), (123, [1]), (124, [1]), (130, [2]), (137, [78, 5]), (145, [3, 0]), (146, [0, 5]), (147, [4]), (148, [1]), (159, [0, 1]), (162, [4, 0, 0, 0]), (163, [3, 0]), (165, [0, 5]), (168, [77]), (170, [1, 0]), (172, [4, 0, 0]), (173, [4, 0, 0]), (174, [4, 0, 0]), (176, [4, 0, 0]), (177, [4, 0, 0]), (179, [4, 0, 0, 0]), (180, [4, 0, 0, 0]), (182, [1]), (183, [1]), (184, [1]), (185, [1]), (186, [1]), (187, [1]), (188, [4, 0, 0, 0]), (195, [1]), (196, [1]), (197, [1])]
theorem mix : MixP Tryz.prog ownT := ⟨rfl, by kernel_rfl, ne_one 168 (by decide +kernel) Tryz.func168 (by decide +kernel) (by decide +kernel) (by kernel_rfl) (by kernel_rfl), str_one 137 5 (by decide +kernel) Tryz.func137 (by decide +kernel) (by decide +kernel) str137⟩
@[reducible] def s68 : SP := ⟨[.int .i64], []⟩
noncomputable def tab68 (N : Nat) : List (Nat × (Pk → Tr Pk)) := []
theorem tab68_ok (N : Nat) : TabOK Tryz.prog (tab68 N) := trivial
@[reducible] def w68 : List SP := [⟨[.bool], []⟩]
noncomputable def F68 (N : Nat) : (Int) → Option (Bool)
  | x0 =>
  iteP (decide ((1 : Int) ≤ x0)) (
    some (decide (x0 ≤ (4096 : Int)))) (
    some (false))
noncomputable def T68 (N : Nat) : Pk → Tr Pk := tellS s68 w68 (F68 N)
theorem T68_ok (N : Nat) : FOK Tryz.prog (68) (T68 N) :=
  (fn_ok2 ownT mix (tab68_ok N) Tryz.func68 s68 w68 [] (cuts := []) trivial (fun _ => by kernel_rfl) (by decide +kernel) (F68 N) (fun x => by kernel_rfl))
@[reducible] def s33 : SP := ⟨[.int .i64, .int .i64], []⟩
noncomputable def tab33 (N : Nat) : List (Nat × (Pk → Tr Pk)) := [(68, T68 N)]
theorem tab33_ok (N : Nat) : TabOK Tryz.prog (tab33 N) := ⟨T68_ok N, trivial⟩
@[reducible] def w33 : List SP := [⟨[.tup [.nilp, .int .i64]], []⟩, ⟨[.tup [.adr 0 [], .int .i64]], [.var 100 (.agg [.int .i64, .int .i64, .sl 1]), .row (.int .i64) 3]⟩]
noncomputable def F33 (N : Nat) : (Int × Int) → Option (((Int) ⊕ (Int × Int × Int × (List Int))))
  | (x0, x1) =>
  Option.bind (F68 N x0) fun y0 =>
  iteP (!y0) (
    some (.inl ((1 : Int)))) (
    Option.bind (F68 N x1) fun y1 =>
    iteP (!y1) (
      some (.inl ((1 : Int)))) (
      iteP (decide ((0 : Int) ≤ IntKind.wrap IntKind.i64 (x0 * x1) ∧ IntKind.wrap IntKind.i64 (x0 * x1) ≤ IntKind.wrap IntKind.i64 (x0 * x1) ∧ IntKind.wrap IntKind.i64 (x0 * x1) * (8 : Int) ≤ (140737488355328 : Int) ∧ IntKind.wrap IntKind.i64 (x0 * x1) ≤ (140737488355328 : Int))) (
        some (.inr (((0 : Int), x0, x1, List.replicate (Int.toNat (IntKind.wrap IntKind.i64 (x0 * x1))) (0 : Int))))) (
        none )))
noncomputable def T33 (N : Nat) : Pk → Tr Pk := tellS s33 w33 (F33 N)
theorem T33_ok (N : Nat) : FOK Tryz.prog (33) (T33 N) :=
  (fn_ok2 ownT mix (tab33_ok N) Tryz.func33 s33 w33 [] (cuts := []) trivial (fun _ => by kernel_rfl) (by decide +kernel) (F33 N) (fun x => by kernel_rfl))
@[reducible] def s35 : SP := ⟨[.int .i64, .int .i64], []⟩
noncomputable def tab35 (N : Nat) : List (Nat × (Pk → Tr Pk)) := []
theorem tab35_ok (N : Nat) : TabOK Tryz.prog (tab35 N) := trivial
@[reducible] def w35 : List SP := [⟨[.agg [.int .i64, .int .i64, .int .i64, .int .i64]], []⟩]
noncomputable def F35 (N : Nat) : (Int × Int) → Option (Int × Int × Int × Int)
  | (x0, x1) =>
  some (((0 : Int), (0 : Int), x0, x1))
noncomputable def T35 (N : Nat) : Pk → Tr Pk := tellS s35 w35 (F35 N)
theorem T35_ok (N : Nat) : FOK Tryz.prog (35) (T35 N) :=
  (fn_ok2 ownT mix (tab35_ok N) Tryz.func35 s35 w35 [] (cuts := []) trivial (fun _ => by kernel_rfl) (by decide +kernel) (F35 N) (fun x => by kernel_rfl))
@[reducible] def s34 : SP := ⟨[.nilp, .agg [.int .i64, .int .i64, .int .i64, .int .i64], .ro (.int .i64)], []⟩
noncomputable def tab34 (N : Nat) : List (Nat × (Pk → Tr Pk)) := []
theorem tab34_ok (N : Nat) : TabOK Tryz.prog (tab34 N) := trivial
@[reducible] def w34 : List SP := []
noncomputable def F34 (N : Nat) : (Int × Int × Int × Int × (List Int)) → Option (Unit)
  | (x0, x1, x2, x3, x4) =>
  none 
noncomputable def T34 (N : Nat) : Pk → Tr Pk := tellS s34 w34 (F34 N)
theorem T34_ok (N : Nat) : FOK Tryz.prog (34) (T34 N) :=
  (fn_ok2 ownT mix (tab34_ok N) Tryz.func34 s34 w34 [] (cuts := []) trivial (fun _ => by kernel_rfl) (by decide +kernel) (F34 N) (fun x => by kernel_rfl))
@[reducible] def s100 : SP := ⟨[.int .i64, .int .i64, .int .i64], []⟩
noncomputable def tab100 (N : Nat) : List (Nat × (Pk → Tr Pk)) := []
theorem tab100_ok (N : Nat) : TabOK Tryz.prog (tab100 N) := trivial
@[reducible] def w100 : List SP := [⟨[.bool], []⟩]
noncomputable def F100 (N : Nat) : (Int × Int × Int) → Option (Bool)
  | (x0, x1, x2) =>
  iteP (decide (x0 ≥ (0 : Int))) (
    iteP (decide (x1 ≥ (0 : Int))) (
      iteP (decide (x1 ≤ x2)) (
        some (decide (x0 ≤ IntKind.wrap IntKind.i64 (x2 - x1)))) (
        some (false))) (
      some (false))) (
    some (false))
noncomputable def T100 (N : Nat) : Pk → Tr Pk := tellS s100 w100 (F100 N)
theorem T100_ok (N : Nat) : FOK Tryz.prog (100) (T100 N) :=
  (fn_ok2 ownT mix (tab100_ok N) Tryz.func100 s100 w100 [] (cuts := []) trivial (fun _ => by kernel_rfl) (by decide +kernel) (F100 N) (fun x => by kernel_rfl))
@[reducible] def s71 : SP := ⟨[.agg [.int .i64, .int .i64, .int .i64, .int .i64], .int .i64, .int .i64], []⟩
noncomputable def tab71 (N : Nat) : List (Nat × (Pk → Tr Pk)) := [(100, T100 N)]
theorem tab71_ok (N : Nat) : TabOK Tryz.prog (tab71 N) := ⟨T100_ok N, trivial⟩
@[reducible] def w71 : List SP := [⟨[.bool], []⟩]
noncomputable def F71 (N : Nat) : (Int × Int × Int × Int × Int × Int) → Option (Bool)
  | (x0, x1, x2, x3, x4, x5) =>
  Option.bind (F100 N (x0, x2, x4)) fun y0 =>
  iteP (y0) (
    Option.bind (F100 N (x1, x3, x5)) fun y1 =>
    some (y1)) (
    some (false))
noncomputable def T71 (N : Nat) : Pk → Tr Pk := tellS s71 w71 (F71 N)
theorem T71_ok (N : Nat) : FOK Tryz.prog (71) (T71 N) :=
  (fn_ok2 ownT mix (tab71_ok N) Tryz.func71 s71 w71 [] (cuts := []) trivial (fun _ => by kernel_rfl) (by decide +kernel) (F71 N) (fun x => by kernel_rfl))
@[reducible] def s70 : SP := ⟨[.int .i64], []⟩
noncomputable def tab70 (N : Nat) : List (Nat × (Pk → Tr Pk)) := []
theorem tab70_ok (N : Nat) : TabOK Tryz.prog (tab70 N) := trivial
@[reducible] def w70 : List SP := [⟨[.bool], []⟩]
noncomputable def F70 (N : Nat) : (Int) → Option (Bool)
  | x0 =>
  iteP (decide ((0 : Int) ≤ x0)) (
    some (decide (x0 ≤ (16777215 : Int)))) (
    some (false))
noncomputable def T70 (N : Nat) : Pk → Tr Pk := tellS s70 w70 (F70 N)
theorem T70_ok (N : Nat) : FOK Tryz.prog (70) (T70 N) :=
  (fn_ok2 ownT mix (tab70_ok N) Tryz.func70 s70 w70 [] (cuts := []) trivial (fun _ => by kernel_rfl) (by decide +kernel) (F70 N) (fun x => by kernel_rfl))
@[reducible] def s69 : SP := ⟨[.int .i64], []⟩
noncomputable def tab69 (N : Nat) : List (Nat × (Pk → Tr Pk)) := [(70, T70 N)]
theorem tab69_ok (N : Nat) : TabOK Tryz.prog (tab69 N) := ⟨T70_ok N, trivial⟩
@[reducible] def w69 : List SP := [⟨[.bool], []⟩]
noncomputable def F69 (N : Nat) : (Int) → Option (Bool)
  | x0 =>
  Option.bind (F70 N x0) fun y0 =>
  some (!y0)
noncomputable def T69 (N : Nat) : Pk → Tr Pk := tellS s69 w69 (F69 N)
theorem T69_ok (N : Nat) : FOK Tryz.prog (69) (T69 N) :=
  (fn_ok2 ownT mix (tab69_ok N) Tryz.func69 s69 w69 [] (cuts := []) trivial (fun _ => by kernel_rfl) (by decide +kernel) (F69 N) (fun x => by kernel_rfl))
@[reducible] def s101 : SP := ⟨[.ro (.int .i64), .fn 69], []⟩
noncomputable def tab101 (N : Nat) : List (Nat × (Pk → Tr Pk)) := [(69, T69 N)]
theorem tab101_ok (N : Nat) : TabOK Tryz.prog (tab101 N) := ⟨T69_ok N, trivial⟩
@[reducible] def L101_26 : LD := ⟨26, [7, 1, 0, 8], [(.ret, [4]), (.exit 0, [])], ⟨[.int .i64, .fn 69, .ro (.int .i64), .int .i64], []⟩, [(.ret, ⟨[.int .i64], []⟩), (.exit 0, ⟨[], []⟩)]⟩
abbrev P101_26 : Type := Int × (List Int) × Int
abbrev R101_26 : Type := ((Int) ⊕ (Unit))
noncomputable def B101_26 (N : Nat) (f : P101_26 → Option R101_26) : P101_26 → Option R101_26
  | (x0, x1, x2) =>
  iteP (decide (x2 < x0)) (
    iteP (within x2 (List.length x1)) (
      Option.bind (x1[Int.toNat x2]?) fun y0 =>
      Option.bind (F69 N y0) fun y1 =>
      iteP (y1) (
        some (.inl (x2))) (
        Option.bind (f (x0, x1, IntKind.wrap IntKind.i64 (x2 + (1 : Int)))) fun r => match r with | .inl y => some (.inl y) | .inr y => some (.inr y))) (
      none )) (
    some (.inr (())))
noncomputable def F101_26 (N : Nat) : Nat → P101_26 → Option R101_26
  | 0, _ => none
  | k + 1, x => B101_26 N (F101_26 N k) x
noncomputable def C101_26 (N : Nat) (k : Nat) : Cut := L101_26.cut (F101_26 N k)
theorem C101_26_ok (N : Nat) (k : Nat) : CutAt Tryz.prog false Tryz.f101 [] 26 (C101_26 N k) :=
  L101_26.loopT ownT mix (tab101_ok N) Tryz.f101 [] (cuts := []) trivial (by decide +kernel) (by kernel_rfl) (B101_26 N) (F101_26 N) (fun _ => rfl) (fun _ _ => rfl) (fun f x => by kernel_rfl) k
@[reducible] def w101 : List SP := [⟨[.int .i64], []⟩]
noncomputable def F101 (N : Nat) : ((List Int)) → Option (Int)
  | x0 =>
  Option.bind (F101_26 N N ((↑(List.length x0) : Int), x0, (0 : Int))) fun y0 =>
  match y0 with
  | .inl y1 =>
    some (y1)
  | .inr y1 =>
    some ((-1 : Int))
noncomputable def T101 (N : Nat) : Pk → Tr Pk := tellS s101 w101 (F101 N)
theorem T101_ok (N : Nat) : FOK Tryz.prog (101) (T101 N) :=
  (fn_ok2 ownT mix (tab101_ok N) Tryz.func101 s101 w101 [] (cuts := [(26, C101_26 N N)]) ⟨C101_26_ok N N, trivial⟩ (fun _ => by kernel_rfl) (by decide +kernel) (F101 N) (fun x => by kernel_rfl))
@[reducible] def s72 : SP := ⟨[.ro (.int .i64), .fn 69], []⟩
noncomputable def tab72 (N : Nat) : List (Nat × (Pk → Tr Pk)) := [(101, T101 N)]
theorem tab72_ok (N : Nat) : TabOK Tryz.prog (tab72 N) := ⟨T101_ok N, trivial⟩
@[reducible] def w72 : List SP := [⟨[.bool], []⟩]
noncomputable def F72 (N : Nat) : ((List Int)) → Option (Bool)
  | x0 =>
  Option.bind (F101 N x0) fun y0 =>
  some (decide (y0 ≥ (0 : Int)))
noncomputable def T72 (N : Nat) : Pk → Tr Pk := tellS s72 w72 (F72 N)
theorem T72_ok (N : Nat) : FOK Tryz.prog (72) (T72 N) :=
  (fn_ok2 ownT mix (tab72_ok N) Tryz.func72 s72 w72 [] (cuts := []) trivial (fun _ => by kernel_rfl) (by decide +kernel) (F72 N) (fun x => by kernel_rfl))
@[reducible] def s73 : SP := ⟨[.adr 0 [], .agg [.int .i64, .int .i64, .int .i64, .int .i64]], [.var 100 (.agg [.int .i64, .int .i64, .sl 1]), .row (.int .i64) 3]⟩
noncomputable def tab73 (N : Nat) : List (Nat × (Pk → Tr Pk)) := []
theorem tab73_ok (N : Nat) : TabOK Tryz.prog (tab73 N) := trivial
@[reducible] def w73 : List SP := [⟨[.clo 102 [.adr 1 [], .adr 2 []]], [.var 100 (.agg [.int .i64, .int .i64, .sl 3]), .var 58 (.agg [.int .i64, .int .i64, .int .i64, .int .i64]), .var 45 (.adr 0 []), .row (.int .i64) 3]⟩]
noncomputable def F73 (N : Nat) : (Int × Int × Int × Int × Int × Int × (List Int)) → Option (Int × Int × Int × Int × Int × Int × (List Int))
  | (x0, x1, x2, x3, x4, x5, x6) =>
  some ((x4, x5, x0, x1, x2, x3, x6))
noncomputable def T73 (N : Nat) : Pk → Tr Pk := tellS s73 w73 (F73 N)
theorem T73_ok (N : Nat) : FOK Tryz.prog (73) (T73 N) :=
  (fn_ok2 ownT mix (tab73_ok N) Tryz.func73 s73 w73 [0] (cuts := []) trivial (fun _ => by kernel_rfl) (by decide +kernel) (F73 N) (fun x => by kernel_rfl))
@[reducible] def s34r122 : SP := ⟨[.yv 0, .int .i64, .slp 1 .h .h, .adr 2 [], .adr 3 []], [.lp 627189298506124755066 [5, 4] [.adr 2 [], .adr 3 []] 0, .row (.int .i64) 3, .var 22 (.ro (.int .i64)), .var 58 (.agg [.int .i64, .int .i64, .int .i64, .int .i64])]⟩
noncomputable def tab34r122 (N : Nat) : List (Nat × (Pk → Tr Pk)) := []
theorem tab34r122_ok (N : Nat) : TabOK Tryz.prog (tab34r122 N) := trivial
@[reducible] def w34r122 : List SP := [⟨[.bc true], [.lp 627189298506124755066 [5, 4] [.adr 2 [], .adr 3 []] 0, .row (.int .i64) 3, .var 22 (.ro (.int .i64)), .var 58 (.agg [.int .i64, .int .i64, .int .i64, .int .i64])]⟩]
noncomputable def F34r122 (N : Nat) : (Int × Nat × Nat × (List Int) × (List Int) × Int × Int × Int × Int) → Option ((List Int) × (List Int) × Int × Int × Int × Int)
  | (x0, x1, x2, x3, x4, x5, x6, x7, x8) =>
  iteP (decide ((0 : Int) ≤ IntKind.wrap IntKind.i64 (x0 * x7) ∧ IntKind.wrap IntKind.i64 (x0 * x7) ≤ (↑(List.length x4) : Int))) (
    some ((putL x3 (partO (some (x1, x2))) (List.take (min (List.length (List.take (List.length x4 - Int.toNat (IntKind.wrap IntKind.i64 (x0 * x7))) (List.drop (Int.toNat (IntKind.wrap IntKind.i64 (x0 * x7))) x4))) (partN (List.length x3) (some (x1, x2)))) (List.take (List.length x4 - Int.toNat (IntKind.wrap IntKind.i64 (x0 * x7))) (List.drop (Int.toNat (IntKind.wrap IntKind.i64 (x0 * x7))) x4))), x4, x5, x6, x7, x8))) (
    none )
noncomputable def T34r122 (N : Nat) : Pk → Tr Pk := tellS s34r122 w34r122 (F34r122 N)
theorem T34r122_ok (N : Nat) : FOK Tryz.prog (34 * bigK + 122) (T34r122 N) :=
  (rnd_ok ownT mix (tab34r122_ok N) Tryz.func34 122 s34r122 w34r122 [0, 1, 2, 3, 2, 3] (cuts := []) trivial (fun _ => by kernel_rfl) (by decide +kernel) (F34r122 N) (fun x => by kernel_rfl))
@[reducible] def s102 : SP := ⟨[.yv 0, .adr 1 [], .adr 2 []], [.lp 627189298506124755066 [5, 4] [.adr 3 [], .adr 4 []] 0, .var 58 (.agg [.int .i64, .int .i64, .int .i64, .int .i64]), .var 45 (.adr 5 []), .var 22 (.ro (.int .i64)), .var 58 (.agg [.int .i64, .int .i64, .int .i64, .int .i64]), .var 100 (.agg [.int .i64, .int .i64, .sl 6]), .row (.int .i64) 3]⟩
noncomputable def tab102 (N : Nat) : List (Nat × (Pk → Tr Pk)) := [(34 * bigK + 122, T34r122 N)]
theorem tab102_ok (N : Nat) : TabOK Tryz.prog (tab102 N) := ⟨T34r122_ok N, trivial⟩
@[reducible] def L102_6 : LD := ⟨6, [7, 0, 2, 1, 8], [(.exit 0, [])], ⟨[.int .i64, .yv 0, .adr 2 [], .adr 1 [], .int .i64], [.lp 627189298506124755066 [5, 4] [.adr 3 [], .adr 4 []] 0, .var 58 (.agg [.int .i64, .int .i64, .int .i64, .int .i64]), .var 45 (.adr 5 []), .var 22 (.ro (.int .i64)), .var 58 (.agg [.int .i64, .int .i64, .int .i64, .int .i64]), .var 100 (.agg [.int .i64, .int .i64, .sl 6]), .row (.int .i64) 3]⟩, [(.exit 0, ⟨[], [.lp 627189298506124755066 [5, 4] [.adr 3 [], .adr 4 []] 0, .var 58 (.agg [.int .i64, .int .i64, .int .i64, .int .i64]), .var 45 (.adr 5 []), .var 22 (.ro (.int .i64)), .var 58 (.agg [.int .i64, .int .i64, .int .i64, .int .i64]), .var 100 (.agg [.int .i64, .int .i64, .sl 6]), .row (.int .i64) 3]⟩)]⟩
abbrev P102_6 : Type := Int × Int × Int × Int × Int × Int × (List Int) × Int × Int × Int × Int × Int × Int × (List Int)
abbrev R102_6 : Type := Int × Int × Int × Int × (List Int) × Int × Int × Int × Int × Int × Int × (List Int)
noncomputable def B102_6 (N : Nat) (f : P102_6 → Option R102_6) : P102_6 → Option R102_6
  | (x0, x1, x2, x3, x4, x5, x6, x7, x8, x9, x10, x11, x12, x13) =>
  iteP (decide (x1 < x0)) (
    iteP (decide ((0 : Int) ≤ IntKind.wrap IntKind.i64 (IntKind.wrap IntKind.i64 (IntKind.wrap IntKind.i64 (IntKind.wrap IntKind.i64 (x3 + x1) * x11) + x2) + x4) ∧ IntKind.wrap IntKind.i64 (IntKind.wrap IntKind.i64 (IntKind.wrap IntKind.i64 (IntKind.wrap IntKind.i64 (x3 + x1) * x11) + x2) + x4) ≤ (↑(List.length x13) : Int))) (
      iteP (decide ((0 : Int) ≤ IntKind.wrap IntKind.i64 (IntKind.wrap IntKind.i64 (IntKind.wrap IntKind.i64 (x3 + x1) * x11) + x2) ∧ IntKind.wrap IntKind.i64 (IntKind.wrap IntKind.i64 (IntKind.wrap IntKind.i64 (x3 + x1) * x11) + x2) ≤ (↑(Int.toNat (IntKind.wrap IntKind.i64 (IntKind.wrap IntKind.i64 (IntKind.wrap IntKind.i64 (IntKind.wrap IntKind.i64 (x3 + x1) * x11) + x2) + x4))) : Int))) (
        Option.bind (F34r122 N (x1, Int.toNat (IntKind.wrap IntKind.i64 (IntKind.wrap IntKind.i64 (IntKind.wrap IntKind.i64 (x3 + x1) * x11) + x2)), Int.toNat (IntKind.wrap IntKind.i64 (IntKind.wrap IntKind.i64 (IntKind.wrap IntKind.i64 (IntKind.wrap IntKind.i64 (x3 + x1) * x11) + x2) + x4)) - Int.toNat (IntKind.wrap IntKind.i64 (IntKind.wrap IntKind.i64 (IntKind.wrap IntKind.i64 (x3 + x1) * x11) + x2)), x13, x6, x7, x8, x9, x10)) fun (y0_0, y0_1, y0_2, y0_3, y0_4, y0_5) =>
        Option.bind (f (x0, IntKind.wrap IntKind.i64 (x1 + (1 : Int)), x2, x3, x4, x5, y0_1, y0_2, y0_3, y0_4, y0_5, x11, x12, y0_0)) fun r => some r) (
        none )) (
      none )) (
    some ((x2, x3, x4, x5, x6, x7, x8, x9, x10, x11, x12, x13)))
noncomputable def F102_6 (N : Nat) : Nat → P102_6 → Option R102_6
  | 0, _ => none
  | k + 1, x => B102_6 N (F102_6 N k) x
noncomputable def C102_6 (N : Nat) (k : Nat) : Cut := L102_6.cut (F102_6 N k)
theorem C102_6_ok (N : Nat) (k : Nat) : CutAt Tryz.prog false Tryz.f102 [0, 1, 2, 3, 4, 5] 6 (C102_6 N k) :=
  L102_6.loopT ownT mix (tab102_ok N) Tryz.f102 [0, 1, 2, 3, 4, 5] (cuts := []) trivial (by decide +kernel) (by kernel_rfl) (B102_6 N) (F102_6 N) (fun _ => rfl) (fun _ _ => rfl) (fun f x => by kernel_rfl) k
@[reducible] def w102 : List SP := [⟨[.tup []], [.lp 627189298506124755066 [5, 4] [.adr 3 [], .adr 4 []] 0, .var 58 (.agg [.int .i64, .int .i64, .int .i64, .int .i64]), .var 45 (.adr 5 []), .var 22 (.ro (.int .i64)), .var 58 (.agg [.int .i64, .int .i64, .int .i64, .int .i64]), .var 100 (.agg [.int .i64, .int .i64, .sl 6]), .row (.int .i64) 3]⟩]
noncomputable def F102 (N : Nat) : (Int × Int × Int × Int × (List Int) × Int × Int × Int × Int × Int × Int × (List Int)) → Option (Int × Int × Int × Int × (List Int) × Int × Int × Int × Int × Int × Int × (List Int))
  | (x0, x1, x2, x3, x4, x5, x6, x7, x8, x9, x10, x11) =>
  Option.bind (F102_6 N N (x3, (0 : Int), x0, x1, x2, x3, x4, x5, x6, x7, x8, x9, x10, x11)) fun (y0_0, y0_1, y0_2, y0_3, y0_4, y0_5, y0_6, y0_7, y0_8, y0_9, y0_10, y0_11) =>
  some ((y0_0, y0_1, y0_2, y0_3, y0_4, y0_5, y0_6, y0_7, y0_8, y0_9, y0_10, y0_11))
noncomputable def T102 (N : Nat) : Pk → Tr Pk := tellS s102 w102 (F102 N)
theorem T102_ok (N : Nat) : FOK Tryz.prog (102) (T102 N) :=
  (fn_ok2 ownT mix (tab102_ok N) Tryz.func102 s102 w102 [0, 1, 2, 3, 4, 5] (cuts := [(6, C102_6 N N)]) ⟨C102_6_ok N N, trivial⟩ (fun _ => by kernel_rfl) (by decide +kernel) (F102 N) (fun x => by kernel_rfl))
@[reducible] def s34a : SP := ⟨[.adr 0 [], .agg [.int .i64, .int .i64, .int .i64, .int .i64], .ro (.int .i64)], [.var 100 (.agg [.int .i64, .int .i64, .sl 1]), .row (.int .i64) 3]⟩
noncomputable def tab34a (N : Nat) : List (Nat × (Pk → Tr Pk)) := [(71, T71 N), (72, T72 N), (73, T73 N), (102, T102 N)]
theorem tab34a_ok (N : Nat) : TabOK Tryz.prog (tab34a N) := ⟨T71_ok N, T72_ok N, T73_ok N, T102_ok N, trivial⟩
@[reducible] def L34a_122 : LD := ⟨122, [6, 4, 5, 38], [(.ret, [6]), (.normal, [])], ⟨[.int .i64, .adr 1 [], .adr 2 [], .clo 102 [.adr 3 [], .adr 4 []]], [.var 100 (.agg [.int .i64, .int .i64, .sl 5]), .var 58 (.agg [.int .i64, .int .i64, .int .i64, .int .i64]), .var 22 (.ro (.int .i64)), .var 58 (.agg [.int .i64, .int .i64, .int .i64, .int .i64]), .var 45 (.adr 0 []), .row (.int .i64) 3]⟩, [(.normal, ⟨[], [.var 100 (.agg [.int .i64, .int .i64, .sl 1]), .row (.int .i64) 3]⟩)]⟩
noncomputable def F34a_122 (N : Nat) : (Int × Int × Int × Int × Int × Int × Int × (List Int) × Int × Int × Int × Int × (List Int)) → Option (Int × Int × (List Int))
  | (x0, x1, x2, x3, x4, x5, x6, x7, x8, x9, x10, x11, x12) =>
  Option.bind (F102 N (x8, x9, x10, x11, x7, x3, x4, x5, x6, x1, x2, x12)) fun (y0_0, y0_1, y0_2, y0_3, y0_4, y0_5, y0_6, y0_7, y0_8, y0_9, y0_10, y0_11) =>
  some ((y0_9, y0_10, y0_11))
noncomputable def C34a_122 (N : Nat) (_ : Nat) : Cut := L34a_122.cut (F34a_122 N)
theorem C34a_122_ok (N : Nat) (k : Nat) : CutAt Tryz.prog false Tryz.f34 [0] 122 (C34a_122 N k) :=
  L34a_122.rngT ownT mix (tab34a_ok N) Tryz.func34 [0] [5, 4] (by decide +kernel) (F34a_122 N) (fun x => by kernel_rfl)
@[reducible] def w34a : List SP := [⟨[.int .i64], [.var 100 (.agg [.int .i64, .int .i64, .sl 1]), .row (.int .i64) 3]⟩]
noncomputable def F34a (N : Nat) : (Int × Int × Int × Int × (List Int) × Int × Int × (List Int)) → Option (Int × Int × Int × (List Int))
  | (x0, x1, x2, x3, x4, x5, x6, x7) =>
  Option.bind (F71 N (x0, x1, x2, x3, x5, x6)) fun y0 =>
  iteP (!y0) (
    some (((140 : Int), x5, x6, x7))) (
    iteP ((↑(List.length x4) : Int) != IntKind.wrap IntKind.i64 (x2 * x3)) (
      some (((1 : Int), x5, x6, x7))) (
      Option.bind (F72 N x4) fun y1 =>
      iteP (y1) (
        some (((1 : Int), x5, x6, x7))) (
        Option.bind (F73 N (x0, x1, x2, x3, x5, x6, x7)) fun (y2_0, y2_1, y2_2, y2_3, y2_4, y2_5, y2_6) =>
        Option.bind (F34a_122 N ((0 : Int), y2_0, y2_1, x0, x1, x2, x3, x4, y2_2, y2_3, y2_4, y2_5, y2_6)) fun y3 =>
        some (((0 : Int), y3.1, y3.2.1, y3.2.2)))))
noncomputable def T34a (N : Nat) : Pk → Tr Pk := tellS s34a w34a (F34a N)
theorem T34a_ok (N : Nat) : FOK Tryz.prog (34) (T34a N) :=
  (fn_ok2 ownT mix (tab34a_ok N) Tryz.func34 s34a w34a [0] (cuts := [(122, C34a_122 N N)]) ⟨C34a_122_ok N N, trivial⟩ (fun _ => by kernel_rfl) (by decide +kernel) (F34a N) (fun x => by kernel_rfl))
@[reducible] def y0 : Ty := (.cons (.int .i64) (.cons .bool (.cons (.int .i64) (.cons (.cons (.int .i64) (.cons (.int .i64) (.cons (.int .i64) (.cons (.int .i64) .unit)))) (.cons (.cons (.int .i64) (.cons (.int .i64) (.cons .bool (.cons .bool (.cons (.int .i64) (.cons (.int .i64) (.cons (.int .i64) (.cons (.int .i64) (.cons (.int .i64) (.cons (.int .i64) .unit)))))))))) (.cons (.sl (.int .i64)) (.cons .str .unit)))))))
@[reducible] def y1 : Ty := (.cons (.int .i64) (.cons (.int .i64) (.cons (.int .i64) (.cons (.int .i64) .unit))))
@[reducible] def s8 : SP := ⟨[.agg [.int .i64, .int .i64, .ro (.int .i64)], .str, .int .i64], []⟩
noncomputable def tab8 (N : Nat) : List (Nat × (Pk → Tr Pk)) := [(33, T33 N), (35, T35 N), (34, orT s34.I (T34 N) (T34a N))]
theorem tab8_ok (N : Nat) : TabOK Tryz.prog (tab8 N) := ⟨T33_ok N, T35_ok N, orT_ok (T34_ok N) (T34a_ok N), trivial⟩
@[reducible] def w8 : List SP := [⟨[.tup [.nilp, .int .i64]], []⟩, ⟨[.tup [.adr 0 [], .int .i64]], [.var 62 (.agg [.adr 1 [], .str, .int .i64, .str, .str, .fv, .bool, .int .i64, .agg [.sl 2], .agg [.agg [.agg [.agg [.bool, .str]]]], .agg [.int .i64, .int .i64, .bool, .bool, .int .i64, .int .i64, .int .i64, .int .i64, .int .i64, .int .i64], .sl 3, .sl 4, .sl 5, .sl 6, .bool, .bool, .agg [.agg [.int .i64, .int .i64, .int .i64, .int .i64], .agg [.int .i64, .int .i64, .int .i64, .int .i64], .bool], .int .i64]), .var 100 (.agg [.int .i64, .int .i64, .sl 7]), .row y0 70, .row (.int .i64) 3, .row y1 58, .row y1 58, .row y1 58, .row (.int .i64) 3]⟩]
noncomputable def F8 (N : Nat) : (Int × Int × (List Int) × ByteArray × Int) → Option (((Int) ⊕ (Int × ByteArray × Int × ByteArray × ByteArray × Nat × Bool × Int × Bool × ByteArray × Int × Int × Bool × Bool × Int × Int × Int × Int × Int × Int × Bool × Bool × Int × Int × Int × Int × Int × Int × Int × Int × Bool × Int × Int × Int × (List (Int × (Bool × (Int × ((Int × (Int × (Int × (Int × Unit)))) × ((Int × (Int × (Bool × (Bool × (Int × (Int × (Int × (Int × (Int × (Int × Unit)))))))))) × ((List Int) × (ByteArray × Unit)))))))) × (List Int) × (List (Int × (Int × (Int × (Int × Unit))))) × (List (Int × (Int × (Int × (Int × Unit))))) × (List (Int × (Int × (Int × (Int × Unit))))) × (List Int))))
  | (x0, x1, x2, x3, x4) =>
  Option.bind (F33 N (x0, x1)) fun y0 =>
  match y0 with
  | .inl y1 =>
    iteP (y1 != (0 : Int)) (
      some (.inl ((1 : Int)))) (
      iteP (decide ((↑(ByteArray.size x3) : Int) > (4096 : Int))) (
        some (.inl ((1 : Int)))) (
        Option.bind (F35 N (x0, x1)) fun y2 =>
        Option.bind (F34 N (y2.1, y2.2.1, y2.2.2.1, y2.2.2.2, x2)) fun y3 =>
        none))
  | .inr y1 =>
    iteP (y1.1 != (0 : Int)) (
      some (.inl ((1 : Int)))) (
      iteP (decide ((↑(ByteArray.size x3) : Int) > (4096 : Int))) (
        some (.inl ((1 : Int)))) (
        Option.bind (F35 N (x0, x1)) fun y4 =>
        Option.bind (F34a N (y4.1, y4.2.1, y4.2.2.1, y4.2.2.2, x2, y1.2.1, y1.2.2.1, y1.2.2.2)) fun y5 =>
        iteP (y5.1 != (0 : Int)) (
          some (.inl ((1 : Int)))) (
          some (.inr (((0 : Int), x3, x4, ByteArray.mk #[], ByteArray.mk #[(82 : UInt8), (70 : UInt8), (66 : UInt8), (32 : UInt8), (48 : UInt8), (48 : UInt8), (51 : UInt8), (46 : UInt8), (48 : UInt8), (48 : UInt8), (56 : UInt8), (10 : UInt8)], (36 : Nat), false, (0 : Int), false, ByteArray.mk #[], (0 : Int), (0 : Int), false, false, (0 : Int), (0 : Int), (0 : Int), (0 : Int), (0 : Int), (0 : Int), false, false, (0 : Int), (0 : Int), (0 : Int), (0 : Int), (0 : Int), (0 : Int), (0 : Int), (0 : Int), false, (0 : Int), y5.2.1, y5.2.2.1, [], [], [], [], [], y5.2.2.2))))))
noncomputable def T8 (N : Nat) : Pk → Tr Pk := tellS s8 w8 (F8 N)
theorem T8_ok (N : Nat) : FOK Tryz.prog (8) (T8 N) :=
  (fn_ok2 ownT mix (tab8_ok N) Tryz.func8 s8 w8 [] (cuts := []) trivial (fun _ => by kernel_rfl) (by decide +kernel) (F8 N) (fun x => by kernel_rfl))
@[reducible] def s19 : SP := ⟨[.adr 0 [], .int .i64], [.var 62 (.agg [.adr 1 [], .str, .int .i64, .str, .str, .fv, .bool, .int .i64, .agg [.sl 2], .agg [.agg [.agg [.agg [.bool, .str]]]], .agg [.int .i64, .int .i64, .bool, .bool, .int .i64, .int .i64, .int .i64, .int .i64, .int .i64, .int .i64], .sl 3, .sl 4, .sl 5, .sl 6, .bool, .bool, .agg [.agg [.int .i64, .int .i64, .int .i64, .int .i64], .agg [.int .i64, .int .i64, .int .i64, .int .i64], .bool], .int .i64]), .var 100 (.agg [.int .i64, .int .i64, .sl 7]), .row y0 70, .row (.int .i64) 3, .row y1 58, .row y1 58, .row y1 58, .row (.int .i64) 3]⟩
noncomputable def tab19 (N : Nat) : List (Nat × (Pk → Tr Pk)) := []
theorem tab19_ok (N : Nat) : TabOK Tryz.prog (tab19 N) := trivial
@[reducible] def w19 : List SP := [⟨[.str], [.var 62 (.agg [.adr 1 [], .str, .int .i64, .str, .str, .fv, .bool, .int .i64, .agg [.sl 2], .agg [.agg [.agg [.agg [.bool, .str]]]], .agg [.int .i64, .int .i64, .bool, .bool, .int .i64, .int .i64, .int .i64, .int .i64, .int .i64, .int .i64], .sl 3, .sl 4, .sl 5, .sl 6, .bool, .bool, .agg [.agg [.int .i64, .int .i64, .int .i64, .int .i64], .agg [.int .i64, .int .i64, .int .i64, .int .i64], .bool], .int .i64]), .var 100 (.agg [.int .i64, .int .i64, .sl 7]), .row y0 70, .row (.int .i64) 3, .row y1 58, .row y1 58, .row y1 58, .row (.int .i64) 3]⟩]
noncomputable def F19 (N : Nat) : (Int × ByteArray × Int × ByteArray × ByteArray × Nat × Bool × Int × Bool × ByteArray × Int × Int × Bool × Bool × Int × Int × Int × Int × Int × Int × Bool × Bool × Int × Int × Int × Int × Int × Int × Int × Int × Bool × Int × Int × Int × (List (Int × (Bool × (Int × ((Int × (Int × (Int × (Int × Unit)))) × ((Int × (Int × (Bool × (Bool × (Int × (Int × (Int × (Int × (Int × (Int × Unit)))))))))) × ((List Int) × (ByteArray × Unit)))))))) × (List Int) × (List (Int × (Int × (Int × (Int × Unit))))) × (List (Int × (Int × (Int × (Int × Unit))))) × (List (Int × (Int × (Int × (Int × Unit))))) × (List Int)) → Option (ByteArray × ByteArray × Int × ByteArray × ByteArray × Nat × Bool × Int × Bool × ByteArray × Int × Int × Bool × Bool × Int × Int × Int × Int × Int × Int × Bool × Bool × Int × Int × Int × Int × Int × Int × Int × Int × Bool × Int × Int × Int × (List (Int × (Bool × (Int × ((Int × (Int × (Int × (Int × Unit)))) × ((Int × (Int × (Bool × (Bool × (Int × (Int × (Int × (Int × (Int × (Int × Unit)))))))))) × ((List Int) × (ByteArray × Unit)))))))) × (List Int) × (List (Int × (Int × (Int × (Int × Unit))))) × (List (Int × (Int × (Int × (Int × Unit))))) × (List (Int × (Int × (Int × (Int × Unit))))) × (List Int))
  | (x0, x1, x2, x3, x4, x5, x6, x7, x8, x9, x10, x11, x12, x13, x14, x15, x16, x17, x18, x19, x20, x21, x22, x23, x24, x25, x26, x27, x28, x29, x30, x31, x32, x33, x34, x35, x36, x37, x38, x39) =>
  iteP (decide (((0 : Int) ≤ if (↑(ByteArray.size x4) : Int) < if (0 : Int) > x0 then (0 : Int) else x0 then (↑(ByteArray.size x4) : Int) else if (0 : Int) > x0 then (0 : Int) else x0) ∧ (if (↑(ByteArray.size x4) : Int) < if (0 : Int) > x0 then (0 : Int) else x0 then (↑(ByteArray.size x4) : Int) else if (0 : Int) > x0 then (0 : Int) else x0) ≤ (↑(ByteArray.size x4) : Int))) (
    iteP (decide (((0 : Int) ≤ if (↑(ByteArray.size x4) : Int) < if (0 : Int) > x0 then (0 : Int) else x0 then (↑(ByteArray.size x4) : Int) else if (0 : Int) > x0 then (0 : Int) else x0) ∧ (if (↑(ByteArray.size x4) : Int) < if (0 : Int) > x0 then (0 : Int) else x0 then (↑(ByteArray.size x4) : Int) else if (0 : Int) > x0 then (0 : Int) else x0) ≤ (↑(ByteArray.size x4) : Int))) (
      some ((ByteArray.extract x4 (0 : Nat) (Int.toNat (if (↑(ByteArray.size x4) : Int) < if (0 : Int) > x0 then (0 : Int) else x0 then (↑(ByteArray.size x4) : Int) else if (0 : Int) > x0 then (0 : Int) else x0)), x1, x2, x3, ByteArray.extract x4 (Int.toNat (if (↑(ByteArray.size x4) : Int) < if (0 : Int) > x0 then (0 : Int) else x0 then (↑(ByteArray.size x4) : Int) else if (0 : Int) > x0 then (0 : Int) else x0)) (ByteArray.size x4), x5, x6, x7, x8, x9, x10, x11, x12, x13, x14, x15, x16, x17, x18, x19, x20, x21, x22, x23, x24, x25, x26, x27, x28, x29, x30, x31, x32, x33, x34, x35, x36, x37, x38, x39))) (
      none )) (
    none )
noncomputable def T19 (N : Nat) : Pk → Tr Pk := tellS s19 w19 (F19 N)
theorem T19_ok (N : Nat) : FOK Tryz.prog (19) (T19 N) :=
  (fn_ok2 ownT mix (tab19_ok N) Tryz.func19 s19 w19 [0, 1] (cuts := []) trivial (fun _ => by kernel_rfl) (by decide +kernel) (F19 N) (fun x => by kernel_rfl))
@[reducible] def s134 : SP := ⟨[.str, .str], []⟩
noncomputable def tab134 (N : Nat) : List (Nat × (Pk → Tr Pk)) := []
theorem tab134_ok (N : Nat) : TabOK Tryz.prog (tab134 N) := trivial
@[reducible] def w134 : List SP := [⟨[.bool], []⟩]
noncomputable def F134 (N : Nat) : (ByteArray × ByteArray) → Option (Bool)
  | (x0, x1) =>
  iteP (decide ((↑(ByteArray.size x0) : Int) ≥ (↑(ByteArray.size x1) : Int))) (
    iteP (decide ((0 : Int) ≤ (↑(ByteArray.size x1) : Int) ∧ (↑(ByteArray.size x1) : Int) ≤ (↑(ByteArray.size x0) : Int))) (
      some (ByteArray.toList (ByteArray.extract x0 (0 : Nat) (Int.toNat (↑(ByteArray.size x1) : Int))) == ByteArray.toList x1)) (
      none )) (
    some (false))
noncomputable def T134 (N : Nat) : Pk → Tr Pk := tellS s134 w134 (F134 N)
theorem T134_ok (N : Nat) : FOK Tryz.prog (134) (T134 N) :=
  (fn_ok2 ownT mix (tab134_ok N) Tryz.func134 s134 w134 [] (cuts := []) trivial (fun _ => by kernel_rfl) (by decide +kernel) (F134 N) (fun x => by kernel_rfl))
@[reducible] def s104 : SP := ⟨[.str, .str], []⟩
noncomputable def tab104 (N : Nat) : List (Nat × (Pk → Tr Pk)) := [(134, T134 N)]
theorem tab104_ok (N : Nat) : TabOK Tryz.prog (tab104 N) := ⟨T134_ok N, trivial⟩
@[reducible] def w104 : List SP := [⟨[.bool], []⟩]
noncomputable def F104 (N : Nat) : (ByteArray × ByteArray) → Option (Bool)
  | (x0, x1) =>
  Option.bind (F134 N (x0, x1)) fun y0 =>
  some (y0)
noncomputable def T104 (N : Nat) : Pk → Tr Pk := tellS s104 w104 (F104 N)
theorem T104_ok (N : Nat) : FOK Tryz.prog (104) (T104 N) :=
  (fn_ok2 ownT mix (tab104_ok N) Tryz.func104 s104 w104 [] (cuts := []) trivial (fun _ => by kernel_rfl) (by decide +kernel) (F104 N) (fun x => by kernel_rfl))
@[reducible] def s75 : SP := ⟨[.str], []⟩
noncomputable def tab75 (N : Nat) : List (Nat × (Pk → Tr Pk)) := [(104, T104 N)]
theorem tab75_ok (N : Nat) : TabOK Tryz.prog (tab75 N) := ⟨T104_ok N, trivial⟩
@[reducible] def w75 : List SP := [⟨[.tup [.int .i64, .int .i64]], []⟩]
noncomputable def F75 (N : Nat) : (ByteArray) → Option (Int × Int)
  | x0 =>
  Option.bind (F104 N (x0, ByteArray.mk #[(82 : UInt8), (70 : UInt8), (66 : UInt8), (32 : UInt8), (48 : UInt8), (48 : UInt8), (51 : UInt8), (46 : UInt8), (48 : UInt8), (48 : UInt8), (56 : UInt8), (10 : UInt8)])) fun y0 =>
  iteP (y0) (
    some (((12 : Int), (0 : Int)))) (
    Option.bind (F104 N (ByteArray.mk #[(82 : UInt8), (70 : UInt8), (66 : UInt8), (32 : UInt8), (48 : UInt8), (48 : UInt8), (51 : UInt8), (46 : UInt8), (48 : UInt8), (48 : UInt8), (56 : UInt8), (10 : UInt8)], x0)) fun y1 =>
    iteP (y1) (
      some (((0 : Int), (2 : Int)))) (
      some (((0 : Int), (220 : Int)))))
noncomputable def T75 (N : Nat) : Pk → Tr Pk := tellS s75 w75 (F75 N)
theorem T75_ok (N : Nat) : FOK Tryz.prog (75) (T75 N) :=
  (fn_ok2 ownT mix (tab75_ok N) Tryz.func75 s75 w75 [] (cuts := []) trivial (fun _ => by kernel_rfl) (by decide +kernel) (F75 N) (fun x => by kernel_rfl))
@[reducible] def s103 : SP := ⟨[.adr 0 [], .int .i64], [.var 62 (.agg [.adr 1 [], .str, .int .i64, .str, .str, .fv, .bool, .int .i64, .agg [.sl 2], .agg [.agg [.agg [.agg [.bool, .str]]]], .agg [.int .i64, .int .i64, .bool, .bool, .int .i64, .int .i64, .int .i64, .int .i64, .int .i64, .int .i64], .sl 3, .sl 4, .sl 5, .sl 6, .bool, .bool, .agg [.agg [.int .i64, .int .i64, .int .i64, .int .i64], .agg [.int .i64, .int .i64, .int .i64, .int .i64], .bool], .int .i64]), .var 100 (.agg [.int .i64, .int .i64, .sl 7]), .row y0 70, .row (.int .i64) 3, .row y1 58, .row y1 58, .row y1 58, .row (.int .i64) 3]⟩
noncomputable def tab103 (N : Nat) : List (Nat × (Pk → Tr Pk)) := []
theorem tab103_ok (N : Nat) : TabOK Tryz.prog (tab103 N) := trivial
@[reducible] def w103 : List SP := [⟨[.bool], [.var 62 (.agg [.adr 1 [], .str, .int .i64, .str, .str, .fv, .bool, .int .i64, .agg [.sl 2], .agg [.agg [.agg [.agg [.bool, .str]]]], .agg [.int .i64, .int .i64, .bool, .bool, .int .i64, .int .i64, .int .i64, .int .i64, .int .i64, .int .i64], .sl 3, .sl 4, .sl 5, .sl 6, .bool, .bool, .agg [.agg [.int .i64, .int .i64, .int .i64, .int .i64], .agg [.int .i64, .int .i64, .int .i64, .int .i64], .bool], .int .i64]), .var 100 (.agg [.int .i64, .int .i64, .sl 7]), .row y0 70, .row (.int .i64) 3, .row y1 58, .row y1 58, .row y1 58, .row (.int .i64) 3]⟩]
noncomputable def F103 (N : Nat) : (Int × ByteArray × Int × ByteArray × ByteArray × Nat × Bool × Int × Bool × ByteArray × Int × Int × Bool × Bool × Int × Int × Int × Int × Int × Int × Bool × Bool × Int × Int × Int × Int × Int × Int × Int × Int × Bool × Int × Int × Int × (List (Int × (Bool × (Int × ((Int × (Int × (Int × (Int × Unit)))) × ((Int × (Int × (Bool × (Bool × (Int × (Int × (Int × (Int × (Int × (Int × Unit)))))))))) × ((List Int) × (ByteArray × Unit)))))))) × (List Int) × (List (Int × (Int × (Int × (Int × Unit))))) × (List (Int × (Int × (Int × (Int × Unit))))) × (List (Int × (Int × (Int × (Int × Unit))))) × (List Int)) → Option (Bool × ByteArray × Int × ByteArray × ByteArray × Nat × Bool × Int × Bool × ByteArray × Int × Int × Bool × Bool × Int × Int × Int × Int × Int × Int × Bool × Bool × Int × Int × Int × Int × Int × Int × Int × Int × Bool × Int × Int × Int × (List (Int × (Bool × (Int × ((Int × (Int × (Int × (Int × Unit)))) × ((Int × (Int × (Bool × (Bool × (Int × (Int × (Int × (Int × (Int × (Int × Unit)))))))))) × ((List Int) × (ByteArray × Unit)))))))) × (List Int) × (List (Int × (Int × (Int × (Int × Unit))))) × (List (Int × (Int × (Int × (Int × Unit))))) × (List (Int × (Int × (Int × (Int × Unit))))) × (List Int))
  | (x0, x1, x2, x3, x4, x5, x6, x7, x8, x9, x10, x11, x12, x13, x14, x15, x16, x17, x18, x19, x20, x21, x22, x23, x24, x25, x26, x27, x28, x29, x30, x31, x32, x33, x34, x35, x36, x37, x38, x39) =>
  some ((false, x1, x2, ByteArray.mk #[], x4, x5, x6, x0, x8, x9, x10, x11, x12, x13, x14, x15, x16, x17, x18, x19, x20, x21, x22, x23, x24, x25, x26, x27, x28, x29, x30, x31, x32, x33, x34, x35, x36, x37, x38, x39))
noncomputable def T103 (N : Nat) : Pk → Tr Pk := tellS s103 w103 (F103 N)
theorem T103_ok (N : Nat) : FOK Tryz.prog (103) (T103 N) :=
  (fn_ok2 ownT mix (tab103_ok N) Tryz.func103 s103 w103 [0, 1] (cuts := []) trivial (fun _ => by kernel_rfl) (by decide +kernel) (F103 N) (fun x => by kernel_rfl))
@[reducible] def s74 : SP := ⟨[.adr 0 [], .int .i64, .int .i64], [.var 62 (.agg [.adr 1 [], .str, .int .i64, .str, .str, .fv, .bool, .int .i64, .agg [.sl 2], .agg [.agg [.agg [.agg [.bool, .str]]]], .agg [.int .i64, .int .i64, .bool, .bool, .int .i64, .int .i64, .int .i64, .int .i64, .int .i64, .int .i64], .sl 3, .sl 4, .sl 5, .sl 6, .bool, .bool, .agg [.agg [.int .i64, .int .i64, .int .i64, .int .i64], .agg [.int .i64, .int .i64, .int .i64, .int .i64], .bool], .int .i64]), .var 100 (.agg [.int .i64, .int .i64, .sl 7]), .row y0 70, .row (.int .i64) 3, .row y1 58, .row y1 58, .row y1 58, .row (.int .i64) 3]⟩
noncomputable def tab74 (N : Nat) : List (Nat × (Pk → Tr Pk)) := [(103, T103 N)]
theorem tab74_ok (N : Nat) : TabOK Tryz.prog (tab74 N) := ⟨T103_ok N, trivial⟩
@[reducible] def w74 : List SP := [⟨[.bool], [.var 62 (.agg [.adr 1 [], .str, .int .i64, .str, .str, .fv, .bool, .int .i64, .agg [.sl 2], .agg [.agg [.agg [.agg [.bool, .str]]]], .agg [.int .i64, .int .i64, .bool, .bool, .int .i64, .int .i64, .int .i64, .int .i64, .int .i64, .int .i64], .sl 3, .sl 4, .sl 5, .sl 6, .bool, .bool, .agg [.agg [.int .i64, .int .i64, .int .i64, .int .i64], .agg [.int .i64, .int .i64, .int .i64, .int .i64], .bool], .int .i64]), .var 100 (.agg [.int .i64, .int .i64, .sl 7]), .row y0 70, .row (.int .i64) 3, .row y1 58, .row y1 58, .row y1 58, .row (.int .i64) 3]⟩]
noncomputable def F74 (N : Nat) : (Int × Int × ByteArray × Int × ByteArray × ByteArray × Nat × Bool × Int × Bool × ByteArray × Int × Int × Bool × Bool × Int × Int × Int × Int × Int × Int × Bool × Bool × Int × Int × Int × Int × Int × Int × Int × Int × Bool × Int × Int × Int × (List (Int × (Bool × (Int × ((Int × (Int × (Int × (Int × Unit)))) × ((Int × (Int × (Bool × (Bool × (Int × (Int × (Int × (Int × (Int × (Int × Unit)))))))))) × ((List Int) × (ByteArray × Unit)))))))) × (List Int) × (List (Int × (Int × (Int × (Int × Unit))))) × (List (Int × (Int × (Int × (Int × Unit))))) × (List (Int × (Int × (Int × (Int × Unit))))) × (List Int)) → Option (Bool × ByteArray × Int × ByteArray × ByteArray × Nat × Bool × Int × Bool × ByteArray × Int × Int × Bool × Bool × Int × Int × Int × Int × Int × Int × Bool × Bool × Int × Int × Int × Int × Int × Int × Int × Int × Bool × Int × Int × Int × (List (Int × (Bool × (Int × ((Int × (Int × (Int × (Int × Unit)))) × ((Int × (Int × (Bool × (Bool × (Int × (Int × (Int × (Int × (Int × (Int × Unit)))))))))) × ((List Int) × (ByteArray × Unit)))))))) × (List Int) × (List (Int × (Int × (Int × (Int × Unit))))) × (List (Int × (Int × (Int × (Int × Unit))))) × (List (Int × (Int × (Int × (Int × Unit))))) × (List Int))
  | (x0, x1, x2, x3, x4, x5, x6, x7, x8, x9, x10, x11, x12, x13, x14, x15, x16, x17, x18, x19, x20, x21, x22, x23, x24, x25, x26, x27, x28, x29, x30, x31, x32, x33, x34, x35, x36, x37, x38, x39, x40) =>
  iteP (x1 == (0 : Int)) (
    iteP (decide ((0 : Int) ≤ x0 ∧ x0 ≤ (↑(ByteArray.size x4) : Int))) (
      some ((true, x2, x3, ByteArray.extract x4 (Int.toNat x0) (ByteArray.size x4), x5, x6, x7, x8, x9, x10, x11, x12, x13, x14, x15, x16, x17, x18, x19, x20, x21, x22, x23, x24, x25, x26, x27, x28, x29, x30, x31, x32, x33, x34, x35, x36, x37, x38, x39, x40))) (
      none )) (
    iteP (x1 == (2 : Int)) (
      some ((false, x2, x3, x4, x5, x6, x7, x8, x9, x10, x11, x12, x13, x14, x15, x16, x17, x18, x19, x20, x21, x22, x23, x24, x25, x26, x27, x28, x29, x30, x31, x32, x33, x34, x35, x36, x37, x38, x39, x40))) (
      Option.bind (F103 N (x1, x2, x3, x4, x5, x6, x7, x8, x9, x10, x11, x12, x13, x14, x15, x16, x17, x18, x19, x20, x21, x22, x23, x24, x25, x26, x27, x28, x29, x30, x31, x32, x33, x34, x35, x36, x37, x38, x39, x40)) fun (y0_0, y0_1, y0_2, y0_3, y0_4, y0_5, y0_6, y0_7, y0_8, y0_9, y0_10, y0_11, y0_12, y0_13, y0_14, y0_15, y0_16, y0_17, y0_18, y0_19, y0_20, y0_21, y0_22, y0_23, y0_24, y0_25, y0_26, y0_27, y0_28, y0_29, y0_30, y0_31, y0_32, y0_33, y0_34, y0_35, y0_36, y0_37, y0_38, y0_39) =>
      some ((y0_0, y0_1, y0_2, y0_3, y0_4, y0_5, y0_6, y0_7, y0_8, y0_9, y0_10, y0_11, y0_12, y0_13, y0_14, y0_15, y0_16, y0_17, y0_18, y0_19, y0_20, y0_21, y0_22, y0_23, y0_24, y0_25, y0_26, y0_27, y0_28, y0_29, y0_30, y0_31, y0_32, y0_33, y0_34, y0_35, y0_36, y0_37, y0_38, y0_39))))
noncomputable def T74 (N : Nat) : Pk → Tr Pk := tellS s74 w74 (F74 N)
theorem T74_ok (N : Nat) : FOK Tryz.prog (74) (T74 N) :=
  (fn_ok2 ownT mix (tab74_ok N) Tryz.func74 s74 w74 [0, 1] (cuts := []) trivial (fun _ => by kernel_rfl) (by decide +kernel) (F74 N) (fun x => by kernel_rfl))
@[reducible] def s105 : SP := ⟨[.adr 0 [], .bool, .int .i64], [.var 159 (.agg [.agg [.nilp, .sl 1], .int .i64]), .row (.int .u8) 5]⟩
noncomputable def tab105 (N : Nat) : List (Nat × (Pk → Tr Pk)) := []
theorem tab105_ok (N : Nat) : TabOK Tryz.prog (tab105 N) := trivial
@[reducible] def w105 : List SP := [⟨[.tup []], [.var 159 (.agg [.agg [.nilp, .sl 1], .int .i64]), .row (.int .u8) 5]⟩]
noncomputable def F105 (N : Nat) : (Bool × Int × Int × (List Int)) → Option (Int × (List Int))
  | (x0, x1, x2, x3) =>
  iteP (!x0) (
    iteP (x2 == (0 : Int)) (
      some ((x1, x3))) (
      some ((x2, x3)))) (
    some ((x2, x3)))
noncomputable def T105 (N : Nat) : Pk → Tr Pk := tellS s105 w105 (F105 N)
theorem T105_ok (N : Nat) : FOK Tryz.prog (105) (T105 N) :=
  (fn_ok2 ownT mix (tab105_ok N) Tryz.func105 s105 w105 [0] (cuts := []) trivial (fun _ => by kernel_rfl) (by decide +kernel) (F105 N) (fun x => by kernel_rfl))
@[reducible] def s116 : SP := ⟨[.int .i64], []⟩
noncomputable def tab116 (N : Nat) : List (Nat × (Pk → Tr Pk)) := []
theorem tab116_ok (N : Nat) : TabOK Tryz.prog (tab116 N) := trivial
@[reducible] def w116 : List SP := [⟨[.bool], []⟩]
noncomputable def F116 (N : Nat) : (Int) → Option (Bool)
  | x0 =>
  iteP (x0 == (1 : Int)) (
    some (true)) (
    iteP (x0 == (2 : Int)) (
      some (true)) (
      some (x0 == (4 : Int))))
noncomputable def T116 (N : Nat) : Pk → Tr Pk := tellS s116 w116 (F116 N)
theorem T116_ok (N : Nat) : FOK Tryz.prog (116) (T116 N) :=
  (fn_ok2 ownT mix (tab116_ok N) Tryz.func116 s116 w116 [] (cuts := []) trivial (fun _ => by kernel_rfl) (by decide +kernel) (F116 N) (fun x => by kernel_rfl))
@[reducible] def s152 : SP := ⟨[.int .i64, .int .i64], []⟩
noncomputable def tab152 (N : Nat) : List (Nat × (Pk → Tr Pk)) := [(116, T116 N)]
theorem tab152_ok (N : Nat) : TabOK Tryz.prog (tab152 N) := ⟨T116_ok N, trivial⟩
@[reducible] def L152_122 : LD := ⟨122, [25, 24, 6, 1], [(.ret, [4, 5]), (.exit 0, [6])], ⟨[.int .i64, .int .i64, .sl 0, .int .i64], [.row (.int .u8) 5]⟩, [(.exit 0, ⟨[.sl 0], [.row (.int .u8) 5]⟩)]⟩
abbrev P152_122 : Type := Int × Int × Int × (List Int)
abbrev R152_122 : Type := (List Int)
noncomputable def B152_122 (N : Nat) (f : P152_122 → Option R152_122) : P152_122 → Option R152_122
  | (x0, x1, x2, x3) =>
  iteP (decide (x0 < x1)) (
    iteP (decide (IntKind.wrap IntKind.i64 ((8 : Int) * x0) < (0 : Int))) (
      none ) (
      iteP (within x0 (List.length x3)) (
        Option.bind (x3[Int.toNat x0]?) fun y0 =>
        Option.bind (f (IntKind.wrap IntKind.i64 (x0 + (1 : Int)), x1, x2, List.set x3 (Int.toNat x0) (IntKind.wrap IntKind.u8 (Int.fdiv x2 ((2 : Int) ^ min (Int.toNat (IntKind.wrap IntKind.i64 ((8 : Int) * x0))) (64 : Nat)))))) fun r => some r) (
        none ))) (
    some (x3))
noncomputable def F152_122 (N : Nat) : Nat → P152_122 → Option R152_122
  | 0, _ => none
  | k + 1, x => B152_122 N (F152_122 N k) x
noncomputable def C152_122 (N : Nat) (k : Nat) : Cut := L152_122.cut (F152_122 N k)
theorem C152_122_ok (N : Nat) (k : Nat) : CutAt Tryz.prog false Tryz.f152 [] 122 (C152_122 N k) :=
  L152_122.loopT ownT mix (tab152_ok N) Tryz.f152 [] (cuts := []) trivial (by decide +kernel) (by kernel_rfl) (B152_122 N) (F152_122 N) (fun _ => rfl) (fun _ _ => rfl) (fun f x => by kernel_rfl) k
@[reducible] def w152 : List SP := [⟨[.tup [.str, .int .i64]], []⟩]
noncomputable def F152 (N : Nat) : (Int × Int) → Option (ByteArray × Int)
  | (x0, x1) =>
  Option.bind (F116 N x0) fun y0 =>
  iteP (!y0) (
    some ((ByteArray.mk #[], (1 : Int)))) (
    iteP (decide (x1 < (0 : Int))) (
      some ((ByteArray.mk #[], (1 : Int)))) (
      iteP (decide (IntKind.wrap IntKind.i64 ((8 : Int) * x0) < (0 : Int))) (
        none ) (
        iteP (Int.fdiv x1 ((2 : Int) ^ min (Int.toNat (IntKind.wrap IntKind.i64 ((8 : Int) * x0))) (64 : Nat)) != (0 : Int)) (
          some ((ByteArray.mk #[], (1 : Int)))) (
          iteP (decide ((0 : Int) ≤ x0 ∧ x0 ≤ x0 ∧ x0 * (1 : Int) ≤ (140737488355328 : Int) ∧ x0 ≤ (140737488355328 : Int))) (
            Option.bind (F152_122 N N ((0 : Int), x0, x1, List.replicate (Int.toNat x0) (0 : Int))) fun y1 =>
            some ((stringOf y1, (0 : Int)))) (
            none )))))
noncomputable def T152 (N : Nat) : Pk → Tr Pk := tellS s152 w152 (F152 N)
theorem T152_ok (N : Nat) : FOK Tryz.prog (152) (T152 N) :=
  (fn_ok2 ownT mix (tab152_ok N) Tryz.func152 s152 w152 [] (cuts := [(122, C152_122 N N)]) ⟨C152_122_ok N N, trivial⟩ (fun _ => by kernel_rfl) (by decide +kernel) (F152 N) (fun x => by kernel_rfl))
@[reducible] def s117 : SP := ⟨[.slp 0 .h .h], [.row (.int .u8) 5]⟩
noncomputable def tab117 (N : Nat) : List (Nat × (Pk → Tr Pk)) := []
theorem tab117_ok (N : Nat) : TabOK Tryz.prog (tab117 N) := trivial
@[reducible] def L117_6 : LD := ⟨6, [2, 3, 0], [(.exit 0, [])], ⟨[.int .i64, .int .i64, .slp 0 .h .h], [.row (.int .u8) 5]⟩, [(.exit 0, ⟨[], [.row (.int .u8) 5]⟩)]⟩
abbrev P117_6 : Type := Int × Int × Nat × Nat × (List Int)
abbrev R117_6 : Type := (List Int)
noncomputable def B117_6 (N : Nat) (f : P117_6 → Option R117_6) : P117_6 → Option R117_6
  | (x0, x1, x2, x3, x4) =>
  iteP (decide (x0 < x1)) (
    iteP (within x1 x3) (
      Option.bind (x4[x2 + Int.toNat x1]?) fun y0 =>
      iteP (within x0 x3) (
        Option.bind (x4[x2 + Int.toNat x0]?) fun y1 =>
        iteP (within x0 x3) (
          Option.bind (x4[x2 + Int.toNat x0]?) fun y2 =>
          iteP (within x1 x3) (
            Option.bind ((List.set x4 (x2 + Int.toNat x0) y0)[x2 + Int.toNat x1]?) fun y3 =>
            Option.bind (f (IntKind.wrap IntKind.i64 (x0 + (1 : Int)), IntKind.wrap IntKind.i64 (x1 - (1 : Int)), x2, x3, List.set (List.set x4 (x2 + Int.toNat x0) y0) (x2 + Int.toNat x1) y1)) fun r => some r) (
            none )) (
          none )) (
        none )) (
      none )) (
    some (x4))
noncomputable def F117_6 (N : Nat) : Nat → P117_6 → Option R117_6
  | 0, _ => none
  | k + 1, x => B117_6 N (F117_6 N k) x
noncomputable def C117_6 (N : Nat) (k : Nat) : Cut := L117_6.cut (F117_6 N k)
theorem C117_6_ok (N : Nat) (k : Nat) : CutAt Tryz.prog false Tryz.f117 [0] 6 (C117_6 N k) :=
  L117_6.loopT ownT mix (tab117_ok N) Tryz.f117 [0] (cuts := []) trivial (by decide +kernel) (by kernel_rfl) (B117_6 N) (F117_6 N) (fun _ => rfl) (fun _ _ => rfl) (fun f x => by kernel_rfl) k
@[reducible] def w117 : List SP := [⟨[.tup []], [.row (.int .u8) 5]⟩]
noncomputable def F117 (N : Nat) : (Nat × Nat × (List Int)) → Option ((List Int))
  | (x0, x1, x2) =>
  Option.bind (F117_6 N N ((0 : Int), IntKind.wrap IntKind.i64 ((↑x1 : Int) - (1 : Int)), x0, x1, x2)) fun y0 =>
  some (y0)
noncomputable def T117 (N : Nat) : Pk → Tr Pk := tellS s117 w117 (F117 N)
theorem T117_ok (N : Nat) : FOK Tryz.prog (117) (T117 N) :=
  (fn_ok2 ownT mix (tab117_ok N) Tryz.func117 s117 w117 [0] (cuts := [(6, C117_6 N N)]) ⟨C117_6_ok N N, trivial⟩ (fun _ => by kernel_rfl) (by decide +kernel) (F117 N) (fun x => by kernel_rfl))
@[reducible] def s88 : SP := ⟨[.str], []⟩
noncomputable def tab88 (N : Nat) : List (Nat × (Pk → Tr Pk)) := [(117, T117 N)]
theorem tab88_ok (N : Nat) : TabOK Tryz.prog (tab88 N) := ⟨T117_ok N, trivial⟩
@[reducible] def w88 : List SP := [⟨[.str], []⟩]
noncomputable def F88 (N : Nat) : (ByteArray) → Option (ByteArray)
  | x0 =>
  iteP (decide (ByteArray.size x0 ≤ (140737488355328 : Nat))) (
    Option.bind (F117 N ((0 : Nat), List.length (bytesOf x0), bytesOf x0)) fun y0 =>
    some (stringOf y0)) (
    none )
noncomputable def T88 (N : Nat) : Pk → Tr Pk := tellS s88 w88 (F88 N)
theorem T88_ok (N : Nat) : FOK Tryz.prog (88) (T88 N) :=
  (fn_ok2 ownT mix (tab88_ok N) Tryz.func88 s88 w88 [] (cuts := []) trivial (fun _ => by kernel_rfl) (by decide +kernel) (F88 N) (fun x => by kernel_rfl))
@[reducible] def s135 : SP := ⟨[.int .i64, .int .i64], []⟩
noncomputable def tab135 (N : Nat) : List (Nat × (Pk → Tr Pk)) := [(152, T152 N), (88, T88 N)]
theorem tab135_ok (N : Nat) : TabOK Tryz.prog (tab135 N) := ⟨T152_ok N, T88_ok N, trivial⟩
@[reducible] def w135 : List SP := [⟨[.tup [.str, .int .i64]], []⟩]
noncomputable def F135 (N : Nat) : (Int × Int) → Option (ByteArray × Int)
  | (x0, x1) =>
  Option.bind (F152 N (x0, x1)) fun y0 =>
  Option.bind (F88 N y0.1) fun y1 =>
  some ((y1, y0.2))
noncomputable def T135 (N : Nat) : Pk → Tr Pk := tellS s135 w135 (F135 N)
theorem T135_ok (N : Nat) : FOK Tryz.prog (135) (T135 N) :=
  (fn_ok2 ownT mix (tab135_ok N) Tryz.func135 s135 w135 [] (cuts := []) trivial (fun _ => by kernel_rfl) (by decide +kernel) (F135 N) (fun x => by kernel_rfl))
@[reducible] def s153 : SP := ⟨[.adr 0 [.f 0 0]], [.var 159 (.agg [.agg [.nilp, .sl 1], .int .i64]), .row (.int .u8) 5]⟩
noncomputable def tab153 (N : Nat) : List (Nat × (Pk → Tr Pk)) := []
theorem tab153_ok (N : Nat) : TabOK Tryz.prog (tab153 N) := trivial
@[reducible] def w153 : List SP := [⟨[.tup []], [.var 159 (.agg [.agg [.adr 0 [.f 0 0], .sl 1], .int .i64]), .row (.int .u8) 5]⟩]
noncomputable def F153 (N : Nat) : (Int × (List Int)) → Option (Int × (List Int))
  | (x0, x1) =>
  some ((x0, x1))
noncomputable def T153 (N : Nat) : Pk → Tr Pk := tellS s153 w153 (F153 N)
theorem T153_ok (N : Nat) : FOK Tryz.prog (153) (T153 N) :=
  (fn_ok2 ownT mix (tab153_ok N) Tryz.func153 s153 w153 [0] (cuts := []) trivial (fun _ => by kernel_rfl) (by decide +kernel) (F153 N) (fun x => by kernel_rfl))
@[reducible] def s136 : SP := ⟨[.adr 0 [.f 0 0], .str], [.var 159 (.agg [.agg [.nilp, .sl 1], .int .i64]), .row (.int .u8) 5]⟩
noncomputable def tab136 (N : Nat) : List (Nat × (Pk → Tr Pk)) := [(153, T153 N)]
theorem tab136_ok (N : Nat) : TabOK Tryz.prog (tab136 N) := ⟨T153_ok N, trivial⟩
@[reducible] def w136 : List SP := [⟨[.tup [.int .i64, .nili]], [.var 159 (.agg [.agg [.adr 0 [.f 0 0], .sl 1], .int .i64]), .row (.int .u8) 5]⟩]
noncomputable def F136 (N : Nat) : (ByteArray × Int × (List Int)) → Option (Int × Int × (List Int))
  | (x0, x1, x2) =>
  Option.bind (F153 N (x1, x2)) fun y0 =>
  iteP (decide ((List.length y0.2 + List.length (bytesOf x0)) * (1 : Nat) ≤ (140737488355328 : Nat) ∧ List.length y0.2 + List.length (bytesOf x0) ≤ (140737488355328 : Nat))) (
    some (((↑(ByteArray.size x0) : Int), y0.1, y0.2 ++ bytesOf x0))) (
    none )
noncomputable def T136 (N : Nat) : Pk → Tr Pk := tellS s136 w136 (F136 N)
theorem T136_ok (N : Nat) : FOK Tryz.prog (136) (T136 N) :=
  (fn_ok2 ownT mix (tab136_ok N) Tryz.func136 s136 w136 [0] (cuts := []) trivial (fun _ => by kernel_rfl) (by decide +kernel) (F136 N) (fun x => by kernel_rfl))
@[reducible] def s105a : SP := ⟨[.adr 0 [], .bool, .int .i64], [.var 159 (.agg [.agg [.adr 0 [.f 0 0], .sl 1], .int .i64]), .row (.int .u8) 5]⟩
noncomputable def tab105a (N : Nat) : List (Nat × (Pk → Tr Pk)) := []
theorem tab105a_ok (N : Nat) : TabOK Tryz.prog (tab105a N) := trivial
@[reducible] def w105a : List SP := [⟨[.tup []], [.var 159 (.agg [.agg [.adr 0 [.f 0 0], .sl 1], .int .i64]), .row (.int .u8) 5]⟩]
noncomputable def F105a (N : Nat) : (Bool × Int × Int × (List Int)) → Option (Int × (List Int))
  | (x0, x1, x2, x3) =>
  iteP (!x0) (
    iteP (x2 == (0 : Int)) (
      some ((x1, x3))) (
      some ((x2, x3)))) (
    some ((x2, x3)))
noncomputable def T105a (N : Nat) : Pk → Tr Pk := tellS s105a w105a (F105a N)
theorem T105a_ok (N : Nat) : FOK Tryz.prog (105) (T105a N) :=
  (fn_ok2 ownT mix (tab105a_ok N) Tryz.func105 s105a w105a [0, 0] (cuts := []) trivial (fun _ => by kernel_rfl) (by decide +kernel) (F105a N) (fun x => by kernel_rfl))
@[reducible] def s153a : SP := ⟨[.adr 0 [.f 0 0]], [.var 159 (.agg [.agg [.adr 0 [.f 0 0], .sl 1], .int .i64]), .row (.int .u8) 5]⟩
noncomputable def tab153a (N : Nat) : List (Nat × (Pk → Tr Pk)) := []
theorem tab153a_ok (N : Nat) : TabOK Tryz.prog (tab153a N) := trivial
@[reducible] def w153a : List SP := [⟨[.tup []], [.var 159 (.agg [.agg [.adr 0 [.f 0 0], .sl 1], .int .i64]), .row (.int .u8) 5]⟩]
noncomputable def F153a (N : Nat) : (Int × (List Int)) → Option (Int × (List Int))
  | (x0, x1) =>
  some ((x0, x1))
noncomputable def T153a (N : Nat) : Pk → Tr Pk := tellS s153a w153a (F153a N)
theorem T153a_ok (N : Nat) : FOK Tryz.prog (153) (T153a N) :=
  (fn_ok2 ownT mix (tab153a_ok N) Tryz.func153 s153a w153a [0, 0] (cuts := []) trivial (fun _ => by kernel_rfl) (by decide +kernel) (F153a N) (fun x => by kernel_rfl))
@[reducible] def s136a : SP := ⟨[.adr 0 [.f 0 0], .str], [.var 159 (.agg [.agg [.adr 0 [.f 0 0], .sl 1], .int .i64]), .row (.int .u8) 5]⟩
noncomputable def tab136a (N : Nat) : List (Nat × (Pk → Tr Pk)) := [(153, T153a N)]
theorem tab136a_ok (N : Nat) : TabOK Tryz.prog (tab136a N) := ⟨T153a_ok N, trivial⟩
@[reducible] def w136a : List SP := [⟨[.tup [.int .i64, .nili]], [.var 159 (.agg [.agg [.adr 0 [.f 0 0], .sl 1], .int .i64]), .row (.int .u8) 5]⟩]
noncomputable def F136a (N : Nat) : (ByteArray × Int × (List Int)) → Option (Int × Int × (List Int))
  | (x0, x1, x2) =>
  Option.bind (F153a N (x1, x2)) fun y0 =>
  iteP (decide ((List.length y0.2 + List.length (bytesOf x0)) * (1 : Nat) ≤ (140737488355328 : Nat) ∧ List.length y0.2 + List.length (bytesOf x0) ≤ (140737488355328 : Nat))) (
    some (((↑(ByteArray.size x0) : Int), y0.1, y0.2 ++ bytesOf x0))) (
    none )
noncomputable def T136a (N : Nat) : Pk → Tr Pk := tellS s136a w136a (F136a N)
theorem T136a_ok (N : Nat) : FOK Tryz.prog (136) (T136a N) :=
  (fn_ok2 ownT mix (tab136a_ok N) Tryz.func136 s136a w136a [0, 0] (cuts := []) trivial (fun _ => by kernel_rfl) (by decide +kernel) (F136a N) (fun x => by kernel_rfl))
@[reducible] def s106 : SP := ⟨[.adr 0 [], .int .i64, .ro (.int .i64)], [.var 159 (.agg [.agg [.nilp, .sl 1], .int .i64]), .row (.int .u8) 5]⟩
noncomputable def tab106 (N : Nat) : List (Nat × (Pk → Tr Pk)) := [(135, T135 N), (105, orT s105.I (T105 N) (T105a N)), (136, orT s136.I (T136 N) (T136a N))]
theorem tab106_ok (N : Nat) : TabOK Tryz.prog (tab106 N) := ⟨T135_ok N, orT_ok (T105_ok N) (T105a_ok N), orT_ok (T136_ok N) (T136a_ok N), trivial⟩
@[reducible] def L106_6n : LD := ⟨6, [12, 11, 10, 1, 0], [(.exit 0, [])], ⟨[.int .i64, .int .i64, .ro (.int .i64), .int .i64, .adr 0 []], [.var 159 (.agg [.agg [.adr 0 [.f 0 0], .sl 1], .int .i64]), .row (.int .u8) 5]⟩, [(.exit 0, ⟨[], [.var 159 (.agg [.agg [.adr 0 [.f 0 0], .sl 1], .int .i64]), .row (.int .u8) 5]⟩), (.exit 0, ⟨[], [.var 159 (.agg [.agg [.nilp, .sl 1], .int .i64]), .row (.int .u8) 5]⟩)]⟩
abbrev P106_6n : Type := Int × Int × (List Int) × Int × Int × (List Int)
abbrev R106_6n : Type := ((Int × (List Int)) ⊕ (Int × (List Int)))
noncomputable def B106_6n (N : Nat) (f : P106_6n → Option R106_6n) : P106_6n → Option R106_6n
  | (x0, x1, x2, x3, x4, x5) =>
  iteP (decide (x0 < x1)) (
    iteP (within x0 (List.length x2)) (
      Option.bind (x2[Int.toNat x0]?) fun y0 =>
      Option.bind (F135 N (x3, y0)) fun y1 =>
      Option.bind (F105a N (y1.2 == (0 : Int), (1 : Int), x4, x5)) fun y2 =>
      Option.bind (F136a N (y1.1, y2.1, y2.2)) fun y3 =>
      Option.bind (f (IntKind.wrap IntKind.i64 (x0 + (1 : Int)), x1, x2, x3, y3.2.1, y3.2.2)) fun r => match r with | .inl y => some (.inl y) | .inr y => some (.inr y)) (
      none )) (
    some (.inl ((x4, x5))))
noncomputable def F106_6n (N : Nat) : Nat → P106_6n → Option R106_6n
  | 0, _ => none
  | k + 1, x => B106_6n N (F106_6n N k) x
noncomputable def C106_6n (N : Nat) (k : Nat) : Cut := L106_6n.cut (F106_6n N k)
theorem C106_6n_ok (N : Nat) (k : Nat) : CutAt Tryz.prog false Tryz.f106 [0] 6 (C106_6n N k) :=
  L106_6n.loopT ownT mix (tab106_ok N) Tryz.f106 [0] (cuts := []) trivial (by decide +kernel) (by kernel_rfl) (B106_6n N) (F106_6n N) (fun _ => rfl) (fun _ _ => rfl) (fun f x => by kernel_rfl) k
@[reducible] def L106_6 : LD := ⟨6, L106_6n.live, L106_6n.out, ⟨[.int .i64, .int .i64, .ro (.int .i64), .int .i64, .adr 0 []], [.var 159 (.agg [.agg [.nilp, .sl 1], .int .i64]), .row (.int .u8) 5]⟩, L106_6n.w⟩
noncomputable def B106_6 (N : Nat) (f : (Int × Int × (List Int) × Int × Int × (List Int)) → Option (((Int × (List Int)) ⊕ (Int × (List Int))))) : (Int × Int × (List Int) × Int × Int × (List Int)) → Option (((Int × (List Int)) ⊕ (Int × (List Int))))
  | (x0, x1, x2, x3, x4, x5) =>
  iteP (decide (x0 < x1)) (
    iteP (within x0 (List.length x2)) (
      Option.bind (x2[Int.toNat x0]?) fun y0 =>
      Option.bind (F135 N (x3, y0)) fun y1 =>
      Option.bind (F105 N (y1.2 == (0 : Int), (1 : Int), x4, x5)) fun y2 =>
      Option.bind (F136 N (y1.1, y2.1, y2.2)) fun y3 =>
      Option.bind (f (IntKind.wrap IntKind.i64 (x0 + (1 : Int)), x1, x2, x3, y3.2.1, y3.2.2)) fun r => match r with | .inl y => some (.inl y) | .inr y => some (.inr y)) (
      none )) (
    some (.inr ((x4, x5))))
noncomputable def F106_6 (N : Nat) (k : Nat) : (Int × Int × (List Int) × Int × Int × (List Int)) → Option (((Int × (List Int)) ⊕ (Int × (List Int)))) := B106_6 N (F106_6n N k)
noncomputable def C106_6 (N : Nat) (k : Nat) : Cut := L106_6.cut (F106_6 N k)
theorem C106_6_ok (N : Nat) (k : Nat) : CutAt Tryz.prog false Tryz.f106 [0] 6 (C106_6 N k) :=
  L106_6.loop2T ownT mix (tab106_ok N) L106_6n.s Tryz.f106 [0] (cuts := [(6, C106_6n N N)]) ⟨C106_6n_ok N N, trivial⟩ (by decide +kernel) (by kernel_rfl) (B106_6 N) (B106_6n N) (F106_6n N) (fun _ => rfl) (fun _ _ => rfl) (fun f g x => by kernel_rfl) (fun f g x => by kernel_rfl) k
@[reducible] def w106 : List SP := [⟨[.tup []], [.var 159 (.agg [.agg [.adr 0 [.f 0 0], .sl 1], .int .i64]), .row (.int .u8) 5]⟩, ⟨[.tup []], [.var 159 (.agg [.agg [.nilp, .sl 1], .int .i64]), .row (.int .u8) 5]⟩]
noncomputable def F106 (N : Nat) : (Int × (List Int) × Int × (List Int)) → Option (((Int × (List Int)) ⊕ (Int × (List Int))))
  | (x0, x1, x2, x3) =>
  Option.bind (F106_6 N N ((0 : Int), (↑(List.length x1) : Int), x1, x0, x2, x3)) fun y0 =>
  match y0 with
  | .inl y1 =>
    some (.inl ((y1.1, y1.2)))
  | .inr y1 =>
    some (.inr ((y1.1, y1.2)))
noncomputable def T106 (N : Nat) : Pk → Tr Pk := tellS s106 w106 (F106 N)
theorem T106_ok (N : Nat) : FOK Tryz.prog (106) (T106 N) :=
  (fn_ok2 ownT mix (tab106_ok N) Tryz.func106 s106 w106 [0] (cuts := [(6, orC L106_6n.s.I (C106_6n N N) (C106_6 N N))]) ⟨fun c' h => orC_ok (C106_6n_ok N N c' h) (C106_6_ok N N c' h) rfl rfl, trivial⟩ (fun _ => by kernel_rfl) (by decide +kernel) (F106 N) (fun x => by kernel_rfl))
@[reducible] def s106a : SP := ⟨[.adr 0 [], .int .i64, .ro (.int .i64)], [.var 159 (.agg [.agg [.adr 0 [.f 0 0], .sl 1], .int .i64]), .row (.int .u8) 5]⟩
noncomputable def tab106a (N : Nat) : List (Nat × (Pk → Tr Pk)) := [(135, T135 N), (105, T105a N), (136, T136a N)]
theorem tab106a_ok (N : Nat) : TabOK Tryz.prog (tab106a N) := ⟨T135_ok N, T105a_ok N, T136a_ok N, trivial⟩
@[reducible] def L106a_6 : LD := ⟨6, [12, 11, 10, 1, 0], [(.exit 0, [])], ⟨[.int .i64, .int .i64, .ro (.int .i64), .int .i64, .adr 0 []], [.var 159 (.agg [.agg [.adr 0 [.f 0 0], .sl 1], .int .i64]), .row (.int .u8) 5]⟩, [(.exit 0, ⟨[], [.var 159 (.agg [.agg [.adr 0 [.f 0 0], .sl 1], .int .i64]), .row (.int .u8) 5]⟩)]⟩
abbrev P106a_6 : Type := Int × Int × (List Int) × Int × Int × (List Int)
abbrev R106a_6 : Type := Int × (List Int)
noncomputable def B106a_6 (N : Nat) (f : P106a_6 → Option R106a_6) : P106a_6 → Option R106a_6
  | (x0, x1, x2, x3, x4, x5) =>
  iteP (decide (x0 < x1)) (
    iteP (within x0 (List.length x2)) (
      Option.bind (x2[Int.toNat x0]?) fun y0 =>
      Option.bind (F135 N (x3, y0)) fun y1 =>
      Option.bind (F105a N (y1.2 == (0 : Int), (1 : Int), x4, x5)) fun y2 =>
      Option.bind (F136a N (y1.1, y2.1, y2.2)) fun y3 =>
      Option.bind (f (IntKind.wrap IntKind.i64 (x0 + (1 : Int)), x1, x2, x3, y3.2.1, y3.2.2)) fun r => some r) (
      none )) (
    some ((x4, x5)))
noncomputable def F106a_6 (N : Nat) : Nat → P106a_6 → Option R106a_6
  | 0, _ => none
  | k + 1, x => B106a_6 N (F106a_6 N k) x
noncomputable def C106a_6 (N : Nat) (k : Nat) : Cut := L106a_6.cut (F106a_6 N k)
theorem C106a_6_ok (N : Nat) (k : Nat) : CutAt Tryz.prog false Tryz.f106 [0, 0] 6 (C106a_6 N k) :=
  L106a_6.loopT ownT mix (tab106a_ok N) Tryz.f106 [0, 0] (cuts := []) trivial (by decide +kernel) (by kernel_rfl) (B106a_6 N) (F106a_6 N) (fun _ => rfl) (fun _ _ => rfl) (fun f x => by kernel_rfl) k
@[reducible] def w106a : List SP := [⟨[.tup []], [.var 159 (.agg [.agg [.adr 0 [.f 0 0], .sl 1], .int .i64]), .row (.int .u8) 5]⟩]
noncomputable def F106a (N : Nat) : (Int × (List Int) × Int × (List Int)) → Option (Int × (List Int))
  | (x0, x1, x2, x3) =>
  Option.bind (F106a_6 N N ((0 : Int), (↑(List.length x1) : Int), x1, x0, x2, x3)) fun y0 =>
  some ((y0.1, y0.2))
noncomputable def T106a (N : Nat) : Pk → Tr Pk := tellS s106a w106a (F106a N)
theorem T106a_ok (N : Nat) : FOK Tryz.prog (106) (T106a N) :=
  (fn_ok2 ownT mix (tab106a_ok N) Tryz.func106 s106a w106a [0, 0] (cuts := [(6, C106a_6 N N)]) ⟨C106a_6_ok N N, trivial⟩ (fun _ => by kernel_rfl) (by decide +kernel) (F106a N) (fun x => by kernel_rfl))
@[reducible] def s107 : SP := ⟨[.adr 0 []], [.var 159 (.agg [.agg [.adr 0 [.f 0 0], .sl 1], .int .i64]), .row (.int .u8) 5]⟩
noncomputable def tab107 (N : Nat) : List (Nat × (Pk → Tr Pk)) := []
theorem tab107_ok (N : Nat) : TabOK Tryz.prog (tab107 N) := trivial
@[reducible] def w107 : List SP := [⟨[.tup [.str, .int .i64]], [.var 159 (.agg [.agg [.adr 0 [.f 0 0], .sl 1], .int .i64]), .row (.int .u8) 5]⟩, ⟨[.tup [.str, .int .i64]], [.var 159 (.agg [.agg [.adr 0 [.f 0 0], .ro (.int .u8)], .int .i64])]⟩]
noncomputable def F107 (N : Nat) : (Int × (List Int)) → Option (((ByteArray × Int × Int × (List Int)) ⊕ (ByteArray × Int × (List Int) × Int)))
  | (x0, x1) =>
  iteP (x0 != (0 : Int)) (
    some (.inl ((ByteArray.mk #[], x0, x0, x1)))) (
    iteP (decide ((0 : Nat) < List.length x1 ∧ List.length x1 ≤ (140737488355328 : Nat))) (
      some (.inr ((stringOf x1, (0 : Int), x1, x0)))) (
      none ))
noncomputable def T107 (N : Nat) : Pk → Tr Pk := tellS s107 w107 (F107 N)
theorem T107_ok (N : Nat) : FOK Tryz.prog (107) (T107 N) :=
  (fn_ok2 ownT mix (tab107_ok N) Tryz.func107 s107 w107 [0, 0] (cuts := []) trivial (fun _ => by kernel_rfl) (by decide +kernel) (F107 N) (fun x => by kernel_rfl))
@[reducible] def s107a : SP := ⟨[.adr 0 []], [.var 159 (.agg [.agg [.nilp, .sl 1], .int .i64]), .row (.int .u8) 5]⟩
noncomputable def tab107a (N : Nat) : List (Nat × (Pk → Tr Pk)) := []
theorem tab107a_ok (N : Nat) : TabOK Tryz.prog (tab107a N) := trivial
@[reducible] def w107a : List SP := [⟨[.tup [.str, .int .i64]], [.var 159 (.agg [.agg [.nilp, .sl 1], .int .i64]), .row (.int .u8) 5]⟩, ⟨[.tup [.str, .int .i64]], [.var 159 (.agg [.agg [.nilp, .ro (.int .u8)], .int .i64])]⟩]
noncomputable def F107a (N : Nat) : (Int × (List Int)) → Option (((ByteArray × Int × Int × (List Int)) ⊕ (ByteArray × Int × (List Int) × Int)))
  | (x0, x1) =>
  iteP (x0 != (0 : Int)) (
    some (.inl ((ByteArray.mk #[], x0, x0, x1)))) (
    iteP (decide ((0 : Nat) < List.length x1 ∧ List.length x1 ≤ (140737488355328 : Nat))) (
      some (.inr ((stringOf x1, (0 : Int), x1, x0)))) (
      none ))
noncomputable def T107a (N : Nat) : Pk → Tr Pk := tellS s107a w107a (F107a N)
theorem T107a_ok (N : Nat) : FOK Tryz.prog (107) (T107a N) :=
  (fn_ok2 ownT mix (tab107a_ok N) Tryz.func107 s107a w107a [0] (cuts := []) trivial (fun _ => by kernel_rfl) (by decide +kernel) (F107a N) (fun x => by kernel_rfl))
@[reducible] def s76 : SP := ⟨[.ro (.int .i64)], []⟩
noncomputable def tab76 (N : Nat) : List (Nat × (Pk → Tr Pk)) := [(105, T105 N), (106, orT s106.I (T106 N) (T106a N)), (107, orT s107.I (T107 N) (T107a N))]
theorem tab76_ok (N : Nat) : TabOK Tryz.prog (tab76 N) := ⟨T105_ok N, orT_ok (T106_ok N) (T106a_ok N), orT_ok (T107_ok N) (T107a_ok N), trivial⟩
@[reducible] def w76 : List SP := [⟨[.tup [.str, .int .i64]], []⟩]
noncomputable def F76 (N : Nat) : ((List Int)) → Option (ByteArray × Int)
  | x0 =>
  Option.bind (F105 N (decide ((↑(List.length x0) : Int) > (0 : Int)), (1 : Int), (0 : Int), [])) fun y0 =>
  Option.bind (F106 N ((1 : Int), [(↑(List.length x0) : Int)], y0.1, y0.2)) fun y1 =>
  match y1 with
  | .inl y2 =>
    Option.bind (F106a N ((1 : Int), x0, y2.1, y2.2)) fun y3 =>
    Option.bind (F107 N (y3.1, y3.2)) fun y4 =>
    match y4 with
    | .inl y5 =>
      some ((y5.1, y5.2.1))
    | .inr y5 =>
      some ((y5.1, y5.2.1))
  | .inr y2 =>
    Option.bind (F106 N ((1 : Int), x0, y2.1, y2.2)) fun y6 =>
    match y6 with
    | .inl y7 =>
      Option.bind (F107 N (y7.1, y7.2)) fun y8 =>
      match y8 with
      | .inl y9 =>
        some ((y9.1, y9.2.1))
      | .inr y9 =>
        some ((y9.1, y9.2.1))
    | .inr y7 =>
      Option.bind (F107a N (y7.1, y7.2)) fun y10 =>
      match y10 with
      | .inl y11 =>
        some ((y11.1, y11.2.1))
      | .inr y11 =>
        some ((y11.1, y11.2.1))
noncomputable def T76 (N : Nat) : Pk → Tr Pk := tellS s76 w76 (F76 N)
theorem T76_ok (N : Nat) : FOK Tryz.prog (76) (T76 N) :=
  (fn_ok2 ownT mix (tab76_ok N) Tryz.func76 s76 w76 [] (cuts := []) trivial (fun _ => by kernel_rfl) (by decide +kernel) (F76 N) (fun x => by kernel_rfl))
@[reducible] def s36 : SP := ⟨[.adr 0 []], [.var 62 (.agg [.adr 1 [], .str, .int .i64, .str, .str, .fv, .bool, .int .i64, .agg [.sl 2], .agg [.agg [.agg [.agg [.bool, .str]]]], .agg [.int .i64, .int .i64, .bool, .bool, .int .i64, .int .i64, .int .i64, .int .i64, .int .i64, .int .i64], .sl 3, .sl 4, .sl 5, .sl 6, .bool, .bool, .agg [.agg [.int .i64, .int .i64, .int .i64, .int .i64], .agg [.int .i64, .int .i64, .int .i64, .int .i64], .bool], .int .i64]), .var 100 (.agg [.int .i64, .int .i64, .sl 7]), .row y0 70, .row (.int .i64) 3, .row y1 58, .row y1 58, .row y1 58, .row (.int .i64) 3]⟩
noncomputable def tab36 (N : Nat) : List (Nat × (Pk → Tr Pk)) := [(75, T75 N), (74, T74 N), (76, T76 N)]
theorem tab36_ok (N : Nat) : TabOK Tryz.prog (tab36 N) := ⟨T75_ok N, T74_ok N, T76_ok N, trivial⟩
@[reducible] def w36 : List SP := [⟨[.bool], [.var 62 (.agg [.adr 1 [], .str, .int .i64, .str, .str, .fv, .bool, .int .i64, .agg [.sl 2], .agg [.agg [.agg [.agg [.bool, .str]]]], .agg [.int .i64, .int .i64, .bool, .bool, .int .i64, .int .i64, .int .i64, .int .i64, .int .i64, .int .i64], .sl 3, .sl 4, .sl 5, .sl 6, .bool, .bool, .agg [.agg [.int .i64, .int .i64, .int .i64, .int .i64], .agg [.int .i64, .int .i64, .int .i64, .int .i64], .bool], .int .i64]), .var 100 (.agg [.int .i64, .int .i64, .sl 7]), .row y0 70, .row (.int .i64) 3, .row y1 58, .row y1 58, .row y1 58, .row (.int .i64) 3]⟩]
noncomputable def F36 (N : Nat) : (ByteArray × Int × ByteArray × ByteArray × Nat × Bool × Int × Bool × ByteArray × Int × Int × Bool × Bool × Int × Int × Int × Int × Int × Int × Bool × Bool × Int × Int × Int × Int × Int × Int × Int × Int × Bool × Int × Int × Int × (List (Int × (Bool × (Int × ((Int × (Int × (Int × (Int × Unit)))) × ((Int × (Int × (Bool × (Bool × (Int × (Int × (Int × (Int × (Int × (Int × Unit)))))))))) × ((List Int) × (ByteArray × Unit)))))))) × (List Int) × (List (Int × (Int × (Int × (Int × Unit))))) × (List (Int × (Int × (Int × (Int × Unit))))) × (List (Int × (Int × (Int × (Int × Unit))))) × (List Int)) → Option (Bool × ByteArray × Int × ByteArray × ByteArray × Nat × Bool × Int × Bool × ByteArray × Int × Int × Bool × Bool × Int × Int × Int × Int × Int × Int × Bool × Bool × Int × Int × Int × Int × Int × Int × Int × Int × Bool × Int × Int × Int × (List (Int × (Bool × (Int × ((Int × (Int × (Int × (Int × Unit)))) × ((Int × (Int × (Bool × (Bool × (Int × (Int × (Int × (Int × (Int × (Int × Unit)))))))))) × ((List Int) × (ByteArray × Unit)))))))) × (List Int) × (List (Int × (Int × (Int × (Int × Unit))))) × (List (Int × (Int × (Int × (Int × Unit))))) × (List (Int × (Int × (Int × (Int × Unit))))) × (List Int))
  | (x0, x1, x2, x3, x4, x5, x6, x7, x8, x9, x10, x11, x12, x13, x14, x15, x16, x17, x18, x19, x20, x21, x22, x23, x24, x25, x26, x27, x28, x29, x30, x31, x32, x33, x34, x35, x36, x37, x38) =>
  Option.bind (F75 N x2) fun y0 =>
  Option.bind (F74 N (y0.1, y0.2, x0, x1, x2, x3, x4, x5, x6, x7, x8, x9, x10, x11, x12, x13, x14, x15, x16, x17, x18, x19, x20, x21, x22, x23, x24, x25, x26, x27, x28, x29, x30, x31, x32, x33, x34, x35, x36, x37, x38)) fun (y1_0, y1_1, y1_2, y1_3, y1_4, y1_5, y1_6, y1_7, y1_8, y1_9, y1_10, y1_11, y1_12, y1_13, y1_14, y1_15, y1_16, y1_17, y1_18, y1_19, y1_20, y1_21, y1_22, y1_23, y1_24, y1_25, y1_26, y1_27, y1_28, y1_29, y1_30, y1_31, y1_32, y1_33, y1_34, y1_35, y1_36, y1_37, y1_38, y1_39) =>
  iteP (!y1_0) (
    some ((false, y1_1, y1_2, y1_3, y1_4, y1_5, y1_6, y1_7, y1_8, y1_9, y1_10, y1_11, y1_12, y1_13, y1_14, y1_15, y1_16, y1_17, y1_18, y1_19, y1_20, y1_21, y1_22, y1_23, y1_24, y1_25, y1_26, y1_27, y1_28, y1_29, y1_30, y1_31, y1_32, y1_33, y1_34, y1_35, y1_36, y1_37, y1_38, y1_39))) (
    Option.bind (F76 N [(1 : Int)]) fun y2 =>
    iteP (decide ((↑(ByteArray.size y1_4 + ByteArray.size y2.1) : Int) > (9223372036854775807 : Int))) (
      none ) (
      some ((true, y1_1, y1_2, y1_3, y1_4 ++ y2.1, (77 : Nat), y1_6, y1_7, y1_8, y1_9, y1_10, y1_11, y1_12, y1_13, y1_14, y1_15, y1_16, y1_17, y1_18, y1_19, y1_20, y1_21, y1_22, y1_23, y1_24, y1_25, y1_26, y1_27, y1_28, y1_29, y1_30, y1_31, y1_32, y1_33, y1_34, y1_35, y1_36, y1_37, y1_38, y1_39))))
noncomputable def T36 (N : Nat) : Pk → Tr Pk := tellS s36 w36 (F36 N)
theorem T36_ok (N : Nat) : FOK Tryz.prog (36) (T36 N) :=
  (fn_ok2 ownT mix (tab36_ok N) Tryz.func36 s36 w36 [0, 1] (cuts := []) trivial (fun _ => by kernel_rfl) (by decide +kernel) (F36 N) (fun x => by kernel_rfl))
@[reducible] def s108 : SP := ⟨[.adr 0 []], [.var 62 (.agg [.adr 1 [], .str, .int .i64, .str, .str, .fv, .bool, .int .i64, .agg [.sl 2], .agg [.agg [.agg [.agg [.bool, .str]]]], .agg [.int .i64, .int .i64, .bool, .bool, .int .i64, .int .i64, .int .i64, .int .i64, .int .i64, .int .i64], .sl 3, .sl 4, .sl 5, .sl 6, .bool, .bool, .agg [.agg [.int .i64, .int .i64, .int .i64, .int .i64], .agg [.int .i64, .int .i64, .int .i64, .int .i64], .bool], .int .i64]), .var 100 (.agg [.int .i64, .int .i64, .sl 7]), .row y0 70, .row (.int .i64) 3, .row y1 58, .row y1 58, .row y1 58, .row (.int .i64) 3]⟩
noncomputable def tab108 (N : Nat) : List (Nat × (Pk → Tr Pk)) := []
theorem tab108_ok (N : Nat) : TabOK Tryz.prog (tab108 N) := trivial
@[reducible] def w108 : List SP := [⟨[.tup [.int .u8, .bool]], [.var 62 (.agg [.adr 1 [], .str, .int .i64, .str, .str, .fv, .bool, .int .i64, .agg [.sl 2], .agg [.agg [.agg [.agg [.bool, .str]]]], .agg [.int .i64, .int .i64, .bool, .bool, .int .i64, .int .i64, .int .i64, .int .i64, .int .i64, .int .i64], .sl 3, .sl 4, .sl 5, .sl 6, .bool, .bool, .agg [.agg [.int .i64, .int .i64, .int .i64, .int .i64], .agg [.int .i64, .int .i64, .int .i64, .int .i64], .bool], .int .i64]), .var 100 (.agg [.int .i64, .int .i64, .sl 7]), .row y0 70, .row (.int .i64) 3, .row y1 58, .row y1 58, .row y1 58, .row (.int .i64) 3]⟩]
noncomputable def F108 (N : Nat) : (ByteArray × Int × ByteArray × ByteArray × Nat × Bool × Int × Bool × ByteArray × Int × Int × Bool × Bool × Int × Int × Int × Int × Int × Int × Bool × Bool × Int × Int × Int × Int × Int × Int × Int × Int × Bool × Int × Int × Int × (List (Int × (Bool × (Int × ((Int × (Int × (Int × (Int × Unit)))) × ((Int × (Int × (Bool × (Bool × (Int × (Int × (Int × (Int × (Int × (Int × Unit)))))))))) × ((List Int) × (ByteArray × Unit)))))))) × (List Int) × (List (Int × (Int × (Int × (Int × Unit))))) × (List (Int × (Int × (Int × (Int × Unit))))) × (List (Int × (Int × (Int × (Int × Unit))))) × (List Int)) → Option (Int × Bool × ByteArray × Int × ByteArray × ByteArray × Nat × Bool × Int × Bool × ByteArray × Int × Int × Bool × Bool × Int × Int × Int × Int × Int × Int × Bool × Bool × Int × Int × Int × Int × Int × Int × Int × Int × Bool × Int × Int × Int × (List (Int × (Bool × (Int × ((Int × (Int × (Int × (Int × Unit)))) × ((Int × (Int × (Bool × (Bool × (Int × (Int × (Int × (Int × (Int × (Int × Unit)))))))))) × ((List Int) × (ByteArray × Unit)))))))) × (List Int) × (List (Int × (Int × (Int × (Int × Unit))))) × (List (Int × (Int × (Int × (Int × Unit))))) × (List (Int × (Int × (Int × (Int × Unit))))) × (List Int))
  | (x0, x1, x2, x3, x4, x5, x6, x7, x8, x9, x10, x11, x12, x13, x14, x15, x16, x17, x18, x19, x20, x21, x22, x23, x24, x25, x26, x27, x28, x29, x30, x31, x32, x33, x34, x35, x36, x37, x38) =>
  iteP (ByteArray.toList x2 == []) (
    some (((0 : Int), false, x0, x1, x2, x3, x4, x5, x6, x7, x8, x9, x10, x11, x12, x13, x14, x15, x16, x17, x18, x19, x20, x21, x22, x23, x24, x25, x26, x27, x28, x29, x30, x31, x32, x33, x34, x35, x36, x37, x38))) (
    Option.bind (x2[(0 : Nat)]?) fun y0 =>
    iteP (decide ((0 : Int) ≤ (1 : Int) ∧ (1 : Int) ≤ (↑(ByteArray.size x2) : Int))) (
      some (((↑(UInt8.toNat y0) : Int), true, x0, x1, ByteArray.extract x2 (1 : Nat) (ByteArray.size x2), x3, x4, x5, x6, x7, x8, x9, x10, x11, x12, x13, x14, x15, x16, x17, x18, x19, x20, x21, x22, x23, x24, x25, x26, x27, x28, x29, x30, x31, x32, x33, x34, x35, x36, x37, x38))) (
      none ))
noncomputable def T108 (N : Nat) : Pk → Tr Pk := tellS s108 w108 (F108 N)
theorem T108_ok (N : Nat) : FOK Tryz.prog (108) (T108 N) :=
  (fn_ok2 ownT mix (tab108_ok N) Tryz.func108 s108 w108 [0, 1] (cuts := []) trivial (fun _ => by kernel_rfl) (by decide +kernel) (F108 N) (fun x => by kernel_rfl))
@[reducible] def s115 : SP := ⟨[.adr 0 [], .str], [.var 159 (.agg [.agg [.adr 0 [.f 0 0], .sl 1], .int .i64]), .row (.int .u8) 5]⟩
noncomputable def tab115 (N : Nat) : List (Nat × (Pk → Tr Pk)) := [(105, T105a N), (106, T106a N), (136, T136a N)]
theorem tab115_ok (N : Nat) : TabOK Tryz.prog (tab115 N) := ⟨T105a_ok N, T106a_ok N, T136a_ok N, trivial⟩
@[reducible] def w115 : List SP := [⟨[.tup []], [.var 159 (.agg [.agg [.adr 0 [.f 0 0], .sl 1], .int .i64]), .row (.int .u8) 5]⟩]
noncomputable def F115 (N : Nat) : (ByteArray × Int × (List Int)) → Option (Int × (List Int))
  | (x0, x1, x2) =>
  Option.bind (F105a N (decide ((↑(ByteArray.size x0) : Int) ≤ (4096 : Int)), (1 : Int), x1, x2)) fun y0 =>
  Option.bind (F106a N ((4 : Int), [(↑(ByteArray.size x0) : Int)], y0.1, y0.2)) fun y1 =>
  Option.bind (F136a N (x0, y1.1, y1.2)) fun y2 =>
  some ((y2.2.1, y2.2.2))
noncomputable def T115 (N : Nat) : Pk → Tr Pk := tellS s115 w115 (F115 N)
theorem T115_ok (N : Nat) : FOK Tryz.prog (115) (T115 N) :=
  (fn_ok2 ownT mix (tab115_ok N) Tryz.func115 s115 w115 [0, 0] (cuts := []) trivial (fun _ => by kernel_rfl) (by decide +kernel) (F115 N) (fun x => by kernel_rfl))
@[reducible] def s115a : SP := ⟨[.adr 0 [], .str], [.var 159 (.agg [.agg [.nilp, .sl 1], .int .i64]), .row (.int .u8) 5]⟩
noncomputable def tab115a (N : Nat) : List (Nat × (Pk → Tr Pk)) := [(105, T105 N), (106, T106 N), (136, orT s136a.I (T136a N) (T136 N))]
theorem tab115a_ok (N : Nat) : TabOK Tryz.prog (tab115a N) := ⟨T105_ok N, T106_ok N, orT_ok (T136a_ok N) (T136_ok N), trivial⟩
@[reducible] def w115a : List SP := [⟨[.tup []], [.var 159 (.agg [.agg [.adr 0 [.f 0 0], .sl 1], .int .i64]), .row (.int .u8) 5]⟩]
noncomputable def F115a (N : Nat) : (ByteArray × Int × (List Int)) → Option (Int × (List Int))
  | (x0, x1, x2) =>
  Option.bind (F105 N (decide ((↑(ByteArray.size x0) : Int) ≤ (4096 : Int)), (1 : Int), x1, x2)) fun y0 =>
  Option.bind (F106 N ((4 : Int), [(↑(ByteArray.size x0) : Int)], y0.1, y0.2)) fun y1 =>
  match y1 with
  | .inl y2 =>
    Option.bind (F136a N (x0, y2.1, y2.2)) fun y3 =>
    some ((y3.2.1, y3.2.2))
  | .inr y2 =>
    Option.bind (F136 N (x0, y2.1, y2.2)) fun y4 =>
    some ((y4.2.1, y4.2.2))
noncomputable def T115a (N : Nat) : Pk → Tr Pk := tellS s115a w115a (F115a N)
theorem T115a_ok (N : Nat) : FOK Tryz.prog (115) (T115a N) :=
  (fn_ok2 ownT mix (tab115a_ok N) Tryz.func115 s115a w115a [0] (cuts := []) trivial (fun _ => by kernel_rfl) (by decide +kernel) (F115a N) (fun x => by kernel_rfl))
@[reducible] def s109 : SP := ⟨[.str], []⟩
noncomputable def tab109 (N : Nat) : List (Nat × (Pk → Tr Pk)) := [(106, T106 N), (115, orT s115.I (T115 N) (T115a N))]
theorem tab109_ok (N : Nat) : TabOK Tryz.prog (tab109 N) := ⟨T106_ok N, orT_ok (T115_ok N) (T115a_ok N), trivial⟩
@[reducible] def w109 : List SP := [⟨[.str], []⟩]
noncomputable def F109 (N : Nat) : (ByteArray) → Option (ByteArray)
  | x0 =>
  iteP (ByteArray.toList x0 == []) (
    Option.bind (F106 N ((4 : Int), [(0 : Int)], (0 : Int), [])) fun y0 =>
    match y0 with
    | .inl y1 =>
      iteP (decide ((0 : Nat) < List.length y1.2 ∧ List.length y1.2 ≤ (140737488355328 : Nat))) (
        some (stringOf y1.2)) (
        none )
    | .inr y1 =>
      iteP (decide ((0 : Nat) < List.length y1.2 ∧ List.length y1.2 ≤ (140737488355328 : Nat))) (
        some (stringOf y1.2)) (
        none )) (
    Option.bind (F106 N ((4 : Int), [(1 : Int)], (0 : Int), [])) fun y2 =>
    match y2 with
    | .inl y3 =>
      iteP (decide (((0 : Int) ≤ if (4096 : Int) < (↑(ByteArray.size x0) : Int) then (4096 : Int) else (↑(ByteArray.size x0) : Int)) ∧ (if (4096 : Int) < (↑(ByteArray.size x0) : Int) then (4096 : Int) else (↑(ByteArray.size x0) : Int)) ≤ (↑(ByteArray.size x0) : Int))) (
        Option.bind (F115 N (ByteArray.extract x0 (0 : Nat) (Int.toNat (if (4096 : Int) < (↑(ByteArray.size x0) : Int) then (4096 : Int) else (↑(ByteArray.size x0) : Int))), y3.1, y3.2)) fun y4 =>
        iteP (decide ((0 : Nat) < List.length y4.2 ∧ List.length y4.2 ≤ (140737488355328 : Nat))) (
          some (stringOf y4.2)) (
          none )) (
        none )
    | .inr y3 =>
      iteP (decide (((0 : Int) ≤ if (4096 : Int) < (↑(ByteArray.size x0) : Int) then (4096 : Int) else (↑(ByteArray.size x0) : Int)) ∧ (if (4096 : Int) < (↑(ByteArray.size x0) : Int) then (4096 : Int) else (↑(ByteArray.size x0) : Int)) ≤ (↑(ByteArray.size x0) : Int))) (
        Option.bind (F115a N (ByteArray.extract x0 (0 : Nat) (Int.toNat (if (4096 : Int) < (↑(ByteArray.size x0) : Int) then (4096 : Int) else (↑(ByteArray.size x0) : Int))), y3.1, y3.2)) fun y5 =>
        iteP (decide ((0 : Nat) < List.length y5.2 ∧ List.length y5.2 ≤ (140737488355328 : Nat))) (
          some (stringOf y5.2)) (
          none )) (
        none ))
noncomputable def T109 (N : Nat) : Pk → Tr Pk := tellS s109 w109 (F109 N)
theorem T109_ok (N : Nat) : FOK Tryz.prog (109) (T109 N) :=
  (fn_ok2 ownT mix (tab109_ok N) Tryz.func109 s109 w109 [] (cuts := []) trivial (fun _ => by kernel_rfl) (by decide +kernel) (F109 N) (fun x => by kernel_rfl))
@[reducible] def s77 : SP := ⟨[.adr 0 []], [.var 62 (.agg [.adr 1 [], .str, .int .i64, .str, .str, .fv, .bool, .int .i64, .agg [.sl 2], .agg [.agg [.agg [.agg [.bool, .str]]]], .agg [.int .i64, .int .i64, .bool, .bool, .int .i64, .int .i64, .int .i64, .int .i64, .int .i64, .int .i64], .sl 3, .sl 4, .sl 5, .sl 6, .bool, .bool, .agg [.agg [.int .i64, .int .i64, .int .i64, .int .i64], .agg [.int .i64, .int .i64, .int .i64, .int .i64], .bool], .int .i64]), .var 100 (.agg [.int .i64, .int .i64, .sl 7]), .row y0 70, .row (.int .i64) 3, .row y1 58, .row y1 58, .row y1 58, .row (.int .i64) 3]⟩
noncomputable def tab77 (N : Nat) : List (Nat × (Pk → Tr Pk)) := [(108, T108 N), (109, T109 N), (103, T103 N)]
theorem tab77_ok (N : Nat) : TabOK Tryz.prog (tab77 N) := ⟨T108_ok N, T109_ok N, T103_ok N, trivial⟩
@[reducible] def w77 : List SP := [⟨[.bool], [.var 62 (.agg [.adr 1 [], .str, .int .i64, .str, .str, .fv, .bool, .int .i64, .agg [.sl 2], .agg [.agg [.agg [.agg [.bool, .str]]]], .agg [.int .i64, .int .i64, .bool, .bool, .int .i64, .int .i64, .int .i64, .int .i64, .int .i64, .int .i64], .sl 3, .sl 4, .sl 5, .sl 6, .bool, .bool, .agg [.agg [.int .i64, .int .i64, .int .i64, .int .i64], .agg [.int .i64, .int .i64, .int .i64, .int .i64], .bool], .int .i64]), .var 100 (.agg [.int .i64, .int .i64, .sl 7]), .row y0 70, .row (.int .i64) 3, .row y1 58, .row y1 58, .row y1 58, .row (.int .i64) 3]⟩]
noncomputable def F77 (N : Nat) : (ByteArray × Int × ByteArray × ByteArray × Nat × Bool × Int × Bool × ByteArray × Int × Int × Bool × Bool × Int × Int × Int × Int × Int × Int × Bool × Bool × Int × Int × Int × Int × Int × Int × Int × Int × Bool × Int × Int × Int × (List (Int × (Bool × (Int × ((Int × (Int × (Int × (Int × Unit)))) × ((Int × (Int × (Bool × (Bool × (Int × (Int × (Int × (Int × (Int × (Int × Unit)))))))))) × ((List Int) × (ByteArray × Unit)))))))) × (List Int) × (List (Int × (Int × (Int × (Int × Unit))))) × (List (Int × (Int × (Int × (Int × Unit))))) × (List (Int × (Int × (Int × (Int × Unit))))) × (List Int)) → Option (Bool × ByteArray × Int × ByteArray × ByteArray × Nat × Bool × Int × Bool × ByteArray × Int × Int × Bool × Bool × Int × Int × Int × Int × Int × Int × Bool × Bool × Int × Int × Int × Int × Int × Int × Int × Int × Bool × Int × Int × Int × (List (Int × (Bool × (Int × ((Int × (Int × (Int × (Int × Unit)))) × ((Int × (Int × (Bool × (Bool × (Int × (Int × (Int × (Int × (Int × (Int × Unit)))))))))) × ((List Int) × (ByteArray × Unit)))))))) × (List Int) × (List (Int × (Int × (Int × (Int × Unit))))) × (List (Int × (Int × (Int × (Int × Unit))))) × (List (Int × (Int × (Int × (Int × Unit))))) × (List Int))
  | (x0, x1, x2, x3, x4, x5, x6, x7, x8, x9, x10, x11, x12, x13, x14, x15, x16, x17, x18, x19, x20, x21, x22, x23, x24, x25, x26, x27, x28, x29, x30, x31, x32, x33, x34, x35, x36, x37, x38) =>
  Option.bind (F108 N (x0, x1, x2, x3, x4, x5, x6, x7, x8, x9, x10, x11, x12, x13, x14, x15, x16, x17, x18, x19, x20, x21, x22, x23, x24, x25, x26, x27, x28, x29, x30, x31, x32, x33, x34, x35, x36, x37, x38)) fun (y0_0, y0_1, y0_2, y0_3, y0_4, y0_5, y0_6, y0_7, y0_8, y0_9, y0_10, y0_11, y0_12, y0_13, y0_14, y0_15, y0_16, y0_17, y0_18, y0_19, y0_20, y0_21, y0_22, y0_23, y0_24, y0_25, y0_26, y0_27, y0_28, y0_29, y0_30, y0_31, y0_32, y0_33, y0_34, y0_35, y0_36, y0_37, y0_38, y0_39, y0_40) =>
  iteP (!y0_1) (
    some ((false, y0_2, y0_3, y0_4, y0_5, y0_6, y0_7, y0_8, y0_9, y0_10, y0_11, y0_12, y0_13, y0_14, y0_15, y0_16, y0_17, y0_18, y0_19, y0_20, y0_21, y0_22, y0_23, y0_24, y0_25, y0_26, y0_27, y0_28, y0_29, y0_30, y0_31, y0_32, y0_33, y0_34, y0_35, y0_36, y0_37, y0_38, y0_39, y0_40))) (
    iteP (y0_0 != (1 : Int)) (
      Option.bind (F109 N (ByteArray.mk #[(115 : UInt8), (101 : UInt8), (99 : UInt8), (117 : UInt8), (114 : UInt8), (105 : UInt8), (116 : UInt8), (121 : UInt8)])) fun y1 =>
      iteP (decide ((↑(ByteArray.size y0_5 + ByteArray.size y1) : Int) > (9223372036854775807 : Int))) (
        none ) (
        Option.bind (F103 N ((221 : Int), y0_2, y0_3, y0_4, y0_5 ++ y1, y0_6, y0_7, y0_8, y0_9, y0_10, y0_11, y0_12, y0_13, y0_14, y0_15, y0_16, y0_17, y0_18, y0_19, y0_20, y0_21, y0_22, y0_23, y0_24, y0_25, y0_26, y0_27, y0_28, y0_29, y0_30, y0_31, y0_32, y0_33, y0_34, y0_35, y0_36, y0_37, y0_38, y0_39, y0_40)) fun (y2_0, y2_1, y2_2, y2_3, y2_4, y2_5, y2_6, y2_7, y2_8, y2_9, y2_10, y2_11, y2_12, y2_13, y2_14, y2_15, y2_16, y2_17, y2_18, y2_19, y2_20, y2_21, y2_22, y2_23, y2_24, y2_25, y2_26, y2_27, y2_28, y2_29, y2_30, y2_31, y2_32, y2_33, y2_34, y2_35, y2_36, y2_37, y2_38, y2_39) =>
        some ((y2_0, y2_1, y2_2, y2_3, y2_4, y2_5, y2_6, y2_7, y2_8, y2_9, y2_10, y2_11, y2_12, y2_13, y2_14, y2_15, y2_16, y2_17, y2_18, y2_19, y2_20, y2_21, y2_22, y2_23, y2_24, y2_25, y2_26, y2_27, y2_28, y2_29, y2_30, y2_31, y2_32, y2_33, y2_34, y2_35, y2_36, y2_37, y2_38, y2_39)))) (
      Option.bind (F109 N (ByteArray.mk #[])) fun y3 =>
      iteP (decide ((↑(ByteArray.size y0_5 + ByteArray.size y3) : Int) > (9223372036854775807 : Int))) (
        none ) (
        some ((true, y0_2, y0_3, y0_4, y0_5 ++ y3, (110 : Nat), y0_7, y0_8, y0_9, y0_10, y0_11, y0_12, y0_13, y0_14, y0_15, y0_16, y0_17, y0_18, y0_19, y0_20, y0_21, y0_22, y0_23, y0_24, y0_25, y0_26, y0_27, y0_28, y0_29, y0_30, y0_31, y0_32, y0_33, y0_34, y0_35, y0_36, y0_37, y0_38, y0_39, y0_40)))))
noncomputable def T77 (N : Nat) : Pk → Tr Pk := tellS s77 w77 (F77 N)
theorem T77_ok (N : Nat) : FOK Tryz.prog (77) (T77 N) :=
  (fn_ok2 ownT mix (tab77_ok N) Tryz.func77 s77 w77 [0, 1] (cuts := []) trivial (fun _ => by kernel_rfl) (by decide +kernel) (F77 N) (fun x => by kernel_rfl))
@[reducible] def y2 : Ty := (.cons (.int .i64) (.cons (.int .i64) (.cons (.sl (.int .i64)) .unit)))
@[reducible] def s130 : SP := ⟨[.radr y2 [.i 0 3]], []⟩
noncomputable def tab130 (N : Nat) : List (Nat × (Pk → Tr Pk)) := []
theorem tab130_ok (N : Nat) : TabOK Tryz.prog (tab130 N) := trivial
@[reducible] def w130 : List SP := [⟨[.tup [.int .i64, .int .i64]], []⟩]
noncomputable def F130 (N : Nat) : ((Int × (Int × ((List Int) × Unit)))) → Option (Int × Int)
  | x0 =>
  some ((x0.1, x0.2.1))
noncomputable def T130 (N : Nat) : Pk → Tr Pk := tellS s130 w130 (F130 N)
theorem T130_ok (N : Nat) : FOK Tryz.prog (130) (T130 N) :=
  (fn_ok2 ownT mix (tab130_ok N) Tryz.func130 s130 w130 [] (cuts := []) trivial (fun _ => by kernel_rfl) (by decide +kernel) (F130 N) (fun x => by kernel_rfl))
@[reducible] def s138 : SP := ⟨[], []⟩
noncomputable def tab138 (N : Nat) : List (Nat × (Pk → Tr Pk)) := []
theorem tab138_ok (N : Nat) : TabOK Tryz.prog (tab138 N) := trivial
@[reducible] def w138 : List SP := [⟨[.agg [.int .i64, .int .i64, .bool, .bool, .int .i64, .int .i64, .int .i64, .int .i64, .int .i64, .int .i64]], []⟩]
noncomputable def F138 (N : Nat) : (Unit) → Option (Int × Int × Bool × Bool × Int × Int × Int × Int × Int × Int)
  | () =>
  some (((32 : Int), (24 : Int), false, true, (255 : Int), (255 : Int), (255 : Int), (16 : Int), (8 : Int), (0 : Int)))
noncomputable def T138 (N : Nat) : Pk → Tr Pk := tellS s138 w138 (F138 N)
theorem T138_ok (N : Nat) : FOK Tryz.prog (138) (T138 N) :=
  (fn_ok2 ownT mix (tab138_ok N) Tryz.func138 s138 w138 [] (cuts := []) trivial (fun _ => by kernel_rfl) (by decide +kernel) (F138 N) (fun x => by kernel_rfl))
@[reducible] def y3 : Ty := (.cons (.int .i64) (.cons (.int .i64) .unit))
@[reducible] def s131 : SP := ⟨[.agg [.int .i64, .int .i64, .bool, .bool, .int .i64, .int .i64, .int .i64, .int .i64, .int .i64, .int .i64]], []⟩
noncomputable def tab131 (N : Nat) : List (Nat × (Pk → Tr Pk)) := []
theorem tab131_ok (N : Nat) : TabOK Tryz.prog (tab131 N) := trivial
@[reducible] def w131 : List SP := [⟨[.arr y3 3], []⟩]
noncomputable def F131 (N : Nat) : (Int × Int × Bool × Bool × Int × Int × Int × Int × Int × Int) → Option ((List (Int × (Int × Unit))))
  | (x0, x1, x2, x3, x4, x5, x6, x7, x8, x9) =>
  some ([(x4, x7, ()), (x5, x8, ()), (x6, x9, ())])
noncomputable def T131 (N : Nat) : Pk → Tr Pk := tellS s131 w131 (F131 N)
theorem T131_ok (N : Nat) : FOK Tryz.prog (131) (T131 N) :=
  (fn_ok2 ownT mix (tab131_ok N) Tryz.func131 s131 w131 [] (cuts := []) trivial (fun _ => by kernel_rfl) (by decide +kernel) (F131 N) (fun x => by kernel_rfl))
@[reducible] def s167 : SP := ⟨[.int .u64], []⟩
noncomputable def tab167 (N : Nat) : List (Nat × (Pk → Tr Pk)) := []
theorem tab167_ok (N : Nat) : TabOK Tryz.prog (tab167 N) := trivial
@[reducible] def w167 : List SP := [⟨[.int .i64], []⟩]
noncomputable def F167 (N : Nat) : (Int) → Option (Int)
  | x0 =>
  iteP (decide (x0 ≥ (4294967296 : Int))) (
    iteP (decide (Int.fdiv x0 (4294967296 : Int) ≥ (65536 : Int))) (
      iteP (decide (Int.fdiv (Int.fdiv x0 (4294967296 : Int)) (65536 : Int) ≥ (256 : Int))) (
        iteP (decide ((0 : Int) ≤ IntKind.wrap IntKind.u8 (Int.fdiv (Int.fdiv (Int.fdiv x0 (4294967296 : Int)) (65536 : Int)) (256 : Int)))) (
          Option.bind ((ByteArray.mk #[(0 : UInt8), (1 : UInt8), (2 : UInt8), (2 : UInt8), (3 : UInt8), (3 : UInt8), (3 : UInt8), (3 : UInt8), (4 : UInt8), (4 : UInt8), (4 : UInt8), (4 : UInt8), (4 : UInt8), (4 : UInt8), (4 : UInt8), (4 : UInt8), (5 : UInt8), (5 : UInt8), (5 : UInt8), (5 : UInt8), (5 : UInt8), (5 : UInt8), (5 : UInt8), (5 : UInt8), (5 : UInt8), (5 : UInt8), (5 : UInt8), (5 : UInt8), (5 : UInt8), (5 : UInt8), (5 : UInt8), (5 : UInt8), (6 : UInt8), (6 : UInt8), (6 : UInt8), (6 : UInt8), (6 : UInt8), (6 : UInt8), (6 : UInt8), (6 : UInt8), (6 : UInt8), (6 : UInt8), (6 : UInt8), (6 : UInt8), (6 : UInt8), (6 : UInt8), (6 : UInt8), (6 : UInt8), (6 : UInt8), (6 : UInt8), (6 : UInt8), (6 : UInt8), (6 : UInt8), (6 : UInt8), (6 : UInt8), (6 : UInt8), (6 : UInt8), (6 : UInt8), (6 : UInt8), (6 : UInt8), (6 : UInt8), (6 : UInt8), (6 : UInt8), (6 : UInt8), (7 : UInt8), (7 : UInt8), (7 : UInt8), (7 : UInt8), (7 : UInt8), (7 : UInt8), (7 : UInt8), (7 : UInt8), (7 : UInt8), (7 : UInt8), (7 : UInt8), (7 : UInt8), (7 : UInt8), (7 : UInt8), (7 : UInt8), (7 : UInt8), (7 : UInt8), (7 : UInt8), (7 : UInt8), (7 : UInt8), (7 : UInt8), (7 : UInt8), (7 : UInt8), (7 : UInt8), (7 : UInt8), (7 : UInt8), (7 : UInt8), (7 : UInt8), (7 : UInt8), (7 : UInt8), (7 : UInt8), (7 : UInt8), (7 : UInt8), (7 : UInt8), (7 : UInt8), (7 : UInt8), (7 : UInt8), (7 : UInt8), (7 : UInt8), (7 : UInt8), (7 : UInt8), (7 : UInt8), (7 : UInt8), (7 : UInt8), (7 : UInt8), (7 : UInt8), (7 : UInt8), (7 : UInt8), (7 : UInt8), (7 : UInt8), (7 : UInt8), (7 : UInt8), (7 : UInt8), (7 : UInt8), (7 : UInt8), (7 : UInt8), (7 : UInt8), (7 : UInt8), (7 : UInt8), (7 : UInt8), (7 : UInt8), (7 : UInt8), (7 : UInt8), (7 : UInt8), (8 : UInt8), (8 : UInt8), (8 : UInt8), (8 : UInt8), (8 : UInt8), (8 : UInt8), (8 : UInt8), (8 : UInt8), (8 : UInt8), (8 : UInt8), (8 : UInt8), (8 : UInt8), (8 : UInt8), (8 : UInt8), (8 : UInt8), (8 : UInt8), (8 : UInt8), (8 : UInt8), (8 : UInt8), (8 : UInt8), (8 : UInt8), (8 : UInt8), (8 : UInt8), (8 : UInt8), (8 : UInt8), (8 : UInt8), (8 : UInt8), (8 : UInt8), (8 : UInt8), (8 : UInt8), (8 : UInt8), (8 : UInt8), (8 : UInt8), (8 : UInt8), (8 : UInt8), (8 : UInt8), (8 : UInt8), (8 : UInt8), (8 : UInt8), (8 : UInt8), (8 : UInt8), (8 : UInt8), (8 : UInt8), (8 : UInt8), (8 : UInt8), (8 : UInt8), (8 : UInt8), (8 : UInt8), (8 : UInt8), (8 : UInt8), (8 : UInt8), (8 : UInt8), (8 : UInt8), (8 : UInt8), (8 : UInt8), (8 : UInt8), (8 : UInt8), (8 : UInt8), (8 : UInt8), (8 : UInt8), (8 : UInt8), (8 : UInt8), (8 : UInt8), (8 : UInt8), (8 : UInt8), (8 : UInt8), (8 : UInt8), (8 : UInt8), (8 : UInt8), (8 : UInt8), (8 : UInt8), (8 : UInt8), (8 : UInt8), (8 : UInt8), (8 : UInt8), (8 : UInt8), (8 : UInt8), (8 : UInt8), (8 : UInt8), (8 : UInt8), (8 : UInt8), (8 : UInt8), (8 : UInt8), (8 : UInt8), (8 : UInt8), (8 : UInt8), (8 : UInt8), (8 : UInt8), (8 : UInt8), (8 : UInt8), (8 : UInt8), (8 : UInt8), (8 : UInt8), (8 : UInt8), (8 : UInt8), (8 : UInt8), (8 : UInt8), (8 : UInt8), (8 : UInt8), (8 : UInt8), (8 : UInt8), (8 : UInt8), (8 : UInt8), (8 : UInt8), (8 : UInt8), (8 : UInt8), (8 : UInt8), (8 : UInt8), (8 : UInt8), (8 : UInt8), (8 : UInt8), (8 : UInt8), (8 : UInt8), (8 : UInt8), (8 : UInt8), (8 : UInt8), (8 : UInt8), (8 : UInt8), (8 : UInt8), (8 : UInt8), (8 : UInt8), (8 : UInt8), (8 : UInt8), (8 : UInt8), (8 : UInt8), (8 : UInt8), (8 : UInt8), (8 : UInt8)])[Int.toNat (IntKind.wrap IntKind.u8 (Int.fdiv (Int.fdiv (Int.fdiv x0 (4294967296 : Int)) (65536 : Int)) (256 : Int)))]?) fun y0 =>
          some (IntKind.wrap IntKind.i64 ((56 : Int) + IntKind.wrap IntKind.i64 (↑(UInt8.toNat y0) : Int)))) (
          none )) (
        iteP (decide ((0 : Int) ≤ IntKind.wrap IntKind.u8 (Int.fdiv (Int.fdiv x0 (4294967296 : Int)) (65536 : Int)))) (
          Option.bind ((ByteArray.mk #[(0 : UInt8), (1 : UInt8), (2 : UInt8), (2 : UInt8), (3 : UInt8), (3 : UInt8), (3 : UInt8), (3 : UInt8), (4 : UInt8), (4 : UInt8), (4 : UInt8), (4 : UInt8), (4 : UInt8), (4 : UInt8), (4 : UInt8), (4 : UInt8), (5 : UInt8), (5 : UInt8), (5 : UInt8), (5 : UInt8), (5 : UInt8), (5 : UInt8), (5 : UInt8), (5 : UInt8), (5 : UInt8), (5 : UInt8), (5 : UInt8), (5 : UInt8), (5 : UInt8), (5 : UInt8), (5 : UInt8), (5 : UInt8), (6 : UInt8), (6 : UInt8), (6 : UInt8), (6 : UInt8), (6 : UInt8), (6 : UInt8), (6 : UInt8), (6 : UInt8), (6 : UInt8), (6 : UInt8), (6 : UInt8), (6 : UInt8), (6 : UInt8), (6 : UInt8), (6 : UInt8), (6 : UInt8), (6 : UInt8), (6 : UInt8), (6 : UInt8), (6 : UInt8), (6 : UInt8), (6 : UInt8), (6 : UInt8), (6 : UInt8), (6 : UInt8), (6 : UInt8), (6 : UInt8), (6 : UInt8), (6 : UInt8), (6 : UInt8), (6 : UInt8), (6 : UInt8), (7 : UInt8), (7 : UInt8), (7 : UInt8), (7 : UInt8), (7 : UInt8), (7 : UInt8), (7 : UInt8), (7 : UInt8), (7 : UInt8), (7 : UInt8), (7 : UInt8), (7 : UInt8), (7 : UInt8), (7 : UInt8), (7 : UInt8), (7 : UInt8), (7 : UInt8), (7 : UInt8), (7 : UInt8), (7 : UInt8), (7 : UInt8), (7 : UInt8), (7 : UInt8), (7 : UInt8), (7 : UInt8), (7 : UInt8), (7 : UInt8), (7 : UInt8), (7 : UInt8), (7 : UInt8), (7 : UInt8), (7 : UInt8), (7 : UInt8), (7 : UInt8), (7 : UInt8), (7 : UInt8), (7 : UInt8), (7 : UInt8), (7 : UInt8), (7 : UInt8), (7 : UInt8), (7 : UInt8), (7 : UInt8), (7 : UInt8), (7 : UInt8), (7 : UInt8), (7 : UInt8), (7 : UInt8), (7 : UInt8), (7 : UInt8), (7 : UInt8), (7 : UInt8), (7 : UInt8), (7 : UInt8), (7 : UInt8), (7 : UInt8), (7 : UInt8), (7 : UInt8), (7 : UInt8), (7 : UInt8), (7 : UInt8), (7 : UInt8), (7 : UInt8), (7 : UInt8), (8 : UInt8), (8 : UInt8), (8 : UInt8), (8 : UInt8), (8 : UInt8), (8 : UInt8), (8 : UInt8), (8 : UInt8), (8 : UInt8), (8 : UInt8), (8 : UInt8), (8 : UInt8), (8 : UInt8), (8 : UInt8), (8 : UInt8), (8 : UInt8), (8 : UInt8), (8 : UInt8), (8 : UInt8), (8 : UInt8), (8 : UInt8), (8 : UInt8), (8 : UInt8), (8 : UInt8), (8 : UInt8), (8 : UInt8), (8 : UInt8), (8 : UInt8), (8 : UInt8), (8 : UInt8), (8 : UInt8), (8 : UInt8), (8 : UInt8), (8 : UInt8), (8 : UInt8), (8 : UInt8), (8 : UInt8), (8 : UInt8), (8 : UInt8), (8 : UInt8), (8 : UInt8), (8 : UInt8), (8 : UInt8), (8 : UInt8), (8 : UInt8), (8 : UInt8), (8 : UInt8), (8 : UInt8), (8 : UInt8), (8 : UInt8), (8 : UInt8), (8 : UInt8), (8 : UInt8), (8 : UInt8), (8 : UInt8), (8 : UInt8), (8 : UInt8), (8 : UInt8), (8 : UInt8), (8 : UInt8), (8 : UInt8), (8 : UInt8), (8 : UInt8), (8 : UInt8), (8 : UInt8), (8 : UInt8), (8 : UInt8), (8 : UInt8), (8 : UInt8), (8 : UInt8), (8 : UInt8), (8 : UInt8), (8 : UInt8), (8 : UInt8), (8 : UInt8), (8 : UInt8), (8 : UInt8), (8 : UInt8), (8 : UInt8), (8 : UInt8), (8 : UInt8), (8 : UInt8), (8 : UInt8), (8 : UInt8), (8 : UInt8), (8 : UInt8), (8 : UInt8), (8 : UInt8), (8 : UInt8), (8 : UInt8), (8 : UInt8), (8 : UInt8), (8 : UInt8), (8 : UInt8), (8 : UInt8), (8 : UInt8), (8 : UInt8), (8 : UInt8), (8 : UInt8), (8 : UInt8), (8 : UInt8), (8 : UInt8), (8 : UInt8), (8 : UInt8), (8 : UInt8), (8 : UInt8), (8 : UInt8), (8 : UInt8), (8 : UInt8), (8 : UInt8), (8 : UInt8), (8 : UInt8), (8 : UInt8), (8 : UInt8), (8 : UInt8), (8 : UInt8), (8 : UInt8), (8 : UInt8), (8 : UInt8), (8 : UInt8), (8 : UInt8), (8 : UInt8), (8 : UInt8), (8 : UInt8), (8 : UInt8), (8 : UInt8), (8 : UInt8), (8 : UInt8)])[Int.toNat (IntKind.wrap IntKind.u8 (Int.fdiv (Int.fdiv x0 (4294967296 : Int)) (65536 : Int)))]?) fun y1 =>
          some (IntKind.wrap IntKind.i64 ((48 : Int) + IntKind.wrap IntKind.i64 (↑(UInt8.toNat y1) : Int)))) (
          none ))) (
      iteP (decide (Int.fdiv x0 (4294967296 : Int) ≥ (256 : Int))) (
        iteP (decide ((0 : Int) ≤ IntKind.wrap IntKind.u8 (Int.fdiv (Int.fdiv x0 (4294967296 : Int)) (256 : Int)))) (
          Option.bind ((ByteArray.mk #[(0 : UInt8), (1 : UInt8), (2 : UInt8), (2 : UInt8), (3 : UInt8), (3 : UInt8), (3 : UInt8), (3 : UInt8), (4 : UInt8), (4 : UInt8), (4 : UInt8), (4 : UInt8), (4 : UInt8), (4 : UInt8), (4 : UInt8), (4 : UInt8), (5 : UInt8), (5 : UInt8), (5 : UInt8), (5 : UInt8), (5 : UInt8), (5 : UInt8), (5 : UInt8), (5 : UInt8), (5 : UInt8), (5 : UInt8), (5 : UInt8), (5 : UInt8), (5 : UInt8), (5 : UInt8), (5 : UInt8), (5 : UInt8), (6 : UInt8), (6 : UInt8), (6 : UInt8), (6 : UInt8), (6 : UInt8), (6 : UInt8), (6 : UInt8), (6 : UInt8), (6 : UInt8), (6 : UInt8), (6 : UInt8), (6 : UInt8), (6 : UInt8), (6 : UInt8), (6 : UInt8), (6 : UInt8), (6 : UInt8), (6 : UInt8), (6 : UInt8), (6 : UInt8), (6 : UInt8), (6 : UInt8), (6 : UInt8), (6 : UInt8), (6 : UInt8), (6 : UInt8), (6 : UInt8), (6 : UInt8), (6 : UInt8), (6 : UInt8), (6 : UInt8), (6 : UInt8), (7 : UInt8), (7 : UInt8), (7 : UInt8), (7 : UInt8), (7 : UInt8), (7 : UInt8), (7 : UInt8), (7 : UInt8), (7 : UInt8), (7 : UInt8), (7 : UInt8), (7 : UInt8), (7 : UInt8), (7 : UInt8), (7 : UInt8), (7 : UInt8), (7 : UInt8), (7 : UInt8), (7 : UInt8), (7 : UInt8), (7 : UInt8), (7 : UInt8), (7 : UInt8), (7 : UInt8), (7 : UInt8), (7 : UInt8), (7 : UInt8), (7 : UInt8), (7 : UInt8), (7 : UInt8), (7 : UInt8), (7 : UInt8), (7 : UInt8), (7 : UInt8), (7 : UInt8), (7 : UInt8), (7 : UInt8), (7 : UInt8), (7 : UInt8), (7 : UInt8), (7 : UInt8), (7 : UInt8), (7 : UInt8), (7 : UInt8), (7 : UInt8), (7 : UInt8), (7 : UInt8), (7 : UInt8), (7 : UInt8), (7 : UInt8), (7 : UInt8), (7 : UInt8), (7 : UInt8), (7 : UInt8), (7 : UInt8), (7 : UInt8), (7 : UInt8), (7 : UInt8), (7 : UInt8), (7 : UInt8), (7 : UInt8), (7 : UInt8), (7 : UInt8), (7 : UInt8), (8 : UInt8), (8 : UInt8), (8 : UInt8), (8 : UInt8), (8 : UInt8), (8 : UInt8), (8 : UInt8), (8 : UInt8), (8 : UInt8), (8 : UInt8), (8 : UInt8), (8 : UInt8), (8 : UInt8), (8 : UInt8), (8 : UInt8), (8 : UInt8), (8 : UInt8), (8 : UInt8), (8 : UInt8), (8 : UInt8), (8 : UInt8), (8 : UInt8), (8 : UInt8), (8 : UInt8), (8 : UInt8), (8 : UInt8), (8 : UInt8), (8 : UInt8), (8 : UInt8), (8 : UInt8), (8 : UInt8), (8 : UInt8), (8 : UInt8), (8 : UInt8), (8 : UInt8), (8 : UInt8), (8 : UInt8), (8 : UInt8), (8 : UInt8), (8 : UInt8), (8 : UInt8), (8 : UInt8), (8 : UInt8), (8 : UInt8), (8 : UInt8), (8 : UInt8), (8 : UInt8), (8 : UInt8), (8 : UInt8), (8 : UInt8), (8 : UInt8), (8 : UInt8), (8 : UInt8), (8 : UInt8), (8 : UInt8), (8 : UInt8), (8 : UInt8), (8 : UInt8), (8 : UInt8), (8 : UInt8), (8 : UInt8), (8 : UInt8), (8 : UInt8), (8 : UInt8), (8 : UInt8), (8 : UInt8), (8 : UInt8), (8 : UInt8), (8 : UInt8), (8 : UInt8), (8 : UInt8), (8 : UInt8), (8 : UInt8), (8 : UInt8), (8 : UInt8), (8 : UInt8), (8 : UInt8), (8 : UInt8), (8 : UInt8), (8 : UInt8), (8 : UInt8), (8 : UInt8), (8 : UInt8), (8 : UInt8), (8 : UInt8), (8 : UInt8), (8 : UInt8), (8 : UInt8), (8 : UInt8), (8 : UInt8), (8 : UInt8), (8 : UInt8), (8 : UInt8), (8 : UInt8), (8 : UInt8), (8 : UInt8), (8 : UInt8), (8 : UInt8), (8 : UInt8), (8 : UInt8), (8 : UInt8), (8 : UInt8), (8 : UInt8), (8 : UInt8), (8 : UInt8), (8 : UInt8), (8 : UInt8), (8 : UInt8), (8 : UInt8), (8 : UInt8), (8 : UInt8), (8 : UInt8), (8 : UInt8), (8 : UInt8), (8 : UInt8), (8 : UInt8), (8 : UInt8), (8 : UInt8), (8 : UInt8), (8 : UInt8), (8 : UInt8), (8 : UInt8), (8 : UInt8), (8 : UInt8), (8 : UInt8), (8 : UInt8), (8 : UInt8), (8 : UInt8)])[Int.toNat (IntKind.wrap IntKind.u8 (Int.fdiv (Int.fdiv x0 (4294967296 : Int)) (256 : Int)))]?) fun y2 =>
          some (IntKind.wrap IntKind.i64 ((40 : Int) + IntKind.wrap IntKind.i64 (↑(UInt8.toNat y2) : Int)))) (
          none )) (
        iteP (decide ((0 : Int) ≤ IntKind.wrap IntKind.u8 (Int.fdiv x0 (4294967296 : Int)))) (
          Option.bind ((ByteArray.mk #[(0 : UInt8), (1 : UInt8), (2 : UInt8), (2 : UInt8), (3 : UInt8), (3 : UInt8), (3 : UInt8), (3 : UInt8), (4 : UInt8), (4 : UInt8), (4 : UInt8), (4 : UInt8), (4 : UInt8), (4 : UInt8), (4 : UInt8), (4 : UInt8), (5 : UInt8), (5 : UInt8), (5 : UInt8), (5 : UInt8), (5 : UInt8), (5 : UInt8), (5 : UInt8), (5 : UInt8), (5 : UInt8), (5 : UInt8), (5 : UInt8), (5 : UInt8), (5 : UInt8), (5 : UInt8), (5 : UInt8), (5 : UInt8), (6 : UInt8), (6 : UInt8), (6 : UInt8), (6 : UInt8), (6 : UInt8), (6 : UInt8), (6 : UInt8), (6 : UInt8), (6 : UInt8), (6 : UInt8), (6 : UInt8), (6 : UInt8), (6 : UInt8), (6 : UInt8), (6 : UInt8), (6 : UInt8), (6 : UInt8), (6 : UInt8), (6 : UInt8), (6 : UInt8), (6 : UInt8), (6 : UInt8), (6 : UInt8), (6 : UInt8), (6 : UInt8), (6 : UInt8), (6 : UInt8), (6 : UInt8), (6 : UInt8), (6 : UInt8), (6 : UInt8), (6 : UInt8), (7 : UInt8), (7 : UInt8), (7 : UInt8), (7 : UInt8), (7 : UInt8), (7 : UInt8), (7 : UInt8), (7 : UInt8), (7 : UInt8), (7 : UInt8), (7 : UInt8), (7 : UInt8), (7 : UInt8), (7 : UInt8), (7 : UInt8), (7 : UInt8), (7 : UInt8), (7 : UInt8), (7 : UInt8), (7 : UInt8), (7 : UInt8), (7 : UInt8), (7 : UInt8), (7 : UInt8), (7 : UInt8), (7 : UInt8), (7 : UInt8), (7 : UInt8), (7 : UInt8), (7 : UInt8), (7 : UInt8), (7 : UInt8), (7 : UInt8), (7 : UInt8), (7 : UInt8), (7 : UInt8), (7 : UInt8), (7 : UInt8), (7 : UInt8), (7 : UInt8), (7 : UInt8), (7 : UInt8), (7 : UInt8), (7 : UInt8), (7 : UInt8), (7 : UInt8), (7 : UInt8), (7 : UInt8), (7 : UInt8), (7 : UInt8), (7 : UInt8), (7 : UInt8), (7 : UInt8), (7 : UInt8), (7 : UInt8), (7 : UInt8), (7 : UInt8), (7 : UInt8), (7 : UInt8), (7 : UInt8), (7 : UInt8), (7 : UInt8), (7 : UInt8), (7 : UInt8), (8 : UInt8), (8 : UInt8), (8 : UInt8), (8 : UInt8), (8 : UInt8), (8 : UInt8), (8 : UInt8), (8 : UInt8), (8 : UInt8), (8 : UInt8), (8 : UInt8), (8 : UInt8), (8 : UInt8), (8 : UInt8), (8 : UInt8), (8 : UInt8), (8 : UInt8), (8 : UInt8), (8 : UInt8), (8 : UInt8), (8 : UInt8), (8 : UInt8), (8 : UInt8), (8 : UInt8), (8 : UInt8), (8 : UInt8), (8 : UInt8), (8 : UInt8), (8 : UInt8), (8 : UInt8), (8 : UInt8), (8 : UInt8), (8 : UInt8), (8 : UInt8), (8 : UInt8), (8 : UInt8), (8 : UInt8), (8 : UInt8), (8 : UInt8), (8 : UInt8), (8 : UInt8), (8 : UInt8), (8 : UInt8), (8 : UInt8), (8 : UInt8), (8 : UInt8), (8 : UInt8), (8 : UInt8), (8 : UInt8), (8 : UInt8), (8 : UInt8), (8 : UInt8), (8 : UInt8), (8 : UInt8), (8 : UInt8), (8 : UInt8), (8 : UInt8), (8 : UInt8), (8 : UInt8), (8 : UInt8), (8 : UInt8), (8 : UInt8), (8 : UInt8), (8 : UInt8), (8 : UInt8), (8 : UInt8), (8 : UInt8), (8 : UInt8), (8 : UInt8), (8 : UInt8), (8 : UInt8), (8 : UInt8), (8 : UInt8), (8 : UInt8), (8 : UInt8), (8 : UInt8), (8 : UInt8), (8 : UInt8), (8 : UInt8), (8 : UInt8), (8 : UInt8), (8 : UInt8), (8 : UInt8), (8 : UInt8), (8 : UInt8), (8 : UInt8), (8 : UInt8), (8 : UInt8), (8 : UInt8), (8 : UInt8), (8 : UInt8), (8 : UInt8), (8 : UInt8), (8 : UInt8), (8 : UInt8), (8 : UInt8), (8 : UInt8), (8 : UInt8), (8 : UInt8), (8 : UInt8), (8 : UInt8), (8 : UInt8), (8 : UInt8), (8 : UInt8), (8 : UInt8), (8 : UInt8), (8 : UInt8), (8 : UInt8), (8 : UInt8), (8 : UInt8), (8 : UInt8), (8 : UInt8), (8 : UInt8), (8 : UInt8), (8 : UInt8), (8 : UInt8), (8 : UInt8), (8 : UInt8), (8 : UInt8), (8 : UInt8), (8 : UInt8), (8 : UInt8), (8 : UInt8), (8 : UInt8), (8 : UInt8), (8 : UInt8), (8 : UInt8), (8 : UInt8)])[Int.toNat (IntKind.wrap IntKind.u8 (Int.fdiv x0 (4294967296 : Int)))]?) fun y3 =>
          some (IntKind.wrap IntKind.i64 ((32 : Int) + IntKind.wrap IntKind.i64 (↑(UInt8.toNat y3) : Int)))) (
          none )))) (
    iteP (decide (x0 ≥ (65536 : Int))) (
      iteP (decide (Int.fdiv x0 (65536 : Int) ≥ (256 : Int))) (
        iteP (decide ((0 : Int) ≤ IntKind.wrap IntKind.u8 (Int.fdiv (Int.fdiv x0 (65536 : Int)) (256 : Int)))) (
          Option.bind ((ByteArray.mk #[(0 : UInt8), (1 : UInt8), (2 : UInt8), (2 : UInt8), (3 : UInt8), (3 : UInt8), (3 : UInt8), (3 : UInt8), (4 : UInt8), (4 : UInt8), (4 : UInt8), (4 : UInt8), (4 : UInt8), (4 : UInt8), (4 : UInt8), (4 : UInt8), (5 : UInt8), (5 : UInt8), (5 : UInt8), (5 : UInt8), (5 : UInt8), (5 : UInt8), (5 : UInt8), (5 : UInt8), (5 : UInt8), (5 : UInt8), (5 : UInt8), (5 : UInt8), (5 : UInt8), (5 : UInt8), (5 : UInt8), (5 : UInt8), (6 : UInt8), (6 : UInt8), (6 : UInt8), (6 : UInt8), (6 : UInt8), (6 : UInt8), (6 : UInt8), (6 : UInt8), (6 : UInt8), (6 : UInt8), (6 : UInt8), (6 : UInt8), (6 : UInt8), (6 : UInt8), (6 : UInt8), (6 : UInt8), (6 : UInt8), (6 : UInt8), (6 : UInt8), (6 : UInt8), (6 : UInt8), (6 : UInt8), (6 : UInt8), (6 : UInt8), (6 : UInt8), (6 : UInt8), (6 : UInt8), (6 : UInt8), (6 : UInt8), (6 : UInt8), (6 : UInt8), (6 : UInt8), (7 : UInt8), (7 : UInt8), (7 : UInt8), (7 : UInt8), (7 : UInt8), (7 : UInt8), (7 : UInt8), (7 : UInt8), (7 : UInt8), (7 : UInt8), (7 : UInt8), (7 : UInt8), (7 : UInt8), (7 : UInt8), (7 : UInt8), (7 : UInt8), (7 : UInt8), (7 : UInt8), (7 : UInt8), (7 : UInt8), (7 : UInt8), (7 : UInt8), (7 : UInt8), (7 : UInt8), (7 : UInt8), (7 : UInt8), (7 : UInt8), (7 : UInt8), (7 : UInt8), (7 : UInt8), (7 : UInt8), (7 : UInt8), (7 : UInt8), (7 : UInt8), (7 : UInt8), (7 : UInt8), (7 : UInt8), (7 : UInt8), (7 : UInt8), (7 : UInt8), (7 : UInt8), (7 : UInt8), (7 : UInt8), (7 : UInt8), (7 : UInt8), (7 : UInt8), (7 : UInt8), (7 : UInt8), (7 : UInt8), (7 : UInt8), (7 : UInt8), (7 : UInt8), (7 : UInt8), (7 : UInt8), (7 : UInt8), (7 : UInt8), (7 : UInt8), (7 : UInt8), (7 : UInt8), (7 : UInt8), (7 : UInt8), (7 : UInt8), (7 : UInt8), (7 : UInt8), (8 : UInt8), (8 : UInt8), (8 : UInt8), (8 : UInt8), (8 : UInt8), (8 : UInt8), (8 : UInt8), (8 : UInt8), (8 : UInt8), (8 : UInt8), (8 : UInt8), (8 : UInt8), (8 : UInt8), (8 : UInt8), (8 : UInt8), (8 : UInt8), (8 : UInt8), (8 : UInt8), (8 : UInt8), (8 : UInt8), (8 : UInt8), (8 : UInt8), (8 : UInt8), (8 : UInt8), (8 : UInt8), (8 : UInt8), (8 : UInt8), (8 : UInt8), (8 : UInt8), (8 : UInt8), (8 : UInt8), (8 : UInt8), (8 : UInt8), (8 : UInt8), (8 : UInt8), (8 : UInt8), (8 : UInt8), (8 : UInt8), (8 : UInt8), (8 : UInt8), (8 : UInt8), (8 : UInt8), (8 : UInt8), (8 : UInt8), (8 : UInt8), (8 : UInt8), (8 : UInt8), (8 : UInt8), (8 : UInt8), (8 : UInt8), (8 : UInt8), (8 : UInt8), (8 : UInt8), (8 : UInt8), (8 : UInt8), (8 : UInt8), (8 : UInt8), (8 : UInt8), (8 : UInt8), (8 : UInt8), (8 : UInt8), (8 : UInt8), (8 : UInt8), (8 : UInt8), (8 : UInt8), (8 : UInt8), (8 : UInt8), (8 : UInt8), (8 : UInt8), (8 : UInt8), (8 : UInt8), (8 : UInt8), (8 : UInt8), (8 : UInt8), (8 : UInt8), (8 : UInt8), (8 : UInt8), (8 : UInt8), (8 : UInt8), (8 : UInt8), (8 : UInt8), (8 : UInt8), (8 : UInt8), (8 : UInt8), (8 : UInt8), (8 : UInt8), (8 : UInt8), (8 : UInt8), (8 : UInt8), (8 : UInt8), (8 : UInt8), (8 : UInt8), (8 : UInt8), (8 : UInt8), (8 : UInt8), (8 : UInt8), (8 : UInt8), (8 : UInt8), (8 : UInt8), (8 : UInt8), (8 : UInt8), (8 : UInt8), (8 : UInt8), (8 : UInt8), (8 : UInt8), (8 : UInt8), (8 : UInt8), (8 : UInt8), (8 : UInt8), (8 : UInt8), (8 : UInt8), (8 : UInt8), (8 : UInt8), (8 : UInt8), (8 : UInt8), (8 : UInt8), (8 : UInt8), (8 : UInt8), (8 : UInt8), (8 : UInt8), (8 : UInt8), (8 : UInt8), (8 : UInt8), (8 : UInt8), (8 : UInt8), (8 : UInt8), (8 : UInt8), (8 : UInt8)])[Int.toNat (IntKind.wrap IntKind.u8 (Int.fdiv (Int.fdiv x0 (65536 : Int)) (256 : Int)))]?) fun y4 =>
          some (IntKind.wrap IntKind.i64 ((24 : Int) + IntKind.wrap IntKind.i64 (↑(UInt8.toNat y4) : Int)))) (
          none )) (
        iteP (decide ((0 : Int) ≤ IntKind.wrap IntKind.u8 (Int.fdiv x0 (65536 : Int)))) (
          Option.bind ((ByteArray.mk #[(0 : UInt8), (1 : UInt8), (2 : UInt8), (2 : UInt8), (3 : UInt8), (3 : UInt8), (3 : UInt8), (3 : UInt8), (4 : UInt8), (4 : UInt8), (4 : UInt8), (4 : UInt8), (4 : UInt8), (4 : UInt8), (4 : UInt8), (4 : UInt8), (5 : UInt8), (5 : UInt8), (5 : UInt8), (5 : UInt8), (5 : UInt8), (5 : UInt8), (5 : UInt8), (5 : UInt8), (5 : UInt8), (5 : UInt8), (5 : UInt8), (5 : UInt8), (5 : UInt8), (5 : UInt8), (5 : UInt8), (5 : UInt8), (6 : UInt8), (6 : UInt8), (6 : UInt8), (6 : UInt8), (6 : UInt8), (6 : UInt8), (6 : UInt8), (6 : UInt8), (6 : UInt8), (6 : UInt8), (6 : UInt8), (6 : UInt8), (6 : UInt8), (6 : UInt8), (6 : UInt8), (6 : UInt8), (6 : UInt8), (6 : UInt8), (6 : UInt8), (6 : UInt8), (6 : UInt8), (6 : UInt8), (6 : UInt8), (6 : UInt8), (6 : UInt8), (6 : UInt8), (6 : UInt8), (6 : UInt8), (6 : UInt8), (6 : UInt8), (6 : UInt8), (6 : UInt8), (7 : UInt8), (7 : UInt8), (7 : UInt8), (7 : UInt8), (7 : UInt8), (7 : UInt8), (7 : UInt8), (7 : UInt8), (7 : UInt8), (7 : UInt8), (7 : UInt8), (7 : UInt8), (7 : UInt8), (7 : UInt8), (7 : UInt8), (7 : UInt8), (7 : UInt8), (7 : UInt8), (7 : UInt8), (7 : UInt8), (7 : UInt8), (7 : UInt8), (7 : UInt8), (7 : UInt8), (7 : UInt8), (7 : UInt8), (7 : UInt8), (7 : UInt8), (7 : UInt8), (7 : UInt8), (7 : UInt8), (7 : UInt8), (7 : UInt8), (7 : UInt8), (7 : UInt8), (7 : UInt8), (7 : UInt8), (7 : UInt8), (7 : UInt8), (7 : UInt8), (7 : UInt8), (7 : UInt8), (7 : UInt8), (7 : UInt8), (7 : UInt8), (7 : UInt8), (7 : UInt8), (7 : UInt8), (7 : UInt8), (7 : UInt8), (7 : UInt8), (7 : UInt8), (7 : UInt8), (7 : UInt8), (7 : UInt8), (7 : UInt8), (7 : UInt8), (7 : UInt8), (7 : UInt8), (7 : UInt8), (7 : UInt8), (7 : UInt8), (7 : UInt8), (7 : UInt8), (8 : UInt8), (8 : UInt8), (8 : UInt8), (8 : UInt8), (8 : UInt8), (8 : UInt8), (8 : UInt8), (8 : UInt8), (8 : UInt8), (8 : UInt8), (8 : UInt8), (8 : UInt8), (8 : UInt8), (8 : UInt8), (8 : UInt8), (8 : UInt8), (8 : UInt8), (8 : UInt8), (8 : UInt8), (8 : UInt8), (8 : UInt8), (8 : UInt8), (8 : UInt8), (8 : UInt8), (8 : UInt8), (8 : UInt8), (8 : UInt8), (8 : UInt8), (8 : UInt8), (8 : UInt8), (8 : UInt8), (8 : UInt8), (8 : UInt8), (8 : UInt8), (8 : UInt8), (8 : UInt8), (8 : UInt8), (8 : UInt8), (8 : UInt8), (8 : UInt8), (8 : UInt8), (8 : UInt8), (8 : UInt8), (8 : UInt8), (8 : UInt8), (8 : UInt8), (8 : UInt8), (8 : UInt8), (8 : UInt8), (8 : UInt8), (8 : UInt8), (8 : UInt8), (8 : UInt8), (8 : UInt8), (8 : UInt8), (8 : UInt8), (8 : UInt8), (8 : UInt8), (8 : UInt8), (8 : UInt8), (8 : UInt8), (8 : UInt8), (8 : UInt8), (8 : UInt8), (8 : UInt8), (8 : UInt8), (8 : UInt8), (8 : UInt8), (8 : UInt8), (8 : UInt8), (8 : UInt8), (8 : UInt8), (8 : UInt8), (8 : UInt8), (8 : UInt8), (8 : UInt8), (8 : UInt8), (8 : UInt8), (8 : UInt8), (8 : UInt8), (8 : UInt8), (8 : UInt8), (8 : UInt8), (8 : UInt8), (8 : UInt8), (8 : UInt8), (8 : UInt8), (8 : UInt8), (8 : UInt8), (8 : UInt8), (8 : UInt8), (8 : UInt8), (8 : UInt8), (8 : UInt8), (8 : UInt8), (8 : UInt8), (8 : UInt8), (8 : UInt8), (8 : UInt8), (8 : UInt8), (8 : UInt8), (8 : UInt8), (8 : UInt8), (8 : UInt8), (8 : UInt8), (8 : UInt8), (8 : UInt8), (8 : UInt8), (8 : UInt8), (8 : UInt8), (8 : UInt8), (8 : UInt8), (8 : UInt8), (8 : UInt8), (8 : UInt8), (8 : UInt8), (8 : UInt8), (8 : UInt8), (8 : UInt8), (8 : UInt8), (8 : UInt8), (8 : UInt8), (8 : UInt8), (8 : UInt8), (8 : UInt8), (8 : UInt8), (8 : UInt8), (8 : UInt8)])[Int.toNat (IntKind.wrap IntKind.u8 (Int.fdiv x0 (65536 : Int)))]?) fun y5 =>
          some (IntKind.wrap IntKind.i64 ((16 : Int) + IntKind.wrap IntKind.i64 (↑(UInt8.toNat y5) : Int)))) (
          none ))) (
      iteP (decide (x0 ≥ (256 : Int))) (
        iteP (decide ((0 : Int) ≤ IntKind.wrap IntKind.u8 (Int.fdiv x0 (256 : Int)))) (
          Option.bind ((ByteArray.mk #[(0 : UInt8), (1 : UInt8), (2 : UInt8), (2 : UInt8), (3 : UInt8), (3 : UInt8), (3 : UInt8), (3 : UInt8), (4 : UInt8), (4 : UInt8), (4 : UInt8), (4 : UInt8), (4 : UInt8), (4 : UInt8), (4 : UInt8), (4 : UInt8), (5 : UInt8), (5 : UInt8), (5 : UInt8), (5 : UInt8), (5 : UInt8), (5 : UInt8), (5 : UInt8), (5 : UInt8), (5 : UInt8), (5 : UInt8), (5 : UInt8), (5 : UInt8), (5 : UInt8), (5 : UInt8), (5 : UInt8), (5 : UInt8), (6 : UInt8), (6 : UInt8), (6 : UInt8), (6 : UInt8), (6 : UInt8), (6 : UInt8), (6 : UInt8), (6 : UInt8), (6 : UInt8), (6 : UInt8), (6 : UInt8), (6 : UInt8), (6 : UInt8), (6 : UInt8), (6 : UInt8), (6 : UInt8), (6 : UInt8), (6 : UInt8), (6 : UInt8), (6 : UInt8), (6 : UInt8), (6 : UInt8), (6 : UInt8), (6 : UInt8), (6 : UInt8), (6 : UInt8), (6 : UInt8), (6 : UInt8), (6 : UInt8), (6 : UInt8), (6 : UInt8), (6 : UInt8), (7 : UInt8), (7 : UInt8), (7 : UInt8), (7 : UInt8), (7 : UInt8), (7 : UInt8), (7 : UInt8), (7 : UInt8), (7 : UInt8), (7 : UInt8), (7 : UInt8), (7 : UInt8), (7 : UInt8), (7 : UInt8), (7 : UInt8), (7 : UInt8), (7 : UInt8), (7 : UInt8), (7 : UInt8), (7 : UInt8), (7 : UInt8), (7 : UInt8), (7 : UInt8), (7 : UInt8), (7 : UInt8), (7 : UInt8), (7 : UInt8), (7 : UInt8), (7 : UInt8), (7 : UInt8), (7 : UInt8), (7 : UInt8), (7 : UInt8), (7 : UInt8), (7 : UInt8), (7 : UInt8), (7 : UInt8), (7 : UInt8), (7 : UInt8), (7 : UInt8), (7 : UInt8), (7 : UInt8), (7 : UInt8), (7 : UInt8), (7 : UInt8), (7 : UInt8), (7 : UInt8), (7 : UInt8), (7 : UInt8), (7 : UInt8), (7 : UInt8), (7 : UInt8), (7 : UInt8), (7 : UInt8), (7 : UInt8), (7 : UInt8), (7 : UInt8), (7 : UInt8), (7 : UInt8), (7 : UInt8), (7 : UInt8), (7 : UInt8), (7 : UInt8), (7 : UInt8), (8 : UInt8), (8 : UInt8), (8 : UInt8), (8 : UInt8), (8 : UInt8), (8 : UInt8), (8 : UInt8), (8 : UInt8), (8 : UInt8), (8 : UInt8), (8 : UInt8), (8 : UInt8), (8 : UInt8), (8 : UInt8), (8 : UInt8), (8 : UInt8), (8 : UInt8), (8 : UInt8), (8 : UInt8), (8 : UInt8), (8 : UInt8), (8 : UInt8), (8 : UInt8), (8 : UInt8), (8 : UInt8), (8 : UInt8), (8 : UInt8), (8 : UInt8), (8 : UInt8), (8 : UInt8), (8 : UInt8), (8 : UInt8), (8 : UInt8), (8 : UInt8), (8 : UInt8), (8 : UInt8), (8 : UInt8), (8 : UInt8), (8 : UInt8), (8 : UInt8), (8 : UInt8), (8 : UInt8), (8 : UInt8), (8 : UInt8), (8 : UInt8), (8 : UInt8), (8 : UInt8), (8 : UInt8), (8 : UInt8), (8 : UInt8), (8 : UInt8), (8 : UInt8), (8 : UInt8), (8 : UInt8), (8 : UInt8), (8 : UInt8), (8 : UInt8), (8 : UInt8), (8 : UInt8), (8 : UInt8), (8 : UInt8), (8 : UInt8), (8 : UInt8), (8 : UInt8), (8 : UInt8), (8 : UInt8), (8 : UInt8), (8 : UInt8), (8 : UInt8), (8 : UInt8), (8 : UInt8), (8 : UInt8), (8 : UInt8), (8 : UInt8), (8 : UInt8), (8 : UInt8), (8 : UInt8), (8 : UInt8), (8 : UInt8), (8 : UInt8), (8 : UInt8), (8 : UInt8), (8 : UInt8), (8 : UInt8), (8 : UInt8), (8 : UInt8), (8 : UInt8), (8 : UInt8), (8 : UInt8), (8 : UInt8), (8 : UInt8), (8 : UInt8), (8 : UInt8), (8 : UInt8), (8 : UInt8), (8 : UInt8), (8 : UInt8), (8 : UInt8), (8 : UInt8), (8 : UInt8), (8 : UInt8), (8 : UInt8), (8 : UInt8), (8 : UInt8), (8 : UInt8), (8 : UInt8), (8 : UInt8), (8 : UInt8), (8 : UInt8), (8 : UInt8), (8 : UInt8), (8 : UInt8), (8 : UInt8), (8 : UInt8), (8 : UInt8), (8 : UInt8), (8 : UInt8), (8 : UInt8), (8 : UInt8), (8 : UInt8), (8 : UInt8), (8 : UInt8), (8 : UInt8), (8 : UInt8), (8 : UInt8), (8 : UInt8), (8 : UInt8), (8 : UInt8)])[Int.toNat (IntKind.wrap IntKind.u8 (Int.fdiv x0 (256 : Int)))]?) fun y6 =>
          some (IntKind.wrap IntKind.i64 ((8 : Int) + IntKind.wrap IntKind.i64 (↑(UInt8.toNat y6) : Int)))) (
          none )) (
        iteP (decide ((0 : Int) ≤ IntKind.wrap IntKind.u8 x0)) (
          Option.bind ((ByteArray.mk #[(0 : UInt8), (1 : UInt8), (2 : UInt8), (2 : UInt8), (3 : UInt8), (3 : UInt8), (3 : UInt8), (3 : UInt8), (4 : UInt8), (4 : UInt8), (4 : UInt8), (4 : UInt8), (4 : UInt8), (4 : UInt8), (4 : UInt8), (4 : UInt8), (5 : UInt8), (5 : UInt8), (5 : UInt8), (5 : UInt8), (5 : UInt8), (5 : UInt8), (5 : UInt8), (5 : UInt8), (5 : UInt8), (5 : UInt8), (5 : UInt8), (5 : UInt8), (5 : UInt8), (5 : UInt8), (5 : UInt8), (5 : UInt8), (6 : UInt8), (6 : UInt8), (6 : UInt8), (6 : UInt8), (6 : UInt8), (6 : UInt8), (6 : UInt8), (6 : UInt8), (6 : UInt8), (6 : UInt8), (6 : UInt8), (6 : UInt8), (6 : UInt8), (6 : UInt8), (6 : UInt8), (6 : UInt8), (6 : UInt8), (6 : UInt8), (6 : UInt8), (6 : UInt8), (6 : UInt8), (6 : UInt8), (6 : UInt8), (6 : UInt8), (6 : UInt8), (6 : UInt8), (6 : UInt8), (6 : UInt8), (6 : UInt8), (6 : UInt8), (6 : UInt8), (6 : UInt8), (7 : UInt8), (7 : UInt8), (7 : UInt8), (7 : UInt8), (7 : UInt8), (7 : UInt8), (7 : UInt8), (7 : UInt8), (7 : UInt8), (7 : UInt8), (7 : UInt8), (7 : UInt8), (7 : UInt8), (7 : UInt8), (7 : UInt8), (7 : UInt8), (7 : UInt8), (7 : UInt8), (7 : UInt8), (7 : UInt8), (7 : UInt8), (7 : UInt8), (7 : UInt8), (7 : UInt8), (7 : UInt8), (7 : UInt8), (7 : UInt8), (7 : UInt8), (7 : UInt8), (7 : UInt8), (7 : UInt8), (7 : UInt8), (7 : UInt8), (7 : UInt8), (7 : UInt8), (7 : UInt8), (7 : UInt8), (7 : UInt8), (7 : UInt8), (7 : UInt8), (7 : UInt8), (7 : UInt8), (7 : UInt8), (7 : UInt8), (7 : UInt8), (7 : UInt8), (7 : UInt8), (7 : UInt8), (7 : UInt8), (7 : UInt8), (7 : UInt8), (7 : UInt8), (7 : UInt8), (7 : UInt8), (7 : UInt8), (7 : UInt8), (7 : UInt8), (7 : UInt8), (7 : UInt8), (7 : UInt8), (7 : UInt8), (7 : UInt8), (7 : UInt8), (7 : UInt8), (8 : UInt8), (8 : UInt8), (8 : UInt8), (8 : UInt8), (8 : UInt8), (8 : UInt8), (8 : UInt8), (8 : UInt8), (8 : UInt8), (8 : UInt8), (8 : UInt8), (8 : UInt8), (8 : UInt8), (8 : UInt8), (8 : UInt8), (8 : UInt8), (8 : UInt8), (8 : UInt8), (8 : UInt8), (8 : UInt8), (8 : UInt8), (8 : UInt8), (8 : UInt8), (8 : UInt8), (8 : UInt8), (8 : UInt8), (8 : UInt8), (8 : UInt8), (8 : UInt8), (8 : UInt8), (8 : UInt8), (8 : UInt8), (8 : UInt8), (8 : UInt8), (8 : UInt8), (8 : UInt8), (8 : UInt8), (8 : UInt8), (8 : UInt8), (8 : UInt8), (8 : UInt8), (8 : UInt8), (8 : UInt8), (8 : UInt8), (8 : UInt8), (8 : UInt8), (8 : UInt8), (8 : UInt8), (8 : UInt8), (8 : UInt8), (8 : UInt8), (8 : UInt8), (8 : UInt8), (8 : UInt8), (8 : UInt8), (8 : UInt8), (8 : UInt8), (8 : UInt8), (8 : UInt8), (8 : UInt8), (8 : UInt8), (8 : UInt8), (8 : UInt8), (8 : UInt8), (8 : UInt8), (8 : UInt8), (8 : UInt8), (8 : UInt8), (8 : UInt8), (8 : UInt8), (8 : UInt8), (8 : UInt8), (8 : UInt8), (8 : UInt8), (8 : UInt8), (8 : UInt8), (8 : UInt8), (8 : UInt8), (8 : UInt8), (8 : UInt8), (8 : UInt8), (8 : UInt8), (8 : UInt8), (8 : UInt8), (8 : UInt8), (8 : UInt8), (8 : UInt8), (8 : UInt8), (8 : UInt8), (8 : UInt8), (8 : UInt8), (8 : UInt8), (8 : UInt8), (8 : UInt8), (8 : UInt8), (8 : UInt8), (8 : UInt8), (8 : UInt8), (8 : UInt8), (8 : UInt8), (8 : UInt8), (8 : UInt8), (8 : UInt8), (8 : UInt8), (8 : UInt8), (8 : UInt8), (8 : UInt8), (8 : UInt8), (8 : UInt8), (8 : UInt8), (8 : UInt8), (8 : UInt8), (8 : UInt8), (8 : UInt8), (8 : UInt8), (8 : UInt8), (8 : UInt8), (8 : UInt8), (8 : UInt8), (8 : UInt8), (8 : UInt8), (8 : UInt8), (8 : UInt8), (8 : UInt8), (8 : UInt8), (8 : UInt8), (8 : UInt8), (8 : UInt8)])[Int.toNat (IntKind.wrap IntKind.u8 x0)]?) fun y7 =>
          some (IntKind.wrap IntKind.i64 ((0 : Int) + IntKind.wrap IntKind.i64 (↑(UInt8.toNat y7) : Int)))) (
          none ))))
noncomputable def T167 (N : Nat) : Pk → Tr Pk := tellS s167 w167 (F167 N)
theorem T167_ok (N : Nat) : FOK Tryz.prog (167) (T167 N) :=
  (fn_ok2 ownT mix (tab167_ok N) Tryz.func167 s167 w167 [] (cuts := []) trivial (fun _ => by kernel_rfl) (by decide +kernel) (F167 N) (fun x => by kernel_rfl))
@[reducible] def s151 : SP := ⟨[.int .u64], []⟩
noncomputable def tab151 (N : Nat) : List (Nat × (Pk → Tr Pk)) := [(167, T167 N)]
theorem tab151_ok (N : Nat) : TabOK Tryz.prog (tab151 N) := ⟨T167_ok N, trivial⟩
@[reducible] def w151 : List SP := [⟨[.int .i64], []⟩]
noncomputable def F151 (N : Nat) : (Int) → Option (Int)
  | x0 =>
  Option.bind (F167 N x0) fun y0 =>
  some (y0)
noncomputable def T151 (N : Nat) : Pk → Tr Pk := tellS s151 w151 (F151 N)
theorem T151_ok (N : Nat) : FOK Tryz.prog (151) (T151 N) :=
  (fn_ok2 ownT mix (tab151_ok N) Tryz.func151 s151 w151 [] (cuts := []) trivial (fun _ => by kernel_rfl) (by decide +kernel) (F151 N) (fun x => by kernel_rfl))
@[reducible] def s132 : SP := ⟨[.agg [.int .i64, .int .i64], .int .i64], []⟩
noncomputable def tab132 (N : Nat) : List (Nat × (Pk → Tr Pk)) := [(151, T151 N)]
theorem tab132_ok (N : Nat) : TabOK Tryz.prog (tab132 N) := ⟨T151_ok N, trivial⟩
@[reducible] def w132 : List SP := [⟨[.bool], []⟩]
noncomputable def F132 (N : Nat) : (Int × Int × Int) → Option (Bool)
  | (x0, x1, x2) =>
  iteP (decide (x0 < (1 : Int))) (
    some (false)) (
    iteP (decide (x0 > (65535 : Int))) (
      some (false)) (
      iteP (IntKind.wrap IntKind.i64 (↑(BitVec.toNat (BitVec.ofInt (64 : Nat) x0 &&& BitVec.ofInt (64 : Nat) (IntKind.wrap IntKind.i64 (x0 + (1 : Int))))) : Int) != (0 : Int)) (
        some (false)) (
        iteP (decide (x1 < (0 : Int))) (
          some (false)) (
          iteP (decide (x1 > x2)) (
            some (false)) (
            Option.bind (F151 N (IntKind.wrap IntKind.u64 x0)) fun y0 =>
            some (decide (IntKind.wrap IntKind.i64 (x1 + y0) ≤ x2)))))))
noncomputable def T132 (N : Nat) : Pk → Tr Pk := tellS s132 w132 (F132 N)
theorem T132_ok (N : Nat) : FOK Tryz.prog (132) (T132 N) :=
  (fn_ok2 ownT mix (tab132_ok N) Tryz.func132 s132 w132 [] (cuts := []) trivial (fun _ => by kernel_rfl) (by decide +kernel) (F132 N) (fun x => by kernel_rfl))
@[reducible] def s133 : SP := ⟨[.agg [.int .i64, .int .i64]], []⟩
noncomputable def tab133 (N : Nat) : List (Nat × (Pk → Tr Pk)) := []
theorem tab133_ok (N : Nat) : TabOK Tryz.prog (tab133 N) := trivial
@[reducible] def w133 : List SP := [⟨[.int .i64], []⟩]
noncomputable def F133 (N : Nat) : (Int × Int) → Option (Int)
  | (x0, x1) =>
  iteP (decide (x1 < (0 : Int))) (
    none ) (
    some (IntKind.wrap IntKind.i64 (x0 * (2 : Int) ^ min (Int.toNat x1) (64 : Nat))))
noncomputable def T133 (N : Nat) : Pk → Tr Pk := tellS s133 w133 (F133 N)
theorem T133_ok (N : Nat) : FOK Tryz.prog (133) (T133 N) :=
  (fn_ok2 ownT mix (tab133_ok N) Tryz.func133 s133 w133 [] (cuts := []) trivial (fun _ => by kernel_rfl) (by decide +kernel) (F133 N) (fun x => by kernel_rfl))
@[reducible] def s99 : SP := ⟨[.agg [.int .i64, .int .i64, .bool, .bool, .int .i64, .int .i64, .int .i64, .int .i64, .int .i64, .int .i64]], []⟩
noncomputable def tab99 (N : Nat) : List (Nat × (Pk → Tr Pk)) := [(131, T131 N), (132, T132 N), (133, T133 N)]
theorem tab99_ok (N : Nat) : TabOK Tryz.prog (tab99 N) := ⟨T131_ok N, T132_ok N, T133_ok N, trivial⟩
@[reducible] def L99_250 : LD := ⟨250, [28, 1, 29, 3], [(.ret, [2]), (.exit 1, [])], ⟨[.arr y3 3, .adr 0 [], .int .i64, .int .i64], [.var 37 (.agg [.int .i64, .int .i64, .bool, .bool, .int .i64, .int .i64, .int .i64, .int .i64, .int .i64, .int .i64])]⟩, [(.ret, ⟨[.bool], []⟩), (.exit 1, ⟨[], []⟩)]⟩
abbrev P99_250 : Type := (List (Int × (Int × Unit))) × Int × Int × Int × Int × Bool × Bool × Int × Int × Int × Int × Int × Int
abbrev R99_250 : Type := ((Bool) ⊕ (Unit))
noncomputable def B99_250 (N : Nat) (f : P99_250 → Option R99_250) : P99_250 → Option R99_250
  | (x0, x1, x2, x3, x4, x5, x6, x7, x8, x9, x10, x11, x12) =>
  iteP (decide (x1 < (3 : Int))) (
    iteP (within x1 (List.length x0)) (
      Option.bind (x0[Int.toNat x1]?) fun y0 =>
      Option.bind (F132 N (y0.1, y0.2.1, x3)) fun y1 =>
      iteP (!y1) (
        some (.inl (false))) (
        Option.bind (F133 N (y0.1, y0.2.1)) fun y2 =>
        iteP (IntKind.wrap IntKind.i64 (↑(BitVec.toNat (BitVec.ofInt (64 : Nat) x2 &&& BitVec.ofInt (64 : Nat) y2)) : Int) != (0 : Int)) (
          some (.inl (false))) (
          Option.bind (F133 N (y0.1, y0.2.1)) fun y3 =>
          Option.bind (f (x0, IntKind.wrap IntKind.i64 (x1 + (1 : Int)), IntKind.wrap IntKind.i64 (↑(BitVec.toNat (BitVec.ofInt (64 : Nat) x2 ||| BitVec.ofInt (64 : Nat) y3)) : Int), x3, x4, x5, x6, x7, x8, x9, x10, x11, x12)) fun r => match r with | .inl y => some (.inl y) | .inr y => some (.inr y)))) (
      none )) (
    some (.inr (())))
noncomputable def F99_250 (N : Nat) : Nat → P99_250 → Option R99_250
  | 0, _ => none
  | k + 1, x => B99_250 N (F99_250 N k) x
noncomputable def C99_250 (N : Nat) (k : Nat) : Cut := L99_250.cut (F99_250 N k)
theorem C99_250_ok (N : Nat) (k : Nat) : CutAt Tryz.prog false Tryz.f99 [] 250 (C99_250 N k) :=
  L99_250.loopT ownT mix (tab99_ok N) Tryz.f99 [] (cuts := []) trivial (by decide +kernel) (by kernel_rfl) (B99_250 N) (F99_250 N) (fun _ => rfl) (fun _ _ => rfl) (fun f x => by kernel_rfl) k
@[reducible] def w99 : List SP := [⟨[.bool], []⟩]
noncomputable def F99 (N : Nat) : (Int × Int × Bool × Bool × Int × Int × Int × Int × Int × Int) → Option (Bool)
  | (x0, x1, x2, x3, x4, x5, x6, x7, x8, x9) =>
  iteP (x0 == (8 : Int)) (
    iteP (decide (x1 < (1 : Int))) (
      some (false)) (
      iteP (decide (x1 > x0)) (
        some (false)) (
        iteP (!x3) (
          some (false)) (
          Option.bind (F131 N (x0, x1, x2, x3, x4, x5, x6, x7, x8, x9)) fun y0 =>
          Option.bind (F99_250 N N (y0, (0 : Int), (0 : Int), x0, x1, x2, x3, x4, x5, x6, x7, x8, x9)) fun y1 =>
          match y1 with
          | .inl y2 =>
            some (y2)
          | .inr y2 =>
            some (true))))) (
    iteP (x0 == (16 : Int)) (
      iteP (decide (x1 < (1 : Int))) (
        some (false)) (
        iteP (decide (x1 > x0)) (
          some (false)) (
          iteP (!x3) (
            some (false)) (
            Option.bind (F131 N (x0, x1, x2, x3, x4, x5, x6, x7, x8, x9)) fun y3 =>
            Option.bind (F99_250 N N (y3, (0 : Int), (0 : Int), x0, x1, x2, x3, x4, x5, x6, x7, x8, x9)) fun y4 =>
            match y4 with
            | .inl y5 =>
              some (y5)
            | .inr y5 =>
              some (true))))) (
      iteP (x0 == (32 : Int)) (
        iteP (decide (x1 < (1 : Int))) (
          some (false)) (
          iteP (decide (x1 > x0)) (
            some (false)) (
            iteP (!x3) (
              some (false)) (
              Option.bind (F131 N (x0, x1, x2, x3, x4, x5, x6, x7, x8, x9)) fun y6 =>
              Option.bind (F99_250 N N (y6, (0 : Int), (0 : Int), x0, x1, x2, x3, x4, x5, x6, x7, x8, x9)) fun y7 =>
              match y7 with
              | .inl y8 =>
                some (y8)
              | .inr y8 =>
                some (true))))) (
        some (false))))
noncomputable def T99 (N : Nat) : Pk → Tr Pk := tellS s99 w99 (F99 N)
theorem T99_ok (N : Nat) : FOK Tryz.prog (99) (T99 N) :=
  (fn_ok2 ownT mix (tab99_ok N) Tryz.func99 s99 w99 [] (cuts := [(250, C99_250 N N)]) ⟨C99_250_ok N N, trivial⟩ (fun _ => by kernel_rfl) (by decide +kernel) (F99 N) (fun x => by kernel_rfl))
@[reducible] def s169 : SP := ⟨[.bool], []⟩
noncomputable def tab169 (N : Nat) : List (Nat × (Pk → Tr Pk)) := []
theorem tab169_ok (N : Nat) : TabOK Tryz.prog (tab169 N) := trivial
@[reducible] def w169 : List SP := [⟨[.int .i64], []⟩]
noncomputable def F169 (N : Nat) : (Bool) → Option (Int)
  | x0 =>
  iteP (x0) (
    some ((1 : Int))) (
    some ((0 : Int)))
noncomputable def T169 (N : Nat) : Pk → Tr Pk := tellS s169 w169 (F169 N)
theorem T169_ok (N : Nat) : FOK Tryz.prog (169) (T169 N) :=
  (fn_ok2 ownT mix (tab169_ok N) Tryz.func169 s169 w169 [] (cuts := []) trivial (fun _ => by kernel_rfl) (by decide +kernel) (F169 N) (fun x => by kernel_rfl))
@[reducible] def s154 : SP := ⟨[.agg [.int .i64, .int .i64, .bool, .bool, .int .i64, .int .i64, .int .i64, .int .i64, .int .i64, .int .i64]], []⟩
noncomputable def tab154 (N : Nat) : List (Nat × (Pk → Tr Pk)) := [(169, T169 N), (135, T135 N)]
theorem tab154_ok (N : Nat) : TabOK Tryz.prog (tab154 N) := ⟨T169_ok N, T135_ok N, trivial⟩
@[reducible] def L154_58 : LD := ⟨58, [40, 41, 3], [(.ret, [2]), (.exit 0, [3])], ⟨[.arr y3 10, .int .i64, .str], []⟩, [(.ret, ⟨[.str], []⟩), (.exit 0, ⟨[.str], []⟩)]⟩
abbrev P154_58 : Type := (List (Int × (Int × Unit))) × Int × ByteArray
abbrev R154_58 : Type := ((ByteArray) ⊕ (ByteArray))
noncomputable def B154_58 (N : Nat) (f : P154_58 → Option R154_58) : P154_58 → Option R154_58
  | (x0, x1, x2) =>
  iteP (decide (x1 < (10 : Int))) (
    iteP (within x1 (List.length x0)) (
      Option.bind (x0[Int.toNat x1]?) fun y0 =>
      Option.bind (F135 N (y0.1, y0.2.1)) fun y1 =>
      iteP (y1.2 != (0 : Int)) (
        some (.inl (ByteArray.mk #[]))) (
        iteP (decide ((↑(ByteArray.size x2 + ByteArray.size y1.1) : Int) > (9223372036854775807 : Int))) (
          none ) (
          Option.bind (f (x0, IntKind.wrap IntKind.i64 (x1 + (1 : Int)), x2 ++ y1.1)) fun r => match r with | .inl y => some (.inl y) | .inr y => some (.inr y)))) (
      none )) (
    some (.inr (x2)))
noncomputable def F154_58 (N : Nat) : Nat → P154_58 → Option R154_58
  | 0, _ => none
  | k + 1, x => B154_58 N (F154_58 N k) x
noncomputable def C154_58 (N : Nat) (k : Nat) : Cut := L154_58.cut (F154_58 N k)
theorem C154_58_ok (N : Nat) (k : Nat) : CutAt Tryz.prog false Tryz.f154 [] 58 (C154_58 N k) :=
  L154_58.loopT ownT mix (tab154_ok N) Tryz.f154 [] (cuts := []) trivial (by decide +kernel) (by kernel_rfl) (B154_58 N) (F154_58 N) (fun _ => rfl) (fun _ _ => rfl) (fun f x => by kernel_rfl) k
@[reducible] def w154 : List SP := [⟨[.str], []⟩]
noncomputable def F154 (N : Nat) : (Int × Int × Bool × Bool × Int × Int × Int × Int × Int × Int) → Option (ByteArray)
  | (x0, x1, x2, x3, x4, x5, x6, x7, x8, x9) =>
  Option.bind (F169 N x2) fun y0 =>
  Option.bind (F169 N x3) fun y1 =>
  Option.bind (F154_58 N N ([((1 : Int), x0, ()), ((1 : Int), x1, ()), ((1 : Int), y0, ()), ((1 : Int), y1, ()), ((2 : Int), x4, ()), ((2 : Int), x5, ()), ((2 : Int), x6, ()), ((1 : Int), x7, ()), ((1 : Int), x8, ()), ((1 : Int), x9, ())], (0 : Int), ByteArray.mk #[])) fun y2 =>
  match y2 with
  | .inl y3 =>
    some (y3)
  | .inr y3 =>
    iteP (decide ((↑(ByteArray.size y3 + (3 : Nat)) : Int) > (9223372036854775807 : Int))) (
      none ) (
      some (y3 ++ ByteArray.mk #[(0 : UInt8), (0 : UInt8), (0 : UInt8)]))
noncomputable def T154 (N : Nat) : Pk → Tr Pk := tellS s154 w154 (F154 N)
theorem T154_ok (N : Nat) : FOK Tryz.prog (154) (T154 N) :=
  (fn_ok2 ownT mix (tab154_ok N) Tryz.func154 s154 w154 [] (cuts := [(58, C154_58 N N)]) ⟨C154_58_ok N N, trivial⟩ (fun _ => by kernel_rfl) (by decide +kernel) (F154 N) (fun x => by kernel_rfl))
@[reducible] def s139 : SP := ⟨[.agg [.int .i64, .int .i64, .agg [.int .i64, .int .i64, .bool, .bool, .int .i64, .int .i64, .int .i64, .int .i64, .int .i64, .int .i64], .str]], []⟩
noncomputable def tab139 (N : Nat) : List (Nat × (Pk → Tr Pk)) := [(99, T99 N), (105, T105 N), (106, T106 N), (154, T154 N), (136, orT s136a.I (T136a N) (T136 N)), (115, T115 N), (107, T107 N)]
theorem tab139_ok (N : Nat) : TabOK Tryz.prog (tab139 N) := ⟨T99_ok N, T105_ok N, T106_ok N, T154_ok N, orT_ok (T136a_ok N) (T136_ok N), T115_ok N, T107_ok N, trivial⟩
@[reducible] def w139 : List SP := [⟨[.tup [.str, .int .i64]], []⟩]
noncomputable def F139 (N : Nat) : (Int × Int × Int × Int × Bool × Bool × Int × Int × Int × Int × Int × Int × ByteArray) → Option (ByteArray × Int)
  | (x0, x1, x2, x3, x4, x5, x6, x7, x8, x9, x10, x11, x12) =>
  Option.bind (F99 N (x2, x3, x4, x5, x6, x7, x8, x9, x10, x11)) fun y0 =>
  Option.bind (F105 N (y0, (130 : Int), (0 : Int), [])) fun y1 =>
  iteP (x0 != (0 : Int)) (
    Option.bind (F105 N (x1 != (0 : Int), (1 : Int), y1.1, y1.2)) fun y2 =>
    Option.bind (F106 N ((2 : Int), [x0, x1], y2.1, y2.2)) fun y3 =>
    match y3 with
    | .inl y4 =>
      Option.bind (F154 N (x2, x3, x4, x5, x6, x7, x8, x9, x10, x11)) fun y5 =>
      Option.bind (F136a N (y5, y4.1, y4.2)) fun y6 =>
      Option.bind (F115 N (x12, y6.2.1, y6.2.2)) fun y7 =>
      Option.bind (F107 N (y7.1, y7.2)) fun y8 =>
      match y8 with
      | .inl y9 =>
        some ((y9.1, y9.2.1))
      | .inr y9 =>
        some ((y9.1, y9.2.1))
    | .inr y4 =>
      Option.bind (F154 N (x2, x3, x4, x5, x6, x7, x8, x9, x10, x11)) fun y10 =>
      Option.bind (F136 N (y10, y4.1, y4.2)) fun y11 =>
      Option.bind (F115 N (x12, y11.2.1, y11.2.2)) fun y12 =>
      Option.bind (F107 N (y12.1, y12.2)) fun y13 =>
      match y13 with
      | .inl y14 =>
        some ((y14.1, y14.2.1))
      | .inr y14 =>
        some ((y14.1, y14.2.1))) (
    Option.bind (F105 N (false, (1 : Int), y1.1, y1.2)) fun y15 =>
    Option.bind (F106 N ((2 : Int), [x0, x1], y15.1, y15.2)) fun y16 =>
    match y16 with
    | .inl y17 =>
      Option.bind (F154 N (x2, x3, x4, x5, x6, x7, x8, x9, x10, x11)) fun y18 =>
      Option.bind (F136a N (y18, y17.1, y17.2)) fun y19 =>
      Option.bind (F115 N (x12, y19.2.1, y19.2.2)) fun y20 =>
      Option.bind (F107 N (y20.1, y20.2)) fun y21 =>
      match y21 with
      | .inl y22 =>
        some ((y22.1, y22.2.1))
      | .inr y22 =>
        some ((y22.1, y22.2.1))
    | .inr y17 =>
      Option.bind (F154 N (x2, x3, x4, x5, x6, x7, x8, x9, x10, x11)) fun y23 =>
      Option.bind (F136 N (y23, y17.1, y17.2)) fun y24 =>
      Option.bind (F115 N (x12, y24.2.1, y24.2.2)) fun y25 =>
      Option.bind (F107 N (y25.1, y25.2)) fun y26 =>
      match y26 with
      | .inl y27 =>
        some ((y27.1, y27.2.1))
      | .inr y27 =>
        some ((y27.1, y27.2.1)))
noncomputable def T139 (N : Nat) : Pk → Tr Pk := tellS s139 w139 (F139 N)
theorem T139_ok (N : Nat) : FOK Tryz.prog (139) (T139 N) :=
  (fn_ok2 ownT mix (tab139_ok N) Tryz.func139 s139 w139 [] (cuts := []) trivial (fun _ => by kernel_rfl) (by decide +kernel) (F139 N) (fun x => by kernel_rfl))
@[reducible] def s98 : SP := ⟨[.adr 0 []], [.var 62 (.agg [.adr 1 [], .str, .int .i64, .str, .str, .fv, .bool, .int .i64, .agg [.sl 2], .agg [.agg [.agg [.agg [.bool, .str]]]], .agg [.int .i64, .int .i64, .bool, .bool, .int .i64, .int .i64, .int .i64, .int .i64, .int .i64, .int .i64], .sl 3, .sl 4, .sl 5, .sl 6, .bool, .bool, .agg [.agg [.int .i64, .int .i64, .int .i64, .int .i64], .agg [.int .i64, .int .i64, .int .i64, .int .i64], .bool], .int .i64]), .var 100 (.agg [.int .i64, .int .i64, .sl 7]), .row y0 70, .row (.int .i64) 3, .row y1 58, .row y1 58, .row y1 58, .row (.int .i64) 3]⟩
noncomputable def tab98 (N : Nat) : List (Nat × (Pk → Tr Pk)) := [(130, T130 N), (35, T35 N)]
theorem tab98_ok (N : Nat) : TabOK Tryz.prog (tab98 N) := ⟨T130_ok N, T35_ok N, trivial⟩
@[reducible] def w98 : List SP := [⟨[.agg [.int .i64, .int .i64, .int .i64, .int .i64]], [.var 62 (.agg [.adr 1 [], .str, .int .i64, .str, .str, .fv, .bool, .int .i64, .agg [.sl 2], .agg [.agg [.agg [.agg [.bool, .str]]]], .agg [.int .i64, .int .i64, .bool, .bool, .int .i64, .int .i64, .int .i64, .int .i64, .int .i64, .int .i64], .sl 3, .sl 4, .sl 5, .sl 6, .bool, .bool, .agg [.agg [.int .i64, .int .i64, .int .i64, .int .i64], .agg [.int .i64, .int .i64, .int .i64, .int .i64], .bool], .int .i64]), .var 100 (.agg [.int .i64, .int .i64, .sl 7]), .row y0 70, .row (.int .i64) 3, .row y1 58, .row y1 58, .row y1 58, .row (.int .i64) 3]⟩]
noncomputable def F98 (N : Nat) : (ByteArray × Int × ByteArray × ByteArray × Nat × Bool × Int × Bool × ByteArray × Int × Int × Bool × Bool × Int × Int × Int × Int × Int × Int × Bool × Bool × Int × Int × Int × Int × Int × Int × Int × Int × Bool × Int × Int × Int × (List (Int × (Bool × (Int × ((Int × (Int × (Int × (Int × Unit)))) × ((Int × (Int × (Bool × (Bool × (Int × (Int × (Int × (Int × (Int × (Int × Unit)))))))))) × ((List Int) × (ByteArray × Unit)))))))) × (List Int) × (List (Int × (Int × (Int × (Int × Unit))))) × (List (Int × (Int × (Int × (Int × Unit))))) × (List (Int × (Int × (Int × (Int × Unit))))) × (List Int)) → Option (Int × Int × Int × Int × ByteArray × Int × ByteArray × ByteArray × Nat × Bool × Int × Bool × ByteArray × Int × Int × Bool × Bool × Int × Int × Int × Int × Int × Int × Bool × Bool × Int × Int × Int × Int × Int × Int × Int × Int × Bool × Int × Int × Int × (List (Int × (Bool × (Int × ((Int × (Int × (Int × (Int × Unit)))) × ((Int × (Int × (Bool × (Bool × (Int × (Int × (Int × (Int × (Int × (Int × Unit)))))))))) × ((List Int) × (ByteArray × Unit)))))))) × (List Int) × (List (Int × (Int × (Int × (Int × Unit))))) × (List (Int × (Int × (Int × (Int × Unit))))) × (List (Int × (Int × (Int × (Int × Unit))))) × (List Int))
  | (x0, x1, x2, x3, x4, x5, x6, x7, x8, x9, x10, x11, x12, x13, x14, x15, x16, x17, x18, x19, x20, x21, x22, x23, x24, x25, x26, x27, x28, x29, x30, x31, x32, x33, x34, x35, x36, x37, x38) =>
  Option.bind (F130 N (x31, x32, x38, ())) fun y0 =>
  Option.bind (F35 N (y0.1, y0.2)) fun y1 =>
  some ((y1.1, y1.2.1, y1.2.2.1, y1.2.2.2, x0, x1, x2, x3, x4, x5, x6, x7, x8, x9, x10, x11, x12, x13, x14, x15, x16, x17, x18, x19, x20, x21, x22, x23, x24, x25, x26, x27, x28, x29, x30, x31, x32, x33, x34, x35, x36, x37, x38))
noncomputable def T98 (N : Nat) : Pk → Tr Pk := tellS s98 w98 (F98 N)
theorem T98_ok (N : Nat) : FOK Tryz.prog (98) (T98 N) :=
  (fn_ok2 ownT mix (tab98_ok N) Tryz.func98 s98 w98 [0, 1] (cuts := []) trivial (fun _ => by kernel_rfl) (by decide +kernel) (F98 N) (fun x => by kernel_rfl))
@[reducible] def s161 : SP := ⟨[.int .i64, .int .i64], []⟩
noncomputable def tab161 (N : Nat) : List (Nat × (Pk → Tr Pk)) := []
theorem tab161_ok (N : Nat) : TabOK Tryz.prog (tab161 N) := trivial
@[reducible] def w161 : List SP := [⟨[.bool], []⟩]
noncomputable def F161 (N : Nat) : (Int × Int) → Option (Bool)
  | (x0, x1) =>
  iteP (decide ((-1048576 : Int) ≤ x0)) (
    iteP (decide (x0 ≤ (1048576 : Int))) (
      iteP (decide ((1 : Int) ≤ x1)) (
        iteP (decide (x1 ≤ (2097152 : Int))) (
          some (decide (IntKind.wrap IntKind.i64 (x0 + x1) ≤ (1048576 : Int)))) (
          some (false))) (
        some (false))) (
      some (false))) (
    some (false))
noncomputable def T161 (N : Nat) : Pk → Tr Pk := tellS s161 w161 (F161 N)
theorem T161_ok (N : Nat) : FOK Tryz.prog (161) (T161 N) :=
  (fn_ok2 ownT mix (tab161_ok N) Tryz.func161 s161 w161 [] (cuts := []) trivial (fun _ => by kernel_rfl) (by decide +kernel) (F161 N) (fun x => by kernel_rfl))
@[reducible] def s144 : SP := ⟨[.agg [.int .i64, .int .i64, .int .i64, .int .i64]], []⟩
noncomputable def tab144 (N : Nat) : List (Nat × (Pk → Tr Pk)) := [(161, T161 N)]
theorem tab144_ok (N : Nat) : TabOK Tryz.prog (tab144 N) := ⟨T161_ok N, trivial⟩
@[reducible] def w144 : List SP := [⟨[.bool], []⟩]
noncomputable def F144 (N : Nat) : (Int × Int × Int × Int) → Option (Bool)
  | (x0, x1, x2, x3) =>
  Option.bind (F161 N (x0, x2)) fun y0 =>
  iteP (y0) (
    Option.bind (F161 N (x1, x3)) fun y1 =>
    some (y1)) (
    some (false))
noncomputable def T144 (N : Nat) : Pk → Tr Pk := tellS s144 w144 (F144 N)
theorem T144_ok (N : Nat) : FOK Tryz.prog (144) (T144 N) :=
  (fn_ok2 ownT mix (tab144_ok N) Tryz.func144 s144 w144 [] (cuts := []) trivial (fun _ => by kernel_rfl) (by decide +kernel) (F144 N) (fun x => by kernel_rfl))
@[reducible] def s121 : SP := ⟨[.ro y1], []⟩
noncomputable def tab121 (N : Nat) : List (Nat × (Pk → Tr Pk)) := [(144, T144 N)]
theorem tab121_ok (N : Nat) : TabOK Tryz.prog (tab121 N) := ⟨T144_ok N, trivial⟩
@[reducible] def L121_58 : LD := ⟨58, [3, 8, 7, 6], [(.ret, [2]), (.exit 0, [3])], ⟨[.sl 0, .int .i64, .int .i64, .ro y1], [.row y1 58]⟩, [(.exit 0, ⟨[.sl 0], [.row y1 58]⟩)]⟩
abbrev P121_58 : Type := Int × Int × (List (Int × (Int × (Int × (Int × Unit))))) × (List (Int × (Int × (Int × (Int × Unit)))))
abbrev R121_58 : Type := (List (Int × (Int × (Int × (Int × Unit)))))
noncomputable def B121_58 (N : Nat) (f : P121_58 → Option R121_58) : P121_58 → Option R121_58
  | (x0, x1, x2, x3) =>
  iteP (decide (x0 < x1)) (
    iteP (within x0 (List.length x2)) (
      Option.bind (x2[Int.toNat x0]?) fun y0 =>
      Option.bind (F144 N (y0.1, y0.2.1, y0.2.2.1, y0.2.2.2.1)) fun y1 =>
      iteP (y1) (
        iteP (decide ((List.length x3 + List.length [(y0.1, y0.2.1, y0.2.2.1, y0.2.2.2.1, ())]) * (32 : Nat) ≤ (140737488355328 : Nat) ∧ List.length x3 + List.length [(y0.1, y0.2.1, y0.2.2.1, y0.2.2.2.1, ())] ≤ (140737488355328 : Nat))) (
          Option.bind (f (IntKind.wrap IntKind.i64 (x0 + (1 : Int)), x1, x2, x3 ++ [(y0.1, y0.2.1, y0.2.2.1, y0.2.2.2.1, ())])) fun r => some r) (
          none )) (
        Option.bind (f (IntKind.wrap IntKind.i64 (x0 + (1 : Int)), x1, x2, x3)) fun r => some r)) (
      none )) (
    some (x3))
noncomputable def F121_58 (N : Nat) : Nat → P121_58 → Option R121_58
  | 0, _ => none
  | k + 1, x => B121_58 N (F121_58 N k) x
noncomputable def C121_58 (N : Nat) (k : Nat) : Cut := L121_58.cut (F121_58 N k)
theorem C121_58_ok (N : Nat) (k : Nat) : CutAt Tryz.prog false Tryz.f121 [] 58 (C121_58 N k) :=
  L121_58.loopT ownT mix (tab121_ok N) Tryz.f121 [] (cuts := []) trivial (by decide +kernel) (by kernel_rfl) (B121_58 N) (F121_58 N) (fun _ => rfl) (fun _ _ => rfl) (fun f x => by kernel_rfl) k
@[reducible] def w121 : List SP := [⟨[.sl 0], [.row y1 58]⟩]
noncomputable def F121 (N : Nat) : ((List (Int × (Int × (Int × (Int × Unit)))))) → Option ((List (Int × (Int × (Int × (Int × Unit))))))
  | x0 =>
  Option.bind (F121_58 N N ((0 : Int), (↑(List.length x0) : Int), x0, [])) fun y0 =>
  some (y0)
noncomputable def T121 (N : Nat) : Pk → Tr Pk := postT frzP (tellS s121 w121 (F121 N))
theorem T121_ok (N : Nat) : FOK Tryz.prog (121) (T121 N) :=
  postT_ok frzP_ok (fn_ok2 ownT mix (tab121_ok N) Tryz.func121 s121 w121 [] (cuts := [(58, C121_58 N N)]) ⟨C121_58_ok N N, trivial⟩ (fun _ => by kernel_rfl) (by decide +kernel) (F121 N) (fun x => by kernel_rfl)) (by decide +kernel)
@[reducible] def y4 : Ty := (.sl (.cons (.int .i64) (.cons (.int .i64) (.cons (.int .i64) (.cons (.int .i64) .unit)))))
@[reducible] def s145 : SP := ⟨[.nilsl, .int .i64], []⟩
noncomputable def tab145 (N : Nat) : List (Nat × (Pk → Tr Pk)) := []
theorem tab145_ok (N : Nat) : TabOK Tryz.prog (tab145 N) := trivial
@[reducible] def w145 : List SP := [⟨[.slp 0 (.c 0) (.c 0)], [.row y1 58]⟩, ⟨[.sl 0], [.row y1 58]⟩]
noncomputable def F145 (N : Nat) : (Int) → Option ((((List (Int × (Int × (Int × (Int × Unit)))))) ⊕ ((List (Int × (Int × (Int × (Int × Unit))))))))
  | x0 =>
  iteP (decide (x0 < (0 : Int))) (
    none ) (
    iteP (decide (IntKind.wrap IntKind.i64 (x0 - (0 : Int)) > (0 : Int))) (
      iteP (decide ((0 : Int) < IntKind.wrap IntKind.i64 (x0 - (0 : Int)) ∧ IntKind.wrap IntKind.i64 (x0 - (0 : Int)) * (32 : Int) ≤ (140737488355328 : Int) ∧ IntKind.wrap IntKind.i64 (x0 - (0 : Int)) ≤ (140737488355328 : Int))) (
        iteP (decide ((0 : Int) ≤ (0 : Int) ∧ (0 : Int) ≤ (↑(List.length (List.replicate (Int.toNat (IntKind.wrap IntKind.i64 (x0 - (0 : Int)))) ((0 : Int), (0 : Int), (0 : Int), (0 : Int), ()))) : Int))) (
          some (.inl (List.replicate (Int.toNat (IntKind.wrap IntKind.i64 (x0 - (0 : Int)))) ((0 : Int), (0 : Int), (0 : Int), (0 : Int), ())))) (
          none )) (
        none )) (
      some (.inr ([]))))
noncomputable def T145 (N : Nat) : Pk → Tr Pk := postT (trimP (Ty.cons (Ty.int IntKind.i64) (Ty.cons (Ty.int IntKind.i64) (Ty.cons (Ty.int IntKind.i64) (Ty.cons (Ty.int IntKind.i64) (Ty.unit))))) 58) (tellS s145 w145 (F145 N))
theorem T145_ok (N : Nat) : FOK Tryz.prog (145) (T145 N) :=
  postT_ok (trimP_ok _ _) (fn_ok2 ownT mix (tab145_ok N) Tryz.func145 s145 w145 [] (cuts := []) trivial (fun _ => by kernel_rfl) (by decide +kernel) (F145 N) (fun x => by kernel_rfl)) (by decide +kernel)
@[reducible] def s122 : SP := ⟨[.ro y4], []⟩
noncomputable def tab122 (N : Nat) : List (Nat × (Pk → Tr Pk)) := [(145, T145 N)]
theorem tab122_ok (N : Nat) : TabOK Tryz.prog (tab122 N) := ⟨T145_ok N, trivial⟩
@[reducible] def L122_58 : LD := ⟨58, [3, 11, 10, 0, 9], [(.ret, [2]), (.exit 0, [3, 0])], ⟨[.int .i64, .int .i64, .int .i64, .ro y4, .ro y4], []⟩, [(.exit 0, ⟨[.int .i64, .ro y4], []⟩)]⟩
abbrev P122_58 : Type := Int × Int × Int × (List (List (Int × (Int × (Int × (Int × Unit)))))) × (List (List (Int × (Int × (Int × (Int × Unit))))))
abbrev R122_58 : Type := Int × (List (List (Int × (Int × (Int × (Int × Unit))))))
noncomputable def B122_58 (N : Nat) (f : P122_58 → Option R122_58) : P122_58 → Option R122_58
  | (x0, x1, x2, x3, x4) =>
  iteP (decide (x1 < x2)) (
    iteP (within x1 (List.length x4)) (
      Option.bind (x4[Int.toNat x1]?) fun y0 =>
      iteP (decide (IntKind.wrap IntKind.i64 (x0 + (↑(List.length y0) : Int)) < (0 : Int))) (
        none ) (
        Option.bind (f (IntKind.wrap IntKind.i64 (x0 + (↑(List.length y0) : Int)), IntKind.wrap IntKind.i64 (x1 + (1 : Int)), x2, x3, x4)) fun r => some r)) (
      none )) (
    some ((x0, x3)))
noncomputable def F122_58 (N : Nat) : Nat → P122_58 → Option R122_58
  | 0, _ => none
  | k + 1, x => B122_58 N (F122_58 N k) x
noncomputable def C122_58 (N : Nat) (k : Nat) : Cut := L122_58.cut (F122_58 N k)
theorem C122_58_ok (N : Nat) (k : Nat) : CutAt Tryz.prog false Tryz.f122 [] 58 (C122_58 N k) :=
  L122_58.loopT ownT mix (tab122_ok N) Tryz.f122 [] (cuts := []) trivial (by decide +kernel) (by kernel_rfl) (B122_58 N) (F122_58 N) (fun _ => rfl) (fun _ _ => rfl) (fun f x => by kernel_rfl) k
@[reducible] def L122_250 : LD := ⟨250, [6, 27, 26, 25], [(.ret, [2]), (.exit 2, [6])], ⟨[.sl 0, .int .i64, .int .i64, .ro y4], [.row y1 58]⟩, [(.exit 2, ⟨[.sl 0], [.row y1 58]⟩)]⟩
abbrev P122_250 : Type := Int × Int × (List (List (Int × (Int × (Int × (Int × Unit)))))) × (List (Int × (Int × (Int × (Int × Unit)))))
abbrev R122_250 : Type := (List (Int × (Int × (Int × (Int × Unit)))))
noncomputable def B122_250 (N : Nat) (f : P122_250 → Option R122_250) : P122_250 → Option R122_250
  | (x0, x1, x2, x3) =>
  iteP (decide (x0 < x1)) (
    iteP (within x0 (List.length x2)) (
      Option.bind (x2[Int.toNat x0]?) fun y0 =>
      iteP (decide ((List.length x3 + List.length y0) * (32 : Nat) ≤ (140737488355328 : Nat) ∧ List.length x3 + List.length y0 ≤ (140737488355328 : Nat))) (
        Option.bind (f (IntKind.wrap IntKind.i64 (x0 + (1 : Int)), x1, x2, x3 ++ y0)) fun r => some r) (
        none )) (
      none )) (
    some (x3))
noncomputable def F122_250 (N : Nat) : Nat → P122_250 → Option R122_250
  | 0, _ => none
  | k + 1, x => B122_250 N (F122_250 N k) x
noncomputable def C122_250 (N : Nat) (k : Nat) : Cut := L122_250.cut (F122_250 N k)
theorem C122_250_ok (N : Nat) (k : Nat) : CutAt Tryz.prog false Tryz.f122 [] 250 (C122_250 N k) :=
  L122_250.loopT ownT mix (tab122_ok N) Tryz.f122 [] (cuts := [(58, C122_58 N N)]) ⟨C122_58_ok N N, trivial⟩ (by decide +kernel) (by kernel_rfl) (B122_250 N) (F122_250 N) (fun _ => rfl) (fun _ _ => rfl) (fun f x => by kernel_rfl) k
@[reducible] def w122 : List SP := [⟨[.sl 0], [.row y1 58]⟩]
noncomputable def F122 (N : Nat) : ((List (List (Int × (Int × (Int × (Int × Unit))))))) → Option ((List (Int × (Int × (Int × (Int × Unit))))))
  | x0 =>
  Option.bind (F122_58 N N ((0 : Int), (0 : Int), (↑(List.length x0) : Int), x0, x0)) fun y0 =>
  Option.bind (F145 N y0.1) fun y1 =>
  match y1 with
  | .inl y2 =>
    Option.bind (F122_250 N N ((0 : Int), (↑(List.length y0.2) : Int), y0.2, [])) fun y3 =>
    some (y3)
  | .inr y2 =>
    Option.bind (F122_250 N N ((0 : Int), (↑(List.length y0.2) : Int), y0.2, y2)) fun y4 =>
    some (y4)
noncomputable def T122 (N : Nat) : Pk → Tr Pk := tellS s122 w122 (F122 N)
theorem T122_ok (N : Nat) : FOK Tryz.prog (122) (T122 N) :=
  (fn_ok2 ownT mix (tab122_ok N) Tryz.func122 s122 w122 [] (cuts := [(58, C122_58 N N), (250, C122_250 N N)]) ⟨C122_58_ok N N, C122_250_ok N N, trivial⟩ (fun _ => by kernel_rfl) (by decide +kernel) (F122 N) (fun x => by kernel_rfl))
@[reducible] def s193 : SP := ⟨[.int .i64], []⟩
noncomputable def tab193 (N : Nat) : List (Nat × (Pk → Tr Pk)) := []
theorem tab193_ok (N : Nat) : TabOK Tryz.prog (tab193 N) := trivial
@[reducible] def w193 : List SP := [⟨[.bool], []⟩]
noncomputable def F193 (N : Nat) : (Int) → Option (Bool)
  | x0 =>
  some (x0 != x0)
noncomputable def T193 (N : Nat) : Pk → Tr Pk := tellS s193 w193 (F193 N)
theorem T193_ok (N : Nat) : FOK Tryz.prog (193) (T193 N) :=
  (fn_ok2 ownT mix (tab193_ok N) Tryz.func193 s193 w193 [] (cuts := []) trivial (fun _ => by kernel_rfl) (by decide +kernel) (F193 N) (fun x => by kernel_rfl))
@[reducible] def s178 : SP := ⟨[.int .i64, .int .i64], []⟩
noncomputable def tab178 (N : Nat) : List (Nat × (Pk → Tr Pk)) := [(193, T193 N)]
theorem tab178_ok (N : Nat) : TabOK Tryz.prog (tab178 N) := ⟨T193_ok N, trivial⟩
@[reducible] def w178 : List SP := [⟨[.bool], []⟩]
noncomputable def F178 (N : Nat) : (Int × Int) → Option (Bool)
  | (x0, x1) =>
  Option.bind (F193 N x0) fun y0 =>
  iteP (y0) (
    Option.bind (F193 N x1) fun y1 =>
    iteP (!y1) (
      some (true)) (
      some (decide (x0 < x1)))) (
    some (decide (x0 < x1)))
noncomputable def T178 (N : Nat) : Pk → Tr Pk := tellS s178 w178 (F178 N)
theorem T178_ok (N : Nat) : FOK Tryz.prog (178) (T178 N) :=
  (fn_ok2 ownT mix (tab178_ok N) Tryz.func178 s178 w178 [] (cuts := []) trivial (fun _ => by kernel_rfl) (by decide +kernel) (F178 N) (fun x => by kernel_rfl))
@[reducible] def s172 : SP := ⟨[.slp 0 .h .h, .int .i64, .int .i64], [.row (.int .i64) 3]⟩
noncomputable def tab172 (N : Nat) : List (Nat × (Pk → Tr Pk)) := [(178, T178 N)]
theorem tab172_ok (N : Nat) : TabOK Tryz.prog (tab172 N) := ⟨T178_ok N, trivial⟩
@[reducible] def L172_402 : LD := ⟨402, [7, 1, 2, 6, 0], [(.exit 2, [6, 2, 1, 0]), (.exit 1, [6, 2, 1, 0])], ⟨[.int .i64, .int .i64, .int .i64, .int .i64, .slp 0 .h .h], [.row (.int .i64) 3]⟩, [(.exit 2, ⟨[.int .i64, .int .i64, .int .i64, .slp 0 .h .h], [.row (.int .i64) 3]⟩)]⟩
abbrev P172_402 : Type := Int × Int × Int × Int × Nat × Nat × (List Int)
abbrev R172_402 : Type := Int × Int × Int × Nat × Nat × (List Int)
noncomputable def B172_402 (N : Nat) (f : P172_402 → Option R172_402) : P172_402 → Option R172_402
  | (x0, x1, x2, x3, x4, x5, x6) =>
  iteP (decide (x0 > x1)) (
    iteP (within x0 x5) (
      Option.bind (x6[x4 + Int.toNat x0]?) fun y0 =>
      iteP (within (IntKind.wrap IntKind.i64 (x0 - (1 : Int))) x5) (
        Option.bind (x6[x4 + Int.toNat (IntKind.wrap IntKind.i64 (x0 - (1 : Int)))]?) fun y1 =>
        Option.bind (F178 N (y0, y1)) fun y2 =>
        iteP (y2) (
          iteP (within (IntKind.wrap IntKind.i64 (x0 - (1 : Int))) x5) (
            Option.bind (x6[x4 + Int.toNat (IntKind.wrap IntKind.i64 (x0 - (1 : Int)))]?) fun y3 =>
            iteP (within x0 x5) (
              Option.bind (x6[x4 + Int.toNat x0]?) fun y4 =>
              iteP (within x0 x5) (
                Option.bind (x6[x4 + Int.toNat x0]?) fun y5 =>
                iteP (within (IntKind.wrap IntKind.i64 (x0 - (1 : Int))) x5) (
                  Option.bind ((List.set x6 (x4 + Int.toNat x0) y3)[x4 + Int.toNat (IntKind.wrap IntKind.i64 (x0 - (1 : Int)))]?) fun y6 =>
                  Option.bind (f (IntKind.wrap IntKind.i64 (x0 - (1 : Int)), x1, x2, x3, x4, x5, List.set (List.set x6 (x4 + Int.toNat x0) y3) (x4 + Int.toNat (IntKind.wrap IntKind.i64 (x0 - (1 : Int)))) y4)) fun r => some r) (
                  none )) (
                none )) (
              none )) (
            none )) (
          some ((x3, x2, x1, x4, x5, x6)))) (
        none )) (
      none )) (
    some ((x3, x2, x1, x4, x5, x6)))
noncomputable def F172_402 (N : Nat) : Nat → P172_402 → Option R172_402
  | 0, _ => none
  | k + 1, x => B172_402 N (F172_402 N k) x
noncomputable def C172_402 (N : Nat) (k : Nat) : Cut := L172_402.cut (F172_402 N k)
theorem C172_402_ok (N : Nat) (k : Nat) : CutAt Tryz.prog false Tryz.f172 [0] 402 (C172_402 N k) :=
  L172_402.loopT ownT mix (tab172_ok N) Tryz.f172 [0] (cuts := []) trivial (by decide +kernel) (by kernel_rfl) (B172_402 N) (F172_402 N) (fun _ => rfl) (fun _ _ => rfl) (fun f x => by kernel_rfl) k
@[reducible] def L172_6 : LD := ⟨6, [2, 1, 6, 0], [(.exit 0, [])], ⟨[.int .i64, .int .i64, .int .i64, .slp 0 .h .h], [.row (.int .i64) 3]⟩, [(.exit 0, ⟨[], [.row (.int .i64) 3]⟩)]⟩
abbrev P172_6 : Type := Int × Int × Int × Nat × Nat × (List Int)
abbrev R172_6 : Type := (List Int)
noncomputable def B172_6 (N : Nat) (f : P172_6 → Option R172_6) : P172_6 → Option R172_6
  | (x0, x1, x2, x3, x4, x5) =>
  iteP (decide (x2 < x0)) (
    Option.bind (F172_402 N N (x2, x1, x0, x2, x3, x4, x5)) fun (y0_0, y0_1, y0_2, y0_3, y0_4, y0_5) =>
    Option.bind (f (y0_1, y0_2, IntKind.wrap IntKind.i64 (y0_0 + (1 : Int)), y0_3, y0_4, y0_5)) fun r => some r) (
    some (x5))
noncomputable def F172_6 (N : Nat) : Nat → P172_6 → Option R172_6
  | 0, _ => none
  | k + 1, x => B172_6 N (F172_6 N k) x
noncomputable def C172_6 (N : Nat) (k : Nat) : Cut := L172_6.cut (F172_6 N k)
theorem C172_6_ok (N : Nat) (k : Nat) : CutAt Tryz.prog false Tryz.f172 [0] 6 (C172_6 N k) :=
  L172_6.loopT ownT mix (tab172_ok N) Tryz.f172 [0] (cuts := [(402, C172_402 N N)]) ⟨C172_402_ok N N, trivial⟩ (by decide +kernel) (by kernel_rfl) (B172_6 N) (F172_6 N) (fun _ => rfl) (fun _ _ => rfl) (fun f x => by kernel_rfl) k
@[reducible] def w172 : List SP := [⟨[.tup []], [.row (.int .i64) 3]⟩]
noncomputable def F172 (N : Nat) : (Nat × Nat × Int × Int × (List Int)) → Option ((List Int))
  | (x0, x1, x2, x3, x4) =>
  Option.bind (F172_6 N N (x3, x2, IntKind.wrap IntKind.i64 (x2 + (1 : Int)), x0, x1, x4)) fun y0 =>
  some (y0)
noncomputable def T172 (N : Nat) : Pk → Tr Pk := tellS s172 w172 (F172 N)
theorem T172_ok (N : Nat) : FOK Tryz.prog (172) (T172 N) :=
  (fn_ok2 ownT mix (tab172_ok N) Tryz.func172 s172 w172 [0] (cuts := [(402, C172_402 N N), (6, C172_6 N N)]) ⟨C172_402_ok N N, C172_6_ok N N, trivial⟩ (fun _ => by kernel_rfl) (by decide +kernel) (F172 N) (fun x => by kernel_rfl))
@[reducible] def s188 : SP := ⟨[.slp 0 .h .h, .int .i64, .int .i64, .int .i64], [.row (.int .i64) 3]⟩
noncomputable def tab188 (N : Nat) : List (Nat × (Pk → Tr Pk)) := [(178, T178 N)]
theorem tab188_ok (N : Nat) : TabOK Tryz.prog (tab188 N) := ⟨T178_ok N, trivial⟩
@[reducible] def L188_6 : LD := ⟨6, [8, 0, 3, 2], [(.ret, []), (.exit 0, [])], ⟨[.int .i64, .slp 0 .h .h, .int .i64, .int .i64], [.row (.int .i64) 3]⟩, [(.exit 0, ⟨[], [.row (.int .i64) 3]⟩), (.ret, ⟨[], [.row (.int .i64) 3]⟩)]⟩
abbrev P188_6 : Type := Int × Nat × Nat × Int × Int × (List Int)
abbrev R188_6 : Type := (((List Int)) ⊕ ((List Int)))
noncomputable def B188_6 (N : Nat) (f : P188_6 → Option R188_6) : P188_6 → Option R188_6
  | (x0, x1, x2, x3, x4, x5) =>
  iteP (decide (IntKind.wrap IntKind.i64 (IntKind.wrap IntKind.i64 ((2 : Int) * x0) + (1 : Int)) ≥ x4)) (
    some (.inl (x5))) (
    iteP (decide (IntKind.wrap IntKind.i64 (IntKind.wrap IntKind.i64 (IntKind.wrap IntKind.i64 ((2 : Int) * x0) + (1 : Int)) + (1 : Int)) < x4)) (
      iteP (within (IntKind.wrap IntKind.i64 (x3 + IntKind.wrap IntKind.i64 (IntKind.wrap IntKind.i64 ((2 : Int) * x0) + (1 : Int)))) x2) (
        Option.bind (x5[x1 + Int.toNat (IntKind.wrap IntKind.i64 (x3 + IntKind.wrap IntKind.i64 (IntKind.wrap IntKind.i64 ((2 : Int) * x0) + (1 : Int))))]?) fun y0 =>
        iteP (within (IntKind.wrap IntKind.i64 (IntKind.wrap IntKind.i64 (x3 + IntKind.wrap IntKind.i64 (IntKind.wrap IntKind.i64 ((2 : Int) * x0) + (1 : Int))) + (1 : Int))) x2) (
          Option.bind (x5[x1 + Int.toNat (IntKind.wrap IntKind.i64 (IntKind.wrap IntKind.i64 (x3 + IntKind.wrap IntKind.i64 (IntKind.wrap IntKind.i64 ((2 : Int) * x0) + (1 : Int))) + (1 : Int)))]?) fun y1 =>
          Option.bind (F178 N (y0, y1)) fun y2 =>
          iteP (y2) (
            iteP (within (IntKind.wrap IntKind.i64 (x3 + x0)) x2) (
              Option.bind (x5[x1 + Int.toNat (IntKind.wrap IntKind.i64 (x3 + x0))]?) fun y3 =>
              iteP (within (IntKind.wrap IntKind.i64 (x3 + IntKind.wrap IntKind.i64 (IntKind.wrap IntKind.i64 (IntKind.wrap IntKind.i64 ((2 : Int) * x0) + (1 : Int)) + (1 : Int)))) x2) (
                Option.bind (x5[x1 + Int.toNat (IntKind.wrap IntKind.i64 (x3 + IntKind.wrap IntKind.i64 (IntKind.wrap IntKind.i64 (IntKind.wrap IntKind.i64 ((2 : Int) * x0) + (1 : Int)) + (1 : Int))))]?) fun y4 =>
                Option.bind (F178 N (y3, y4)) fun y5 =>
                iteP (!y5) (
                  some (.inr (x5))) (
                  iteP (within (IntKind.wrap IntKind.i64 (x3 + IntKind.wrap IntKind.i64 (IntKind.wrap IntKind.i64 (IntKind.wrap IntKind.i64 ((2 : Int) * x0) + (1 : Int)) + (1 : Int)))) x2) (
                    Option.bind (x5[x1 + Int.toNat (IntKind.wrap IntKind.i64 (x3 + IntKind.wrap IntKind.i64 (IntKind.wrap IntKind.i64 (IntKind.wrap IntKind.i64 ((2 : Int) * x0) + (1 : Int)) + (1 : Int))))]?) fun y6 =>
                    iteP (within (IntKind.wrap IntKind.i64 (x3 + x0)) x2) (
                      Option.bind (x5[x1 + Int.toNat (IntKind.wrap IntKind.i64 (x3 + x0))]?) fun y7 =>
                      iteP (within (IntKind.wrap IntKind.i64 (x3 + x0)) x2) (
                        Option.bind (x5[x1 + Int.toNat (IntKind.wrap IntKind.i64 (x3 + x0))]?) fun y8 =>
                        iteP (within (IntKind.wrap IntKind.i64 (x3 + IntKind.wrap IntKind.i64 (IntKind.wrap IntKind.i64 (IntKind.wrap IntKind.i64 ((2 : Int) * x0) + (1 : Int)) + (1 : Int)))) x2) (
                          Option.bind ((List.set x5 (x1 + Int.toNat (IntKind.wrap IntKind.i64 (x3 + x0))) y6)[x1 + Int.toNat (IntKind.wrap IntKind.i64 (x3 + IntKind.wrap IntKind.i64 (IntKind.wrap IntKind.i64 (IntKind.wrap IntKind.i64 ((2 : Int) * x0) + (1 : Int)) + (1 : Int))))]?) fun y9 =>
                          Option.bind (f (IntKind.wrap IntKind.i64 (IntKind.wrap IntKind.i64 (IntKind.wrap IntKind.i64 ((2 : Int) * x0) + (1 : Int)) + (1 : Int)), x1, x2, x3, x4, List.set (List.set x5 (x1 + Int.toNat (IntKind.wrap IntKind.i64 (x3 + x0))) y6) (x1 + Int.toNat (IntKind.wrap IntKind.i64 (x3 + IntKind.wrap IntKind.i64 (IntKind.wrap IntKind.i64 (IntKind.wrap IntKind.i64 ((2 : Int) * x0) + (1 : Int)) + (1 : Int))))) y7)) fun r => match r with | .inl y => some (.inl y) | .inr y => some (.inr y)) (
                          none )) (
                        none )) (
                      none )) (
                    none ))) (
                none )) (
              none )) (
            iteP (within (IntKind.wrap IntKind.i64 (x3 + x0)) x2) (
              Option.bind (x5[x1 + Int.toNat (IntKind.wrap IntKind.i64 (x3 + x0))]?) fun y10 =>
              iteP (within (IntKind.wrap IntKind.i64 (x3 + IntKind.wrap IntKind.i64 (IntKind.wrap IntKind.i64 ((2 : Int) * x0) + (1 : Int)))) x2) (
                Option.bind (x5[x1 + Int.toNat (IntKind.wrap IntKind.i64 (x3 + IntKind.wrap IntKind.i64 (IntKind.wrap IntKind.i64 ((2 : Int) * x0) + (1 : Int))))]?) fun y11 =>
                Option.bind (F178 N (y10, y11)) fun y12 =>
                iteP (!y12) (
                  some (.inr (x5))) (
                  iteP (within (IntKind.wrap IntKind.i64 (x3 + IntKind.wrap IntKind.i64 (IntKind.wrap IntKind.i64 ((2 : Int) * x0) + (1 : Int)))) x2) (
                    Option.bind (x5[x1 + Int.toNat (IntKind.wrap IntKind.i64 (x3 + IntKind.wrap IntKind.i64 (IntKind.wrap IntKind.i64 ((2 : Int) * x0) + (1 : Int))))]?) fun y13 =>
                    iteP (within (IntKind.wrap IntKind.i64 (x3 + x0)) x2) (
                      Option.bind (x5[x1 + Int.toNat (IntKind.wrap IntKind.i64 (x3 + x0))]?) fun y14 =>
                      iteP (within (IntKind.wrap IntKind.i64 (x3 + x0)) x2) (
                        Option.bind (x5[x1 + Int.toNat (IntKind.wrap IntKind.i64 (x3 + x0))]?) fun y15 =>
                        iteP (within (IntKind.wrap IntKind.i64 (x3 + IntKind.wrap IntKind.i64 (IntKind.wrap IntKind.i64 ((2 : Int) * x0) + (1 : Int)))) x2) (
                          Option.bind ((List.set x5 (x1 + Int.toNat (IntKind.wrap IntKind.i64 (x3 + x0))) y13)[x1 + Int.toNat (IntKind.wrap IntKind.i64 (x3 + IntKind.wrap IntKind.i64 (IntKind.wrap IntKind.i64 ((2 : Int) * x0) + (1 : Int))))]?) fun y16 =>
                          Option.bind (f (IntKind.wrap IntKind.i64 (IntKind.wrap IntKind.i64 ((2 : Int) * x0) + (1 : Int)), x1, x2, x3, x4, List.set (List.set x5 (x1 + Int.toNat (IntKind.wrap IntKind.i64 (x3 + x0))) y13) (x1 + Int.toNat (IntKind.wrap IntKind.i64 (x3 + IntKind.wrap IntKind.i64 (IntKind.wrap IntKind.i64 ((2 : Int) * x0) + (1 : Int))))) y14)) fun r => match r with | .inl y => some (.inl y) | .inr y => some (.inr y)) (
                          none )) (
                        none )) (
                      none )) (
                    none ))) (
                none )) (
              none ))) (
          none )) (
        none )) (
      iteP (within (IntKind.wrap IntKind.i64 (x3 + x0)) x2) (
        Option.bind (x5[x1 + Int.toNat (IntKind.wrap IntKind.i64 (x3 + x0))]?) fun y17 =>
        iteP (within (IntKind.wrap IntKind.i64 (x3 + IntKind.wrap IntKind.i64 (IntKind.wrap IntKind.i64 ((2 : Int) * x0) + (1 : Int)))) x2) (
          Option.bind (x5[x1 + Int.toNat (IntKind.wrap IntKind.i64 (x3 + IntKind.wrap IntKind.i64 (IntKind.wrap IntKind.i64 ((2 : Int) * x0) + (1 : Int))))]?) fun y18 =>
          Option.bind (F178 N (y17, y18)) fun y19 =>
          iteP (!y19) (
            some (.inr (x5))) (
            iteP (within (IntKind.wrap IntKind.i64 (x3 + IntKind.wrap IntKind.i64 (IntKind.wrap IntKind.i64 ((2 : Int) * x0) + (1 : Int)))) x2) (
              Option.bind (x5[x1 + Int.toNat (IntKind.wrap IntKind.i64 (x3 + IntKind.wrap IntKind.i64 (IntKind.wrap IntKind.i64 ((2 : Int) * x0) + (1 : Int))))]?) fun y20 =>
              iteP (within (IntKind.wrap IntKind.i64 (x3 + x0)) x2) (
                Option.bind (x5[x1 + Int.toNat (IntKind.wrap IntKind.i64 (x3 + x0))]?) fun y21 =>
                iteP (within (IntKind.wrap IntKind.i64 (x3 + x0)) x2) (
                  Option.bind (x5[x1 + Int.toNat (IntKind.wrap IntKind.i64 (x3 + x0))]?) fun y22 =>
                  iteP (within (IntKind.wrap IntKind.i64 (x3 + IntKind.wrap IntKind.i64 (IntKind.wrap IntKind.i64 ((2 : Int) * x0) + (1 : Int)))) x2) (
                    Option.bind ((List.set x5 (x1 + Int.toNat (IntKind.wrap IntKind.i64 (x3 + x0))) y20)[x1 + Int.toNat (IntKind.wrap IntKind.i64 (x3 + IntKind.wrap IntKind.i64 (IntKind.wrap IntKind.i64 ((2 : Int) * x0) + (1 : Int))))]?) fun y23 =>
                    Option.bind (f (IntKind.wrap IntKind.i64 (IntKind.wrap IntKind.i64 ((2 : Int) * x0) + (1 : Int)), x1, x2, x3, x4, List.set (List.set x5 (x1 + Int.toNat (IntKind.wrap IntKind.i64 (x3 + x0))) y20) (x1 + Int.toNat (IntKind.wrap IntKind.i64 (x3 + IntKind.wrap IntKind.i64 (IntKind.wrap IntKind.i64 ((2 : Int) * x0) + (1 : Int))))) y21)) fun r => match r with | .inl y => some (.inl y) | .inr y => some (.inr y)) (
                    none )) (
                  none )) (
                none )) (
              none ))) (
          none )) (
        none )))
noncomputable def F188_6 (N : Nat) : Nat → P188_6 → Option R188_6
  | 0, _ => none
  | k + 1, x => B188_6 N (F188_6 N k) x
noncomputable def C188_6 (N : Nat) (k : Nat) : Cut := L188_6.cut (F188_6 N k)
theorem C188_6_ok (N : Nat) (k : Nat) : CutAt Tryz.prog false Tryz.f188 [0] 6 (C188_6 N k) :=
  L188_6.loopT ownT mix (tab188_ok N) Tryz.f188 [0] (cuts := []) trivial (by decide +kernel) (by kernel_rfl) (B188_6 N) (F188_6 N) (fun _ => rfl) (fun _ _ => rfl) (fun f x => by kernel_rfl) k
@[reducible] def w188 : List SP := [⟨[.tup []], [.row (.int .i64) 3]⟩]
noncomputable def F188 (N : Nat) : (Nat × Nat × Int × Int × Int × (List Int)) → Option ((List Int))
  | (x0, x1, x2, x3, x4, x5) =>
  Option.bind (F188_6 N N (x2, x0, x1, x4, x3, x5)) fun y0 =>
  match y0 with
  | .inl y1 =>
    some (y1)
  | .inr y1 =>
    some (y1)
noncomputable def T188 (N : Nat) : Pk → Tr Pk := tellS s188 w188 (F188 N)
theorem T188_ok (N : Nat) : FOK Tryz.prog (188) (T188 N) :=
  (fn_ok2 ownT mix (tab188_ok N) Tryz.func188 s188 w188 [0] (cuts := [(6, C188_6 N N)]) ⟨C188_6_ok N N, trivial⟩ (fun _ => by kernel_rfl) (by decide +kernel) (F188 N) (fun x => by kernel_rfl))
@[reducible] def s173 : SP := ⟨[.slp 0 .h .h, .int .i64, .int .i64], [.row (.int .i64) 3]⟩
noncomputable def tab173 (N : Nat) : List (Nat × (Pk → Tr Pk)) := [(188, T188 N)]
theorem tab173_ok (N : Nat) : TabOK Tryz.prog (tab173 N) := ⟨T188_ok N, trivial⟩
@[reducible] def L173_122 : LD := ⟨122, [9, 7, 0, 8, 6], [(.exit 0, [8, 0, 7, 6])], ⟨[.int .i64, .int .i64, .slp 0 .h .h, .int .i64, .int .i64], [.row (.int .i64) 3]⟩, [(.exit 0, ⟨[.int .i64, .slp 0 .h .h, .int .i64, .int .i64], [.row (.int .i64) 3]⟩)]⟩
abbrev P173_122 : Type := Int × Int × Nat × Nat × Int × Int × (List Int)
abbrev R173_122 : Type := Int × Nat × Nat × Int × Int × (List Int)
noncomputable def B173_122 (N : Nat) (f : P173_122 → Option R173_122) : P173_122 → Option R173_122
  | (x0, x1, x2, x3, x4, x5, x6) =>
  iteP (decide (x0 ≥ (0 : Int))) (
    Option.bind (F188 N (x2, x3, x0, x4, x5, x6)) fun y0 =>
    Option.bind (f (IntKind.wrap IntKind.i64 (x0 - (1 : Int)), x1, x2, x3, x4, x5, y0)) fun r => some r) (
    some ((x4, x2, x3, x1, x5, x6)))
noncomputable def F173_122 (N : Nat) : Nat → P173_122 → Option R173_122
  | 0, _ => none
  | k + 1, x => B173_122 N (F173_122 N k) x
noncomputable def C173_122 (N : Nat) (k : Nat) : Cut := L173_122.cut (F173_122 N k)
theorem C173_122_ok (N : Nat) (k : Nat) : CutAt Tryz.prog false Tryz.f173 [0] 122 (C173_122 N k) :=
  L173_122.loopT ownT mix (tab173_ok N) Tryz.f173 [0] (cuts := []) trivial (by decide +kernel) (by kernel_rfl) (B173_122 N) (F173_122 N) (fun _ => rfl) (fun _ _ => rfl) (fun f x => by kernel_rfl) k
@[reducible] def L173_126 : LD := ⟨126, [10, 0, 7, 6], [(.exit 2, [])], ⟨[.int .i64, .slp 0 .h .h, .int .i64, .int .i64], [.row (.int .i64) 3]⟩, [(.exit 2, ⟨[], [.row (.int .i64) 3]⟩)]⟩
abbrev P173_126 : Type := Int × Nat × Nat × Int × Int × (List Int)
abbrev R173_126 : Type := (List Int)
noncomputable def B173_126 (N : Nat) (f : P173_126 → Option R173_126) : P173_126 → Option R173_126
  | (x0, x1, x2, x3, x4, x5) =>
  iteP (decide (x0 ≥ (0 : Int))) (
    iteP (within (IntKind.wrap IntKind.i64 (x4 + x0)) x2) (
      Option.bind (x5[x1 + Int.toNat (IntKind.wrap IntKind.i64 (x4 + x0))]?) fun y0 =>
      iteP (within x4 x2) (
        Option.bind (x5[x1 + Int.toNat x4]?) fun y1 =>
        iteP (within x4 x2) (
          Option.bind (x5[x1 + Int.toNat x4]?) fun y2 =>
          iteP (within (IntKind.wrap IntKind.i64 (x4 + x0)) x2) (
            Option.bind ((List.set x5 (x1 + Int.toNat x4) y0)[x1 + Int.toNat (IntKind.wrap IntKind.i64 (x4 + x0))]?) fun y3 =>
            Option.bind (F188 N (x1, x2, x3, x0, x4, List.set (List.set x5 (x1 + Int.toNat x4) y0) (x1 + Int.toNat (IntKind.wrap IntKind.i64 (x4 + x0))) y1)) fun y4 =>
            Option.bind (f (IntKind.wrap IntKind.i64 (x0 - (1 : Int)), x1, x2, x3, x4, y4)) fun r => some r) (
            none )) (
          none )) (
        none )) (
      none )) (
    some (x5))
noncomputable def F173_126 (N : Nat) : Nat → P173_126 → Option R173_126
  | 0, _ => none
  | k + 1, x => B173_126 N (F173_126 N k) x
noncomputable def C173_126 (N : Nat) (k : Nat) : Cut := L173_126.cut (F173_126 N k)
theorem C173_126_ok (N : Nat) (k : Nat) : CutAt Tryz.prog false Tryz.f173 [0] 126 (C173_126 N k) :=
  L173_126.loopT ownT mix (tab173_ok N) Tryz.f173 [0] (cuts := [(122, C173_122 N N)]) ⟨C173_122_ok N N, trivial⟩ (by decide +kernel) (by kernel_rfl) (B173_126 N) (F173_126 N) (fun _ => rfl) (fun _ _ => rfl) (fun f x => by kernel_rfl) k
@[reducible] def w173 : List SP := [⟨[.tup []], [.row (.int .i64) 3]⟩]
noncomputable def F173 (N : Nat) : (Nat × Nat × Int × Int × (List Int)) → Option ((List Int))
  | (x0, x1, x2, x3, x4) =>
  Option.bind (F173_122 N N (IntKind.wrap IntKind.i64 (Int.tdiv (IntKind.wrap IntKind.i64 (IntKind.wrap IntKind.i64 (x3 - x2) - (1 : Int))) (2 : Int)), (0 : Int), x0, x1, IntKind.wrap IntKind.i64 (x3 - x2), x2, x4)) fun (y0_0, y0_1, y0_2, y0_3, y0_4, y0_5) =>
  Option.bind (F173_126 N N (IntKind.wrap IntKind.i64 (y0_0 - (1 : Int)), y0_1, y0_2, y0_3, y0_4, y0_5)) fun y1 =>
  some (y1)
noncomputable def T173 (N : Nat) : Pk → Tr Pk := tellS s173 w173 (F173 N)
theorem T173_ok (N : Nat) : FOK Tryz.prog (173) (T173 N) :=
  (fn_ok2 ownT mix (tab173_ok N) Tryz.func173 s173 w173 [0] (cuts := [(122, C173_122 N N), (126, C173_126 N N)]) ⟨C173_122_ok N N, C173_126_ok N N, trivial⟩ (fun _ => by kernel_rfl) (by decide +kernel) (F173 N) (fun x => by kernel_rfl))
@[reducible] def s189 : SP := ⟨[.int .i64], []⟩
noncomputable def tab189 (N : Nat) : List (Nat × (Pk → Tr Pk)) := [(151, T151 N)]
theorem tab189_ok (N : Nat) : TabOK Tryz.prog (tab189 N) := ⟨T151_ok N, trivial⟩
@[reducible] def w189 : List SP := [⟨[.int .u64], []⟩]
noncomputable def F189 (N : Nat) : (Int) → Option (Int)
  | x0 =>
  Option.bind (F151 N (IntKind.wrap IntKind.u64 x0)) fun y0 =>
  iteP (decide (y0 < (0 : Int))) (
    none ) (
    some (IntKind.wrap IntKind.u64 ((1 : Int) * (2 : Int) ^ min (Int.toNat y0) (64 : Nat))))
noncomputable def T189 (N : Nat) : Pk → Tr Pk := tellS s189 w189 (F189 N)
theorem T189_ok (N : Nat) : FOK Tryz.prog (189) (T189 N) :=
  (fn_ok2 ownT mix (tab189_ok N) Tryz.func189 s189 w189 [] (cuts := []) trivial (fun _ => by kernel_rfl) (by decide +kernel) (F189 N) (fun x => by kernel_rfl))
@[reducible] def s190 : SP := ⟨[.adr 0 []], [.var 238 (.int .u64)]⟩
noncomputable def tab190 (N : Nat) : List (Nat × (Pk → Tr Pk)) := []
theorem tab190_ok (N : Nat) : TabOK Tryz.prog (tab190 N) := trivial
@[reducible] def w190 : List SP := [⟨[.int .u64], [.var 238 (.int .u64)]⟩]
noncomputable def F190 (N : Nat) : (Int) → Option (Int × Int)
  | x0 =>
  some ((IntKind.wrap IntKind.u64 (↑(BitVec.toNat (BitVec.ofInt (64 : Nat) (IntKind.wrap IntKind.u64 (↑(BitVec.toNat (BitVec.ofInt (64 : Nat) (IntKind.wrap IntKind.u64 (↑(BitVec.toNat (BitVec.ofInt (64 : Nat) x0 ^^^ BitVec.ofInt (64 : Nat) (IntKind.wrap IntKind.u64 (x0 * (8192 : Int))))) : Int)) ^^^ BitVec.ofInt (64 : Nat) (Int.fdiv (IntKind.wrap IntKind.u64 (↑(BitVec.toNat (BitVec.ofInt (64 : Nat) x0 ^^^ BitVec.ofInt (64 : Nat) (IntKind.wrap IntKind.u64 (x0 * (8192 : Int))))) : Int)) (128 : Int)))) : Int)) ^^^ BitVec.ofInt (64 : Nat) (IntKind.wrap IntKind.u64 (IntKind.wrap IntKind.u64 (↑(BitVec.toNat (BitVec.ofInt (64 : Nat) (IntKind.wrap IntKind.u64 (↑(BitVec.toNat (BitVec.ofInt (64 : Nat) x0 ^^^ BitVec.ofInt (64 : Nat) (IntKind.wrap IntKind.u64 (x0 * (8192 : Int))))) : Int)) ^^^ BitVec.ofInt (64 : Nat) (Int.fdiv (IntKind.wrap IntKind.u64 (↑(BitVec.toNat (BitVec.ofInt (64 : Nat) x0 ^^^ BitVec.ofInt (64 : Nat) (IntKind.wrap IntKind.u64 (x0 * (8192 : Int))))) : Int)) (128 : Int)))) : Int) * (131072 : Int))))) : Int), IntKind.wrap IntKind.u64 (↑(BitVec.toNat (BitVec.ofInt (64 : Nat) (IntKind.wrap IntKind.u64 (↑(BitVec.toNat (BitVec.ofInt (64 : Nat) (IntKind.wrap IntKind.u64 (↑(BitVec.toNat (BitVec.ofInt (64 : Nat) x0 ^^^ BitVec.ofInt (64 : Nat) (IntKind.wrap IntKind.u64 (x0 * (8192 : Int))))) : Int)) ^^^ BitVec.ofInt (64 : Nat) (Int.fdiv (IntKind.wrap IntKind.u64 (↑(BitVec.toNat (BitVec.ofInt (64 : Nat) x0 ^^^ BitVec.ofInt (64 : Nat) (IntKind.wrap IntKind.u64 (x0 * (8192 : Int))))) : Int)) (128 : Int)))) : Int)) ^^^ BitVec.ofInt (64 : Nat) (IntKind.wrap IntKind.u64 (IntKind.wrap IntKind.u64 (↑(BitVec.toNat (BitVec.ofInt (64 : Nat) (IntKind.wrap IntKind.u64 (↑(BitVec.toNat (BitVec.ofInt (64 : Nat) x0 ^^^ BitVec.ofInt (64 : Nat) (IntKind.wrap IntKind.u64 (x0 * (8192 : Int))))) : Int)) ^^^ BitVec.ofInt (64 : Nat) (Int.fdiv (IntKind.wrap IntKind.u64 (↑(BitVec.toNat (BitVec.ofInt (64 : Nat) x0 ^^^ BitVec.ofInt (64 : Nat) (IntKind.wrap IntKind.u64 (x0 * (8192 : Int))))) : Int)) (128 : Int)))) : Int) * (131072 : Int))))) : Int)))
noncomputable def T190 (N : Nat) : Pk → Tr Pk := tellS s190 w190 (F190 N)
theorem T190_ok (N : Nat) : FOK Tryz.prog (190) (T190 N) :=
  (fn_ok2 ownT mix (tab190_ok N) Tryz.func190 s190 w190 [0] (cuts := []) trivial (fun _ => by kernel_rfl) (by decide +kernel) (F190 N) (fun x => by kernel_rfl))
@[reducible] def s174 : SP := ⟨[.slp 0 .h .h, .int .i64, .int .i64], [.row (.int .i64) 3]⟩
noncomputable def tab174 (N : Nat) : List (Nat × (Pk → Tr Pk)) := [(189, T189 N), (190, T190 N)]
theorem tab174_ok (N : Nat) : TabOK Tryz.prog (tab174 N) := ⟨T189_ok N, T190_ok N, trivial⟩
@[reducible] def L174_238 : LD := ⟨238, [9, 7, 8, 6, 1, 0], [(.exit 0, [])], ⟨[.int .i64, .adr 1 [], .int .u64, .int .i64, .int .i64, .slp 0 .h .h], [.row (.int .i64) 3, .var 238 (.int .u64)]⟩, [(.exit 0, ⟨[], [.row (.int .i64) 3]⟩)]⟩
abbrev P174_238 : Type := Int × Int × Int × Int × Nat × Nat × (List Int) × Int
abbrev R174_238 : Type := (List Int)
noncomputable def B174_238 (N : Nat) (f : P174_238 → Option R174_238) : P174_238 → Option R174_238
  | (x0, x1, x2, x3, x4, x5, x6, x7) =>
  iteP (decide (x0 ≤ IntKind.wrap IntKind.i64 (IntKind.wrap IntKind.i64 (x3 + IntKind.wrap IntKind.i64 (IntKind.wrap IntKind.i64 (Int.tdiv x2 (4 : Int)) * (2 : Int))) + (1 : Int)))) (
    Option.bind (F190 N x7) fun y0 =>
    iteP (decide (IntKind.wrap IntKind.i64 (IntKind.wrap IntKind.u64 (↑(BitVec.toNat (BitVec.ofInt (64 : Nat) y0.1 &&& BitVec.ofInt (64 : Nat) (IntKind.wrap IntKind.u64 (x1 - (1 : Int))))) : Int)) ≥ x2)) (
      iteP (within (IntKind.wrap IntKind.i64 (x3 + IntKind.wrap IntKind.i64 (IntKind.wrap IntKind.i64 (IntKind.wrap IntKind.u64 (↑(BitVec.toNat (BitVec.ofInt (64 : Nat) y0.1 &&& BitVec.ofInt (64 : Nat) (IntKind.wrap IntKind.u64 (x1 - (1 : Int))))) : Int)) - x2))) x5) (
        Option.bind (x6[x4 + Int.toNat (IntKind.wrap IntKind.i64 (x3 + IntKind.wrap IntKind.i64 (IntKind.wrap IntKind.i64 (IntKind.wrap IntKind.u64 (↑(BitVec.toNat (BitVec.ofInt (64 : Nat) y0.1 &&& BitVec.ofInt (64 : Nat) (IntKind.wrap IntKind.u64 (x1 - (1 : Int))))) : Int)) - x2)))]?) fun y1 =>
        iteP (within x0 x5) (
          Option.bind (x6[x4 + Int.toNat x0]?) fun y2 =>
          iteP (within x0 x5) (
            Option.bind (x6[x4 + Int.toNat x0]?) fun y3 =>
            iteP (within (IntKind.wrap IntKind.i64 (x3 + IntKind.wrap IntKind.i64 (IntKind.wrap IntKind.i64 (IntKind.wrap IntKind.u64 (↑(BitVec.toNat (BitVec.ofInt (64 : Nat) y0.1 &&& BitVec.ofInt (64 : Nat) (IntKind.wrap IntKind.u64 (x1 - (1 : Int))))) : Int)) - x2))) x5) (
              Option.bind ((List.set x6 (x4 + Int.toNat x0) y1)[x4 + Int.toNat (IntKind.wrap IntKind.i64 (x3 + IntKind.wrap IntKind.i64 (IntKind.wrap IntKind.i64 (IntKind.wrap IntKind.u64 (↑(BitVec.toNat (BitVec.ofInt (64 : Nat) y0.1 &&& BitVec.ofInt (64 : Nat) (IntKind.wrap IntKind.u64 (x1 - (1 : Int))))) : Int)) - x2)))]?) fun y4 =>
              Option.bind (f (IntKind.wrap IntKind.i64 (x0 + (1 : Int)), x1, x2, x3, x4, x5, List.set (List.set x6 (x4 + Int.toNat x0) y1) (x4 + Int.toNat (IntKind.wrap IntKind.i64 (x3 + IntKind.wrap IntKind.i64 (IntKind.wrap IntKind.i64 (IntKind.wrap IntKind.u64 (↑(BitVec.toNat (BitVec.ofInt (64 : Nat) y0.1 &&& BitVec.ofInt (64 : Nat) (IntKind.wrap IntKind.u64 (x1 - (1 : Int))))) : Int)) - x2)))) y2, y0.2)) fun r => some r) (
              none )) (
            none )) (
          none )) (
        none )) (
      iteP (within (IntKind.wrap IntKind.i64 (x3 + IntKind.wrap IntKind.i64 (IntKind.wrap IntKind.u64 (↑(BitVec.toNat (BitVec.ofInt (64 : Nat) y0.1 &&& BitVec.ofInt (64 : Nat) (IntKind.wrap IntKind.u64 (x1 - (1 : Int))))) : Int)))) x5) (
        Option.bind (x6[x4 + Int.toNat (IntKind.wrap IntKind.i64 (x3 + IntKind.wrap IntKind.i64 (IntKind.wrap IntKind.u64 (↑(BitVec.toNat (BitVec.ofInt (64 : Nat) y0.1 &&& BitVec.ofInt (64 : Nat) (IntKind.wrap IntKind.u64 (x1 - (1 : Int))))) : Int))))]?) fun y5 =>
        iteP (within x0 x5) (
          Option.bind (x6[x4 + Int.toNat x0]?) fun y6 =>
          iteP (within x0 x5) (
            Option.bind (x6[x4 + Int.toNat x0]?) fun y7 =>
            iteP (within (IntKind.wrap IntKind.i64 (x3 + IntKind.wrap IntKind.i64 (IntKind.wrap IntKind.u64 (↑(BitVec.toNat (BitVec.ofInt (64 : Nat) y0.1 &&& BitVec.ofInt (64 : Nat) (IntKind.wrap IntKind.u64 (x1 - (1 : Int))))) : Int)))) x5) (
              Option.bind ((List.set x6 (x4 + Int.toNat x0) y5)[x4 + Int.toNat (IntKind.wrap IntKind.i64 (x3 + IntKind.wrap IntKind.i64 (IntKind.wrap IntKind.u64 (↑(BitVec.toNat (BitVec.ofInt (64 : Nat) y0.1 &&& BitVec.ofInt (64 : Nat) (IntKind.wrap IntKind.u64 (x1 - (1 : Int))))) : Int))))]?) fun y8 =>
              Option.bind (f (IntKind.wrap IntKind.i64 (x0 + (1 : Int)), x1, x2, x3, x4, x5, List.set (List.set x6 (x4 + Int.toNat x0) y5) (x4 + Int.toNat (IntKind.wrap IntKind.i64 (x3 + IntKind.wrap IntKind.i64 (IntKind.wrap IntKind.u64 (↑(BitVec.toNat (BitVec.ofInt (64 : Nat) y0.1 &&& BitVec.ofInt (64 : Nat) (IntKind.wrap IntKind.u64 (x1 - (1 : Int))))) : Int))))) y6, y0.2)) fun r => some r) (
              none )) (
            none )) (
          none )) (
        none ))) (
    some (x6))
noncomputable def F174_238 (N : Nat) : Nat → P174_238 → Option R174_238
  | 0, _ => none
  | k + 1, x => B174_238 N (F174_238 N k) x
noncomputable def C174_238 (N : Nat) (k : Nat) : Cut := L174_238.cut (F174_238 N k)
theorem C174_238_ok (N : Nat) (k : Nat) : CutAt Tryz.prog false Tryz.f174 [0] 238 (C174_238 N k) :=
  L174_238.loopT ownT mix (tab174_ok N) Tryz.f174 [0] (cuts := []) trivial (by decide +kernel) (by kernel_rfl) (B174_238 N) (F174_238 N) (fun _ => rfl) (fun _ _ => rfl) (fun f x => by kernel_rfl) k
@[reducible] def w174 : List SP := [⟨[.tup []], [.row (.int .i64) 3]⟩]
noncomputable def F174 (N : Nat) : (Nat × Nat × Int × Int × (List Int)) → Option ((List Int))
  | (x0, x1, x2, x3, x4) =>
  iteP (decide (IntKind.wrap IntKind.i64 (x3 - x2) ≥ (8 : Int))) (
    Option.bind (F189 N (IntKind.wrap IntKind.i64 (x3 - x2))) fun y0 =>
    Option.bind (F174_238 N N (IntKind.wrap IntKind.i64 (IntKind.wrap IntKind.i64 (x2 + IntKind.wrap IntKind.i64 (IntKind.wrap IntKind.i64 (Int.tdiv (IntKind.wrap IntKind.i64 (x3 - x2)) (4 : Int)) * (2 : Int))) - (1 : Int)), y0, IntKind.wrap IntKind.i64 (x3 - x2), x2, x0, x1, x4, IntKind.wrap IntKind.u64 (IntKind.wrap IntKind.i64 (x3 - x2)))) fun y1 =>
    some (y1)) (
    some (x4))
noncomputable def T174 (N : Nat) : Pk → Tr Pk := tellS s174 w174 (F174 N)
theorem T174_ok (N : Nat) : FOK Tryz.prog (174) (T174 N) :=
  (fn_ok2 ownT mix (tab174_ok N) Tryz.func174 s174 w174 [0] (cuts := [(238, C174_238 N N)]) ⟨C174_238_ok N N, trivial⟩ (fun _ => by kernel_rfl) (by decide +kernel) (F174 N) (fun x => by kernel_rfl))
@[reducible] def s198 : SP := ⟨[.ro (.int .i64), .int .i64, .int .i64, .adr 0 []], [.var 3 (.int .i64)]⟩
noncomputable def tab198 (N : Nat) : List (Nat × (Pk → Tr Pk)) := [(178, T178 N)]
theorem tab198_ok (N : Nat) : TabOK Tryz.prog (tab198 N) := ⟨T178_ok N, trivial⟩
@[reducible] def w198 : List SP := [⟨[.tup [.int .i64, .int .i64]], [.var 3 (.int .i64)]⟩]
noncomputable def F198 (N : Nat) : ((List Int) × Int × Int × Int) → Option (Int × Int × Int)
  | (x0, x1, x2, x3) =>
  iteP (within x2 (List.length x0)) (
    Option.bind (x0[Int.toNat x2]?) fun y0 =>
    iteP (within x1 (List.length x0)) (
      Option.bind (x0[Int.toNat x1]?) fun y1 =>
      Option.bind (F178 N (y0, y1)) fun y2 =>
      iteP (y2) (
        some ((x2, x1, IntKind.wrap IntKind.i64 (x3 + (1 : Int))))) (
        some ((x1, x2, x3)))) (
      none )) (
    none )
noncomputable def T198 (N : Nat) : Pk → Tr Pk := tellS s198 w198 (F198 N)
theorem T198_ok (N : Nat) : FOK Tryz.prog (198) (T198 N) :=
  (fn_ok2 ownT mix (tab198_ok N) Tryz.func198 s198 w198 [0] (cuts := []) trivial (fun _ => by kernel_rfl) (by decide +kernel) (F198 N) (fun x => by kernel_rfl))
@[reducible] def s192 : SP := ⟨[.ro (.int .i64), .int .i64, .int .i64, .int .i64, .adr 0 []], [.var 3 (.int .i64)]⟩
noncomputable def tab192 (N : Nat) : List (Nat × (Pk → Tr Pk)) := [(198, T198 N)]
theorem tab192_ok (N : Nat) : TabOK Tryz.prog (tab192 N) := ⟨T198_ok N, trivial⟩
@[reducible] def w192 : List SP := [⟨[.int .i64], [.var 3 (.int .i64)]⟩]
noncomputable def F192 (N : Nat) : ((List Int) × Int × Int × Int × Int) → Option (Int × Int)
  | (x0, x1, x2, x3, x4) =>
  Option.bind (F198 N (x0, x1, x2, x4)) fun y0 =>
  Option.bind (F198 N (x0, y0.2.1, x3, y0.2.2)) fun y1 =>
  Option.bind (F198 N (x0, y0.1, y1.1, y1.2.2)) fun y2 =>
  some ((y2.2.1, y2.2.2))
noncomputable def T192 (N : Nat) : Pk → Tr Pk := tellS s192 w192 (F192 N)
theorem T192_ok (N : Nat) : FOK Tryz.prog (192) (T192 N) :=
  (fn_ok2 ownT mix (tab192_ok N) Tryz.func192 s192 w192 [0] (cuts := []) trivial (fun _ => by kernel_rfl) (by decide +kernel) (F192 N) (fun x => by kernel_rfl))
@[reducible] def s191 : SP := ⟨[.ro (.int .i64), .int .i64, .adr 0 []], [.var 3 (.int .i64)]⟩
noncomputable def tab191 (N : Nat) : List (Nat × (Pk → Tr Pk)) := [(192, T192 N)]
theorem tab191_ok (N : Nat) : TabOK Tryz.prog (tab191 N) := ⟨T192_ok N, trivial⟩
@[reducible] def w191 : List SP := [⟨[.int .i64], [.var 3 (.int .i64)]⟩]
noncomputable def F191 (N : Nat) : ((List Int) × Int × Int) → Option (Int × Int)
  | (x0, x1, x2) =>
  Option.bind (F192 N (x0, IntKind.wrap IntKind.i64 (x1 - (1 : Int)), x1, IntKind.wrap IntKind.i64 (x1 + (1 : Int)), x2)) fun y0 =>
  some ((y0.1, y0.2))
noncomputable def T191 (N : Nat) : Pk → Tr Pk := tellS s191 w191 (F191 N)
theorem T191_ok (N : Nat) : FOK Tryz.prog (191) (T191 N) :=
  (fn_ok2 ownT mix (tab191_ok N) Tryz.func191 s191 w191 [0] (cuts := []) trivial (fun _ => by kernel_rfl) (by decide +kernel) (F191 N) (fun x => by kernel_rfl))
@[reducible] def s175 : SP := ⟨[.ro (.int .i64), .int .i64, .int .i64], []⟩
noncomputable def tab175 (N : Nat) : List (Nat × (Pk → Tr Pk)) := [(191, T191 N), (192, T192 N)]
theorem tab175_ok (N : Nat) : TabOK Tryz.prog (tab175 N) := ⟨T191_ok N, T192_ok N, trivial⟩
@[reducible] def w175 : List SP := [⟨[.tup [.int .i64, .int .i64]], []⟩]
noncomputable def F175 (N : Nat) : ((List Int) × Int × Int) → Option (Int × Int)
  | (x0, x1, x2) =>
  iteP (decide (IntKind.wrap IntKind.i64 (x2 - x1) ≥ (8 : Int))) (
    iteP (decide (IntKind.wrap IntKind.i64 (x2 - x1) ≥ (50 : Int))) (
      Option.bind (F191 N (x0, IntKind.wrap IntKind.i64 (x1 + IntKind.wrap IntKind.i64 (IntKind.wrap IntKind.i64 (Int.tdiv (IntKind.wrap IntKind.i64 (x2 - x1)) (4 : Int)) * (1 : Int))), (0 : Int))) fun y0 =>
      Option.bind (F191 N (x0, IntKind.wrap IntKind.i64 (x1 + IntKind.wrap IntKind.i64 (IntKind.wrap IntKind.i64 (Int.tdiv (IntKind.wrap IntKind.i64 (x2 - x1)) (4 : Int)) * (2 : Int))), y0.2)) fun y1 =>
      Option.bind (F191 N (x0, IntKind.wrap IntKind.i64 (x1 + IntKind.wrap IntKind.i64 (IntKind.wrap IntKind.i64 (Int.tdiv (IntKind.wrap IntKind.i64 (x2 - x1)) (4 : Int)) * (3 : Int))), y1.2)) fun y2 =>
      Option.bind (F192 N (x0, y0.1, y1.1, y2.1, y2.2)) fun y3 =>
      iteP (y3.2 == (0 : Int)) (
        some ((y3.1, (1 : Int)))) (
        iteP (y3.2 == (12 : Int)) (
          some ((y3.1, (2 : Int)))) (
          some ((y3.1, (0 : Int)))))) (
      Option.bind (F192 N (x0, IntKind.wrap IntKind.i64 (x1 + IntKind.wrap IntKind.i64 (IntKind.wrap IntKind.i64 (Int.tdiv (IntKind.wrap IntKind.i64 (x2 - x1)) (4 : Int)) * (1 : Int))), IntKind.wrap IntKind.i64 (x1 + IntKind.wrap IntKind.i64 (IntKind.wrap IntKind.i64 (Int.tdiv (IntKind.wrap IntKind.i64 (x2 - x1)) (4 : Int)) * (2 : Int))), IntKind.wrap IntKind.i64 (x1 + IntKind.wrap IntKind.i64 (IntKind.wrap IntKind.i64 (Int.tdiv (IntKind.wrap IntKind.i64 (x2 - x1)) (4 : Int)) * (3 : Int))), (0 : Int))) fun y4 =>
      iteP (y4.2 == (0 : Int)) (
        some ((y4.1, (1 : Int)))) (
        iteP (y4.2 == (12 : Int)) (
          some ((y4.1, (2 : Int)))) (
          some ((y4.1, (0 : Int))))))) (
    some ((IntKind.wrap IntKind.i64 (x1 + IntKind.wrap IntKind.i64 (IntKind.wrap IntKind.i64 (Int.tdiv (IntKind.wrap IntKind.i64 (x2 - x1)) (4 : Int)) * (2 : Int))), (1 : Int))))
noncomputable def T175 (N : Nat) : Pk → Tr Pk := tellS s175 w175 (F175 N)
theorem T175_ok (N : Nat) : FOK Tryz.prog (175) (T175 N) :=
  (fn_ok2 ownT mix (tab175_ok N) Tryz.func175 s175 w175 [] (cuts := []) trivial (fun _ => by kernel_rfl) (by decide +kernel) (F175 N) (fun x => by kernel_rfl))
@[reducible] def s176 : SP := ⟨[.slp 0 .h .h, .int .i64, .int .i64], [.row (.int .i64) 3]⟩
noncomputable def tab176 (N : Nat) : List (Nat × (Pk → Tr Pk)) := []
theorem tab176_ok (N : Nat) : TabOK Tryz.prog (tab176 N) := trivial
@[reducible] def L176_14 : LD := ⟨14, [6, 7, 0], [(.exit 0, [])], ⟨[.int .i64, .int .i64, .slp 0 .h .h], [.row (.int .i64) 3]⟩, [(.exit 0, ⟨[], [.row (.int .i64) 3]⟩)]⟩
abbrev P176_14 : Type := Int × Int × Nat × Nat × (List Int)
abbrev R176_14 : Type := (List Int)
noncomputable def B176_14 (N : Nat) (f : P176_14 → Option R176_14) : P176_14 → Option R176_14
  | (x0, x1, x2, x3, x4) =>
  iteP (decide (x0 < x1)) (
    iteP (within x1 x3) (
      Option.bind (x4[x2 + Int.toNat x1]?) fun y0 =>
      iteP (within x0 x3) (
        Option.bind (x4[x2 + Int.toNat x0]?) fun y1 =>
        iteP (within x0 x3) (
          Option.bind (x4[x2 + Int.toNat x0]?) fun y2 =>
          iteP (within x1 x3) (
            Option.bind ((List.set x4 (x2 + Int.toNat x0) y0)[x2 + Int.toNat x1]?) fun y3 =>
            Option.bind (f (IntKind.wrap IntKind.i64 (x0 + (1 : Int)), IntKind.wrap IntKind.i64 (x1 - (1 : Int)), x2, x3, List.set (List.set x4 (x2 + Int.toNat x0) y0) (x2 + Int.toNat x1) y1)) fun r => some r) (
            none )) (
          none )) (
        none )) (
      none )) (
    some (x4))
noncomputable def F176_14 (N : Nat) : Nat → P176_14 → Option R176_14
  | 0, _ => none
  | k + 1, x => B176_14 N (F176_14 N k) x
noncomputable def C176_14 (N : Nat) (k : Nat) : Cut := L176_14.cut (F176_14 N k)
theorem C176_14_ok (N : Nat) (k : Nat) : CutAt Tryz.prog false Tryz.f176 [0] 14 (C176_14 N k) :=
  L176_14.loopT ownT mix (tab176_ok N) Tryz.f176 [0] (cuts := []) trivial (by decide +kernel) (by kernel_rfl) (B176_14 N) (F176_14 N) (fun _ => rfl) (fun _ _ => rfl) (fun f x => by kernel_rfl) k
@[reducible] def w176 : List SP := [⟨[.tup []], [.row (.int .i64) 3]⟩]
noncomputable def F176 (N : Nat) : (Nat × Nat × Int × Int × (List Int)) → Option ((List Int))
  | (x0, x1, x2, x3, x4) =>
  Option.bind (F176_14 N N (x2, IntKind.wrap IntKind.i64 (x3 - (1 : Int)), x0, x1, x4)) fun y0 =>
  some (y0)
noncomputable def T176 (N : Nat) : Pk → Tr Pk := tellS s176 w176 (F176 N)
theorem T176_ok (N : Nat) : FOK Tryz.prog (176) (T176 N) :=
  (fn_ok2 ownT mix (tab176_ok N) Tryz.func176 s176 w176 [0] (cuts := [(14, C176_14 N N)]) ⟨C176_14_ok N N, trivial⟩ (fun _ => by kernel_rfl) (by decide +kernel) (F176 N) (fun x => by kernel_rfl))
@[reducible] def s177 : SP := ⟨[.slp 0 .h .h, .int .i64, .int .i64], [.row (.int .i64) 3]⟩
noncomputable def tab177 (N : Nat) : List (Nat × (Pk → Tr Pk)) := [(178, T178 N)]
theorem tab177_ok (N : Nat) : TabOK Tryz.prog (tab177 N) := ⟨T178_ok N, trivial⟩
@[reducible] def L177_3728 : LD := ⟨3728, [7, 1, 2, 0, 8], [(.ret, [6]), (.exit 2, [8, 7, 0, 2, 1]), (.exit 1, [8, 7, 0, 2, 1])], ⟨[.int .i64, .int .i64, .int .i64, .slp 0 .h .h, .int .i64], [.row (.int .i64) 3]⟩, [(.exit 2, ⟨[.int .i64, .int .i64, .slp 0 .h .h, .int .i64, .int .i64], [.row (.int .i64) 3]⟩)]⟩
abbrev P177_3728 : Type := Int × Int × Int × Nat × Nat × Int × (List Int)
abbrev R177_3728 : Type := Int × Int × Nat × Nat × Int × Int × (List Int)
noncomputable def B177_3728 (N : Nat) (f : P177_3728 → Option R177_3728) : P177_3728 → Option R177_3728
  | (x0, x1, x2, x3, x4, x5, x6) =>
  iteP (decide (x0 < x2)) (
    iteP (within x0 x4) (
      Option.bind (x6[x3 + Int.toNat x0]?) fun y0 =>
      iteP (within (IntKind.wrap IntKind.i64 (x0 - (1 : Int))) x4) (
        Option.bind (x6[x3 + Int.toNat (IntKind.wrap IntKind.i64 (x0 - (1 : Int)))]?) fun y1 =>
        Option.bind (F178 N (y0, y1)) fun y2 =>
        iteP (!y2) (
          Option.bind (f (IntKind.wrap IntKind.i64 (x0 + (1 : Int)), x1, x2, x3, x4, x5, x6)) fun r => some r) (
          some ((x5, x0, x3, x4, x2, x1, x6)))) (
        none )) (
      none )) (
    some ((x5, x0, x3, x4, x2, x1, x6)))
noncomputable def F177_3728 (N : Nat) : Nat → P177_3728 → Option R177_3728
  | 0, _ => none
  | k + 1, x => B177_3728 N (F177_3728 N k) x
noncomputable def C177_3728 (N : Nat) (k : Nat) : Cut := L177_3728.cut (F177_3728 N k)
theorem C177_3728_ok (N : Nat) (k : Nat) : CutAt Tryz.prog false Tryz.f177 [0] 3728 (C177_3728 N k) :=
  L177_3728.loopT ownT mix (tab177_ok N) Tryz.f177 [0] (cuts := []) trivial (by decide +kernel) (by kernel_rfl) (B177_3728 N) (F177_3728 N) (fun _ => rfl) (fun _ _ => rfl) (fun f x => by kernel_rfl) k
@[reducible] def L177_477674 : LD := ⟨477674, [9, 8, 7, 0, 2, 1], [(.ret, [6]), (.exit 4, [8, 7, 0, 2, 1]), (.exit 1, [8, 7, 0, 2, 1])], ⟨[.int .i64, .int .i64, .int .i64, .slp 0 .h .h, .int .i64, .int .i64], [.row (.int .i64) 3]⟩, [(.exit 4, ⟨[.int .i64, .int .i64, .slp 0 .h .h, .int .i64, .int .i64], [.row (.int .i64) 3]⟩)]⟩
abbrev P177_477674 : Type := Int × Int × Int × Nat × Nat × Int × Int × (List Int)
abbrev R177_477674 : Type := Int × Int × Nat × Nat × Int × Int × (List Int)
noncomputable def B177_477674 (N : Nat) (f : P177_477674 → Option R177_477674) : P177_477674 → Option R177_477674
  | (x0, x1, x2, x3, x4, x5, x6, x7) =>
  iteP (decide (x0 ≥ (1 : Int))) (
    iteP (within x0 x4) (
      Option.bind (x7[x3 + Int.toNat x0]?) fun y0 =>
      iteP (within (IntKind.wrap IntKind.i64 (x0 - (1 : Int))) x4) (
        Option.bind (x7[x3 + Int.toNat (IntKind.wrap IntKind.i64 (x0 - (1 : Int)))]?) fun y1 =>
        Option.bind (F178 N (y0, y1)) fun y2 =>
        iteP (!y2) (
          some ((x1, x2, x3, x4, x5, x6, x7))) (
          iteP (within (IntKind.wrap IntKind.i64 (x0 - (1 : Int))) x4) (
            Option.bind (x7[x3 + Int.toNat (IntKind.wrap IntKind.i64 (x0 - (1 : Int)))]?) fun y3 =>
            iteP (within x0 x4) (
              Option.bind (x7[x3 + Int.toNat x0]?) fun y4 =>
              iteP (within x0 x4) (
                Option.bind (x7[x3 + Int.toNat x0]?) fun y5 =>
                iteP (within (IntKind.wrap IntKind.i64 (x0 - (1 : Int))) x4) (
                  Option.bind ((List.set x7 (x3 + Int.toNat x0) y3)[x3 + Int.toNat (IntKind.wrap IntKind.i64 (x0 - (1 : Int)))]?) fun y6 =>
                  Option.bind (f (IntKind.wrap IntKind.i64 (x0 - (1 : Int)), x1, x2, x3, x4, x5, x6, List.set (List.set x7 (x3 + Int.toNat x0) y3) (x3 + Int.toNat (IntKind.wrap IntKind.i64 (x0 - (1 : Int)))) y4)) fun r => some r) (
                  none )) (
                none )) (
              none )) (
            none ))) (
        none )) (
      none )) (
    some ((x1, x2, x3, x4, x5, x6, x7)))
noncomputable def F177_477674 (N : Nat) : Nat → P177_477674 → Option R177_477674
  | 0, _ => none
  | k + 1, x => B177_477674 N (F177_477674 N k) x
noncomputable def C177_477674 (N : Nat) (k : Nat) : Cut := L177_477674.cut (F177_477674 N k)
theorem C177_477674_ok (N : Nat) (k : Nat) : CutAt Tryz.prog false Tryz.f177 [0] 477674 (C177_477674 N k) :=
  L177_477674.loopT ownT mix (tab177_ok N) Tryz.f177 [0] (cuts := [(3728, C177_3728 N N)]) ⟨C177_3728_ok N N, trivial⟩ (by decide +kernel) (by kernel_rfl) (B177_477674 N) (F177_477674 N) (fun _ => rfl) (fun _ _ => rfl) (fun f x => by kernel_rfl) k
@[reducible] def L177_477690 : LD := ⟨477690, [10, 8, 7, 0, 2, 1], [(.ret, [6]), (.exit 6, [8, 7, 0, 2, 1]), (.exit 1, [8, 7, 0, 2, 1])], ⟨[.int .i64, .int .i64, .int .i64, .slp 0 .h .h, .int .i64, .int .i64], [.row (.int .i64) 3]⟩, [(.exit 6, ⟨[.int .i64, .int .i64, .slp 0 .h .h, .int .i64, .int .i64], [.row (.int .i64) 3]⟩)]⟩
abbrev P177_477690 : Type := Int × Int × Int × Nat × Nat × Int × Int × (List Int)
abbrev R177_477690 : Type := Int × Int × Nat × Nat × Int × Int × (List Int)
noncomputable def B177_477690 (N : Nat) (f : P177_477690 → Option R177_477690) : P177_477690 → Option R177_477690
  | (x0, x1, x2, x3, x4, x5, x6, x7) =>
  iteP (decide (x0 < x5)) (
    iteP (within x0 x4) (
      Option.bind (x7[x3 + Int.toNat x0]?) fun y0 =>
      iteP (within (IntKind.wrap IntKind.i64 (x0 - (1 : Int))) x4) (
        Option.bind (x7[x3 + Int.toNat (IntKind.wrap IntKind.i64 (x0 - (1 : Int)))]?) fun y1 =>
        Option.bind (F178 N (y0, y1)) fun y2 =>
        iteP (!y2) (
          some ((x1, x2, x3, x4, x5, x6, x7))) (
          iteP (within (IntKind.wrap IntKind.i64 (x0 - (1 : Int))) x4) (
            Option.bind (x7[x3 + Int.toNat (IntKind.wrap IntKind.i64 (x0 - (1 : Int)))]?) fun y3 =>
            iteP (within x0 x4) (
              Option.bind (x7[x3 + Int.toNat x0]?) fun y4 =>
              iteP (within x0 x4) (
                Option.bind (x7[x3 + Int.toNat x0]?) fun y5 =>
                iteP (within (IntKind.wrap IntKind.i64 (x0 - (1 : Int))) x4) (
                  Option.bind ((List.set x7 (x3 + Int.toNat x0) y3)[x3 + Int.toNat (IntKind.wrap IntKind.i64 (x0 - (1 : Int)))]?) fun y6 =>
                  Option.bind (f (IntKind.wrap IntKind.i64 (x0 + (1 : Int)), x1, x2, x3, x4, x5, x6, List.set (List.set x7 (x3 + Int.toNat x0) y3) (x3 + Int.toNat (IntKind.wrap IntKind.i64 (x0 - (1 : Int)))) y4)) fun r => some r) (
                  none )) (
                none )) (
              none )) (
            none ))) (
        none )) (
      none )) (
    some ((x1, x2, x3, x4, x5, x6, x7)))
noncomputable def F177_477690 (N : Nat) : Nat → P177_477690 → Option R177_477690
  | 0, _ => none
  | k + 1, x => B177_477690 N (F177_477690 N k) x
noncomputable def C177_477690 (N : Nat) (k : Nat) : Cut := L177_477690.cut (F177_477690 N k)
theorem C177_477690_ok (N : Nat) (k : Nat) : CutAt Tryz.prog false Tryz.f177 [0] 477690 (C177_477690 N k) :=
  L177_477690.loopT ownT mix (tab177_ok N) Tryz.f177 [0] (cuts := [(3728, C177_3728 N N), (477674, C177_477674 N N)]) ⟨C177_3728_ok N N, C177_477674_ok N N, trivial⟩ (by decide +kernel) (by kernel_rfl) (B177_477690 N) (F177_477690 N) (fun _ => rfl) (fun _ _ => rfl) (fun f x => by kernel_rfl) k
@[reducible] def L177_58 : LD := ⟨58, [7, 0, 2, 1, 8], [(.ret, [6]), (.exit 0, [])], ⟨[.int .i64, .slp 0 .h .h, .int .i64, .int .i64, .int .i64], [.row (.int .i64) 3]⟩, [(.ret, ⟨[.bool], [.row (.int .i64) 3]⟩), (.exit 0, ⟨[], [.row (.int .i64) 3]⟩)]⟩
abbrev P177_58 : Type := Int × Nat × Nat × Int × Int × Int × (List Int)
abbrev R177_58 : Type := ((Bool × (List Int)) ⊕ ((List Int)))
noncomputable def B177_58 (N : Nat) (f : P177_58 → Option R177_58) : P177_58 → Option R177_58
  | (x0, x1, x2, x3, x4, x5, x6) =>
  iteP (decide (x5 < (5 : Int))) (
    Option.bind (F177_3728 N N (x0, x4, x3, x1, x2, x5, x6)) fun (y0_0, y0_1, y0_2, y0_3, y0_4, y0_5, y0_6) =>
    iteP (y0_1 == y0_4) (
      some (.inl ((true, y0_6)))) (
      iteP (decide (IntKind.wrap IntKind.i64 (y0_4 - y0_5) < (50 : Int))) (
        some (.inl ((false, y0_6)))) (
        iteP (within (IntKind.wrap IntKind.i64 (y0_1 - (1 : Int))) y0_3) (
          Option.bind (y0_6[y0_2 + Int.toNat (IntKind.wrap IntKind.i64 (y0_1 - (1 : Int)))]?) fun y1 =>
          iteP (within y0_1 y0_3) (
            Option.bind (y0_6[y0_2 + Int.toNat y0_1]?) fun y2 =>
            iteP (within y0_1 y0_3) (
              Option.bind (y0_6[y0_2 + Int.toNat y0_1]?) fun y3 =>
              iteP (within (IntKind.wrap IntKind.i64 (y0_1 - (1 : Int))) y0_3) (
                Option.bind ((List.set y0_6 (y0_2 + Int.toNat y0_1) y1)[y0_2 + Int.toNat (IntKind.wrap IntKind.i64 (y0_1 - (1 : Int)))]?) fun y4 =>
                iteP (decide (IntKind.wrap IntKind.i64 (y0_1 - y0_5) ≥ (2 : Int))) (
                  Option.bind (F177_477674 N N (IntKind.wrap IntKind.i64 (y0_1 - (1 : Int)), y0_0, y0_1, y0_2, y0_3, y0_4, y0_5, List.set (List.set y0_6 (y0_2 + Int.toNat y0_1) y1) (y0_2 + Int.toNat (IntKind.wrap IntKind.i64 (y0_1 - (1 : Int)))) y2)) fun (y5_0, y5_1, y5_2, y5_3, y5_4, y5_5, y5_6) =>
                  iteP (decide (IntKind.wrap IntKind.i64 (y5_4 - y5_1) ≥ (2 : Int))) (
                    Option.bind (F177_477690 N N (IntKind.wrap IntKind.i64 (y5_1 + (1 : Int)), y5_0, y5_1, y5_2, y5_3, y5_4, y5_5, y5_6)) fun (y6_0, y6_1, y6_2, y6_3, y6_4, y6_5, y6_6) =>
                    Option.bind (f (y6_1, y6_2, y6_3, y6_4, y6_5, IntKind.wrap IntKind.i64 (y6_0 + (1 : Int)), y6_6)) fun r => match r with | .inl y => some (.inl y) | .inr y => some (.inr y)) (
                    Option.bind (f (y5_1, y5_2, y5_3, y5_4, y5_5, IntKind.wrap IntKind.i64 (y5_0 + (1 : Int)), y5_6)) fun r => match r with | .inl y => some (.inl y) | .inr y => some (.inr y))) (
                  iteP (decide (IntKind.wrap IntKind.i64 (y0_4 - y0_1) ≥ (2 : Int))) (
                    Option.bind (F177_477690 N N (IntKind.wrap IntKind.i64 (y0_1 + (1 : Int)), y0_0, y0_1, y0_2, y0_3, y0_4, y0_5, List.set (List.set y0_6 (y0_2 + Int.toNat y0_1) y1) (y0_2 + Int.toNat (IntKind.wrap IntKind.i64 (y0_1 - (1 : Int)))) y2)) fun (y7_0, y7_1, y7_2, y7_3, y7_4, y7_5, y7_6) =>
                    Option.bind (f (y7_1, y7_2, y7_3, y7_4, y7_5, IntKind.wrap IntKind.i64 (y7_0 + (1 : Int)), y7_6)) fun r => match r with | .inl y => some (.inl y) | .inr y => some (.inr y)) (
                    Option.bind (f (y0_1, y0_2, y0_3, y0_4, y0_5, IntKind.wrap IntKind.i64 (y0_0 + (1 : Int)), List.set (List.set y0_6 (y0_2 + Int.toNat y0_1) y1) (y0_2 + Int.toNat (IntKind.wrap IntKind.i64 (y0_1 - (1 : Int)))) y2)) fun r => match r with | .inl y => some (.inl y) | .inr y => some (.inr y)))) (
                none )) (
              none )) (
            none )) (
          none )))) (
    some (.inr (x6)))
noncomputable def F177_58 (N : Nat) : Nat → P177_58 → Option R177_58
  | 0, _ => none
  | k + 1, x => B177_58 N (F177_58 N k) x
noncomputable def C177_58 (N : Nat) (k : Nat) : Cut := L177_58.cut (F177_58 N k)
theorem C177_58_ok (N : Nat) (k : Nat) : CutAt Tryz.prog false Tryz.f177 [0] 58 (C177_58 N k) :=
  L177_58.loopT ownT mix (tab177_ok N) Tryz.f177 [0] (cuts := [(3728, C177_3728 N N), (477674, C177_477674 N N), (477690, C177_477690 N N)]) ⟨C177_3728_ok N N, C177_477674_ok N N, C177_477690_ok N N, trivial⟩ (by decide +kernel) (by kernel_rfl) (B177_58 N) (F177_58 N) (fun _ => rfl) (fun _ _ => rfl) (fun f x => by kernel_rfl) k
@[reducible] def w177 : List SP := [⟨[.bool], [.row (.int .i64) 3]⟩]
noncomputable def F177 (N : Nat) : (Nat × Nat × Int × Int × (List Int)) → Option (Bool × (List Int))
  | (x0, x1, x2, x3, x4) =>
  Option.bind (F177_58 N N (IntKind.wrap IntKind.i64 (x2 + (1 : Int)), x0, x1, x3, x2, (0 : Int), x4)) fun y0 =>
  match y0 with
  | .inl y1 =>
    some ((y1.1, y1.2))
  | .inr y1 =>
    some ((false, y1))
noncomputable def T177 (N : Nat) : Pk → Tr Pk := tellS s177 w177 (F177 N)
theorem T177_ok (N : Nat) : FOK Tryz.prog (177) (T177 N) :=
  (fn_ok2 ownT mix (tab177_ok N) Tryz.func177 s177 w177 [0] (cuts := [(3728, C177_3728 N N), (477674, C177_477674 N N), (477690, C177_477690 N N), (58, C177_58 N N)]) ⟨C177_3728_ok N N, C177_477674_ok N N, C177_477690_ok N N, C177_58_ok N N, trivial⟩ (fun _ => by kernel_rfl) (by decide +kernel) (F177 N) (fun x => by kernel_rfl))
@[reducible] def s179 : SP := ⟨[.slp 0 .h .h, .int .i64, .int .i64, .int .i64], [.row (.int .i64) 3]⟩
noncomputable def tab179 (N : Nat) : List (Nat × (Pk → Tr Pk)) := [(178, T178 N)]
theorem tab179_ok (N : Nat) : TabOK Tryz.prog (tab179 N) := ⟨T178_ok N, trivial⟩
@[reducible] def L179_960 : LD := ⟨960, [9, 1, 0, 10], [(.ret, [8]), (.exit 2, [10, 9, 0, 1]), (.exit 1, [9, 0, 1, 10]), (.exit 0, [9])], ⟨[.int .i64, .int .i64, .slp 0 .h .h, .int .i64], [.row (.int .i64) 3]⟩, [(.exit 2, ⟨[.int .i64, .int .i64, .slp 0 .h .h, .int .i64], [.row (.int .i64) 3]⟩)]⟩
abbrev P179_960 : Type := Int × Int × Nat × Nat × Int × (List Int)
abbrev R179_960 : Type := Int × Int × Nat × Nat × Int × (List Int)
noncomputable def B179_960 (N : Nat) (f : P179_960 → Option R179_960) : P179_960 → Option R179_960
  | (x0, x1, x2, x3, x4, x5) =>
  iteP (decide (x0 ≤ x4)) (
    iteP (within x1 x3) (
      Option.bind (x5[x2 + Int.toNat x1]?) fun y0 =>
      iteP (within x0 x3) (
        Option.bind (x5[x2 + Int.toNat x0]?) fun y1 =>
        Option.bind (F178 N (y0, y1)) fun y2 =>
        iteP (!y2) (
          Option.bind (f (IntKind.wrap IntKind.i64 (x0 + (1 : Int)), x1, x2, x3, x4, x5)) fun r => some r) (
          some ((x4, x0, x2, x3, x1, x5)))) (
        none )) (
      none )) (
    some ((x4, x0, x2, x3, x1, x5)))
noncomputable def F179_960 (N : Nat) : Nat → P179_960 → Option R179_960
  | 0, _ => none
  | k + 1, x => B179_960 N (F179_960 N k) x
noncomputable def C179_960 (N : Nat) (k : Nat) : Cut := L179_960.cut (F179_960 N k)
theorem C179_960_ok (N : Nat) (k : Nat) : CutAt Tryz.prog false Tryz.f179 [0] 960 (C179_960 N k) :=
  L179_960.loopT ownT mix (tab179_ok N) Tryz.f179 [0] (cuts := []) trivial (by decide +kernel) (by kernel_rfl) (B179_960 N) (F179_960 N) (fun _ => rfl) (fun _ _ => rfl) (fun f x => by kernel_rfl) k
@[reducible] def L179_1924 : LD := ⟨1924, [10, 9, 0, 1], [(.ret, [8]), (.exit 4, [1, 0, 10, 9]), (.exit 1, [9, 0, 1, 10]), (.exit 0, [9])], ⟨[.int .i64, .int .i64, .slp 0 .h .h, .int .i64], [.row (.int .i64) 3]⟩, [(.exit 4, ⟨[.int .i64, .slp 0 .h .h, .int .i64, .int .i64], [.row (.int .i64) 3]⟩)]⟩
abbrev P179_1924 : Type := Int × Int × Nat × Nat × Int × (List Int)
abbrev R179_1924 : Type := Int × Nat × Nat × Int × Int × (List Int)
noncomputable def B179_1924 (N : Nat) (f : P179_1924 → Option R179_1924) : P179_1924 → Option R179_1924
  | (x0, x1, x2, x3, x4, x5) =>
  iteP (decide (x1 ≤ x0)) (
    iteP (within x4 x3) (
      Option.bind (x5[x2 + Int.toNat x4]?) fun y0 =>
      iteP (within x0 x3) (
        Option.bind (x5[x2 + Int.toNat x0]?) fun y1 =>
        Option.bind (F178 N (y0, y1)) fun y2 =>
        iteP (y2) (
          Option.bind (f (IntKind.wrap IntKind.i64 (x0 - (1 : Int)), x1, x2, x3, x4, x5)) fun r => some r) (
          some ((x4, x2, x3, x0, x1, x5)))) (
        none )) (
      none )) (
    some ((x4, x2, x3, x0, x1, x5)))
noncomputable def F179_1924 (N : Nat) : Nat → P179_1924 → Option R179_1924
  | 0, _ => none
  | k + 1, x => B179_1924 N (F179_1924 N k) x
noncomputable def C179_1924 (N : Nat) (k : Nat) : Cut := L179_1924.cut (F179_1924 N k)
theorem C179_1924_ok (N : Nat) (k : Nat) : CutAt Tryz.prog false Tryz.f179 [0] 1924 (C179_1924 N k) :=
  L179_1924.loopT ownT mix (tab179_ok N) Tryz.f179 [0] (cuts := [(960, C179_960 N N)]) ⟨C179_960_ok N N, trivial⟩ (by decide +kernel) (by kernel_rfl) (B179_1924 N) (F179_1924 N) (fun _ => rfl) (fun _ _ => rfl) (fun f x => by kernel_rfl) k
@[reducible] def L179_60 : LD := ⟨60, [9, 0, 1, 10], [(.ret, [8]), (.exit 0, [9])], ⟨[.int .i64, .slp 0 .h .h, .int .i64, .int .i64], [.row (.int .i64) 3]⟩, [(.exit 0, ⟨[.int .i64], [.row (.int .i64) 3]⟩)]⟩
abbrev P179_60 : Type := Int × Nat × Nat × Int × Int × (List Int)
abbrev R179_60 : Type := Int × (List Int)
noncomputable def B179_60 (N : Nat) (f : P179_60 → Option R179_60) : P179_60 → Option R179_60
  | (x0, x1, x2, x3, x4, x5) =>
  Option.bind (F179_960 N N (x0, x3, x1, x2, x4, x5)) fun (y0_0, y0_1, y0_2, y0_3, y0_4, y0_5) =>
  Option.bind (F179_1924 N N (y0_0, y0_1, y0_2, y0_3, y0_4, y0_5)) fun (y1_0, y1_1, y1_2, y1_3, y1_4, y1_5) =>
  iteP (decide (y1_4 > y1_3)) (
    some ((y1_4, y1_5))) (
    iteP (within y1_3 y1_2) (
      Option.bind (y1_5[y1_1 + Int.toNat y1_3]?) fun y2 =>
      iteP (within y1_4 y1_2) (
        Option.bind (y1_5[y1_1 + Int.toNat y1_4]?) fun y3 =>
        iteP (within y1_4 y1_2) (
          Option.bind (y1_5[y1_1 + Int.toNat y1_4]?) fun y4 =>
          iteP (within y1_3 y1_2) (
            Option.bind ((List.set y1_5 (y1_1 + Int.toNat y1_4) y2)[y1_1 + Int.toNat y1_3]?) fun y5 =>
            Option.bind (f (IntKind.wrap IntKind.i64 (y1_4 + (1 : Int)), y1_1, y1_2, y1_0, IntKind.wrap IntKind.i64 (y1_3 - (1 : Int)), List.set (List.set y1_5 (y1_1 + Int.toNat y1_4) y2) (y1_1 + Int.toNat y1_3) y3)) fun r => some r) (
            none )) (
          none )) (
        none )) (
      none ))
noncomputable def F179_60 (N : Nat) : Nat → P179_60 → Option R179_60
  | 0, _ => none
  | k + 1, x => B179_60 N (F179_60 N k) x
noncomputable def C179_60 (N : Nat) (k : Nat) : Cut := L179_60.cut (F179_60 N k)
theorem C179_60_ok (N : Nat) (k : Nat) : CutAt Tryz.prog false Tryz.f179 [0] 60 (C179_60 N k) :=
  L179_60.loopT ownT mix (tab179_ok N) Tryz.f179 [0] (cuts := [(960, C179_960 N N), (1924, C179_1924 N N)]) ⟨C179_960_ok N N, C179_1924_ok N N, trivial⟩ (by decide +kernel) (by kernel_rfl) (B179_60 N) (F179_60 N) (fun _ => rfl) (fun _ _ => rfl) (fun f x => by kernel_rfl) k
@[reducible] def w179 : List SP := [⟨[.int .i64], [.row (.int .i64) 3]⟩]
noncomputable def F179 (N : Nat) : (Nat × Nat × Int × Int × Int × (List Int)) → Option (Int × (List Int))
  | (x0, x1, x2, x3, x4, x5) =>
  iteP (within x4 x1) (
    Option.bind (x5[x0 + Int.toNat x4]?) fun y0 =>
    iteP (within x2 x1) (
      Option.bind (x5[x0 + Int.toNat x2]?) fun y1 =>
      iteP (within x2 x1) (
        Option.bind (x5[x0 + Int.toNat x2]?) fun y2 =>
        iteP (within x4 x1) (
          Option.bind ((List.set x5 (x0 + Int.toNat x2) y0)[x0 + Int.toNat x4]?) fun y3 =>
          Option.bind (F179_60 N N (IntKind.wrap IntKind.i64 (x2 + (1 : Int)), x0, x1, x2, IntKind.wrap IntKind.i64 (x3 - (1 : Int)), List.set (List.set x5 (x0 + Int.toNat x2) y0) (x0 + Int.toNat x4) y1)) fun y4 =>
          some ((y4.1, y4.2))) (
          none )) (
        none )) (
      none )) (
    none )
noncomputable def T179 (N : Nat) : Pk → Tr Pk := tellS s179 w179 (F179 N)
theorem T179_ok (N : Nat) : FOK Tryz.prog (179) (T179 N) :=
  (fn_ok2 ownT mix (tab179_ok N) Tryz.func179 s179 w179 [0] (cuts := [(960, C179_960 N N), (1924, C179_1924 N N), (60, C179_60 N N)]) ⟨C179_960_ok N N, C179_1924_ok N N, C179_60_ok N N, trivial⟩ (fun _ => by kernel_rfl) (by decide +kernel) (F179 N) (fun x => by kernel_rfl))
@[reducible] def s180 : SP := ⟨[.slp 0 .h .h, .int .i64, .int .i64, .int .i64], [.row (.int .i64) 3]⟩
noncomputable def tab180 (N : Nat) : List (Nat × (Pk → Tr Pk)) := [(178, T178 N)]
theorem tab180_ok (N : Nat) : TabOK Tryz.prog (tab180 N) := ⟨T178_ok N, trivial⟩
@[reducible] def L180_60 : LD := ⟨60, [10, 1, 0, 11], [(.ret, [8, 9]), (.exit 0, [11, 0, 1, 10])], ⟨[.int .i64, .int .i64, .slp 0 .h .h, .int .i64], [.row (.int .i64) 3]⟩, [(.exit 0, ⟨[.int .i64, .slp 0 .h .h, .int .i64, .int .i64], [.row (.int .i64) 3]⟩)]⟩
abbrev P180_60 : Type := Int × Int × Nat × Nat × Int × (List Int)
abbrev R180_60 : Type := Int × Nat × Nat × Int × Int × (List Int)
noncomputable def B180_60 (N : Nat) (f : P180_60 → Option R180_60) : P180_60 → Option R180_60
  | (x0, x1, x2, x3, x4, x5) =>
  iteP (decide (x0 ≤ x4)) (
    iteP (within x0 x3) (
      Option.bind (x5[x2 + Int.toNat x0]?) fun y0 =>
      iteP (within x1 x3) (
        Option.bind (x5[x2 + Int.toNat x1]?) fun y1 =>
        Option.bind (F178 N (y0, y1)) fun y2 =>
        iteP (y2) (
          Option.bind (f (IntKind.wrap IntKind.i64 (x0 + (1 : Int)), x1, x2, x3, x4, x5)) fun r => some r) (
          some ((x4, x2, x3, x1, x0, x5)))) (
        none )) (
      none )) (
    some ((x4, x2, x3, x1, x0, x5)))
noncomputable def F180_60 (N : Nat) : Nat → P180_60 → Option R180_60
  | 0, _ => none
  | k + 1, x => B180_60 N (F180_60 N k) x
noncomputable def C180_60 (N : Nat) (k : Nat) : Cut := L180_60.cut (F180_60 N k)
theorem C180_60_ok (N : Nat) (k : Nat) : CutAt Tryz.prog false Tryz.f180 [0] 60 (C180_60 N k) :=
  L180_60.loopT ownT mix (tab180_ok N) Tryz.f180 [0] (cuts := []) trivial (by decide +kernel) (by kernel_rfl) (B180_60 N) (F180_60 N) (fun _ => rfl) (fun _ _ => rfl) (fun f x => by kernel_rfl) k
@[reducible] def L180_124 : LD := ⟨124, [11, 0, 1, 10], [(.ret, [8, 9]), (.exit 2, [10, 1, 0, 11])], ⟨[.int .i64, .slp 0 .h .h, .int .i64, .int .i64], [.row (.int .i64) 3]⟩, [(.exit 2, ⟨[.int .i64, .int .i64, .slp 0 .h .h, .int .i64], [.row (.int .i64) 3]⟩)]⟩
abbrev P180_124 : Type := Int × Nat × Nat × Int × Int × (List Int)
abbrev R180_124 : Type := Int × Int × Nat × Nat × Int × (List Int)
noncomputable def B180_124 (N : Nat) (f : P180_124 → Option R180_124) : P180_124 → Option R180_124
  | (x0, x1, x2, x3, x4, x5) =>
  iteP (decide (x4 ≤ x0)) (
    iteP (within x0 x2) (
      Option.bind (x5[x1 + Int.toNat x0]?) fun y0 =>
      iteP (within x3 x2) (
        Option.bind (x5[x1 + Int.toNat x3]?) fun y1 =>
        Option.bind (F178 N (y0, y1)) fun y2 =>
        iteP (!y2) (
          Option.bind (f (IntKind.wrap IntKind.i64 (x0 - (1 : Int)), x1, x2, x3, x4, x5)) fun r => some r) (
          some ((x4, x3, x1, x2, x0, x5)))) (
        none )) (
      none )) (
    some ((x4, x3, x1, x2, x0, x5)))
noncomputable def F180_124 (N : Nat) : Nat → P180_124 → Option R180_124
  | 0, _ => none
  | k + 1, x => B180_124 N (F180_124 N k) x
noncomputable def C180_124 (N : Nat) (k : Nat) : Cut := L180_124.cut (F180_124 N k)
theorem C180_124_ok (N : Nat) (k : Nat) : CutAt Tryz.prog false Tryz.f180 [0] 124 (C180_124 N k) :=
  L180_124.loopT ownT mix (tab180_ok N) Tryz.f180 [0] (cuts := [(60, C180_60 N N)]) ⟨C180_60_ok N N, trivial⟩ (by decide +kernel) (by kernel_rfl) (B180_124 N) (F180_124 N) (fun _ => rfl) (fun _ _ => rfl) (fun f x => by kernel_rfl) k
@[reducible] def L180_65472 : LD := ⟨65472, [10, 1, 0, 11], [(.ret, [8, 9]), (.exit 6, [11, 0, 1, 10]), (.exit 5, [10, 1, 0, 11]), (.exit 4, [1, 0, 11])], ⟨[.int .i64, .int .i64, .slp 0 .h .h, .int .i64], [.row (.int .i64) 3]⟩, [(.exit 6, ⟨[.int .i64, .slp 0 .h .h, .int .i64, .int .i64], [.row (.int .i64) 3]⟩)]⟩
abbrev P180_65472 : Type := Int × Int × Nat × Nat × Int × (List Int)
abbrev R180_65472 : Type := Int × Nat × Nat × Int × Int × (List Int)
noncomputable def B180_65472 (N : Nat) (f : P180_65472 → Option R180_65472) : P180_65472 → Option R180_65472
  | (x0, x1, x2, x3, x4, x5) =>
  iteP (decide (x0 ≤ x4)) (
    iteP (within x0 x3) (
      Option.bind (x5[x2 + Int.toNat x0]?) fun y0 =>
      iteP (within x1 x3) (
        Option.bind (x5[x2 + Int.toNat x1]?) fun y1 =>
        Option.bind (F178 N (y0, y1)) fun y2 =>
        iteP (y2) (
          Option.bind (f (IntKind.wrap IntKind.i64 (x0 + (1 : Int)), x1, x2, x3, x4, x5)) fun r => some r) (
          some ((x4, x2, x3, x1, x0, x5)))) (
        none )) (
      none )) (
    some ((x4, x2, x3, x1, x0, x5)))
noncomputable def F180_65472 (N : Nat) : Nat → P180_65472 → Option R180_65472
  | 0, _ => none
  | k + 1, x => B180_65472 N (F180_65472 N k) x
noncomputable def C180_65472 (N : Nat) (k : Nat) : Cut := L180_65472.cut (F180_65472 N k)
theorem C180_65472_ok (N : Nat) (k : Nat) : CutAt Tryz.prog false Tryz.f180 [0] 65472 (C180_65472 N k) :=
  L180_65472.loopT ownT mix (tab180_ok N) Tryz.f180 [0] (cuts := [(60, C180_60 N N), (124, C180_124 N N)]) ⟨C180_60_ok N N, C180_124_ok N N, trivial⟩ (by decide +kernel) (by kernel_rfl) (B180_65472 N) (F180_65472 N) (fun _ => rfl) (fun _ _ => rfl) (fun f x => by kernel_rfl) k
@[reducible] def L180_130948 : LD := ⟨130948, [11, 0, 1, 10], [(.ret, [8, 9]), (.exit 8, [10, 1, 0, 11]), (.exit 5, [10, 1, 0, 11]), (.exit 4, [1, 0, 11])], ⟨[.int .i64, .slp 0 .h .h, .int .i64, .int .i64], [.row (.int .i64) 3]⟩, [(.exit 8, ⟨[.int .i64, .int .i64, .slp 0 .h .h, .int .i64], [.row (.int .i64) 3]⟩)]⟩
abbrev P180_130948 : Type := Int × Nat × Nat × Int × Int × (List Int)
abbrev R180_130948 : Type := Int × Int × Nat × Nat × Int × (List Int)
noncomputable def B180_130948 (N : Nat) (f : P180_130948 → Option R180_130948) : P180_130948 → Option R180_130948
  | (x0, x1, x2, x3, x4, x5) =>
  iteP (decide (x4 ≤ x0)) (
    iteP (within x0 x2) (
      Option.bind (x5[x1 + Int.toNat x0]?) fun y0 =>
      iteP (within x3 x2) (
        Option.bind (x5[x1 + Int.toNat x3]?) fun y1 =>
        Option.bind (F178 N (y0, y1)) fun y2 =>
        iteP (!y2) (
          Option.bind (f (IntKind.wrap IntKind.i64 (x0 - (1 : Int)), x1, x2, x3, x4, x5)) fun r => some r) (
          some ((x4, x3, x1, x2, x0, x5)))) (
        none )) (
      none )) (
    some ((x4, x3, x1, x2, x0, x5)))
noncomputable def F180_130948 (N : Nat) : Nat → P180_130948 → Option R180_130948
  | 0, _ => none
  | k + 1, x => B180_130948 N (F180_130948 N k) x
noncomputable def C180_130948 (N : Nat) (k : Nat) : Cut := L180_130948.cut (F180_130948 N k)
theorem C180_130948_ok (N : Nat) (k : Nat) : CutAt Tryz.prog false Tryz.f180 [0] 130948 (C180_130948 N k) :=
  L180_130948.loopT ownT mix (tab180_ok N) Tryz.f180 [0] (cuts := [(60, C180_60 N N), (124, C180_124 N N), (65472, C180_65472 N N)]) ⟨C180_60_ok N N, C180_124_ok N N, C180_65472_ok N N, trivial⟩ (by decide +kernel) (by kernel_rfl) (B180_130948 N) (F180_130948 N) (fun _ => rfl) (fun _ _ => rfl) (fun f x => by kernel_rfl) k
@[reducible] def L180_4092 : LD := ⟨4092, [10, 1, 0, 11], [(.ret, [8, 9]), (.exit 4, [1, 0, 11])], ⟨[.int .i64, .int .i64, .slp 0 .h .h, .int .i64], [.row (.int .i64) 3]⟩, [(.exit 4, ⟨[.int .i64, .slp 0 .h .h, .int .i64], [.row (.int .i64) 3]⟩)]⟩
abbrev P180_4092 : Type := Int × Int × Nat × Nat × Int × (List Int)
abbrev R180_4092 : Type := Int × Nat × Nat × Int × (List Int)
noncomputable def B180_4092 (N : Nat) (f : P180_4092 → Option R180_4092) : P180_4092 → Option R180_4092
  | (x0, x1, x2, x3, x4, x5) =>
  Option.bind (F180_65472 N N (x0, x1, x2, x3, x4, x5)) fun (y0_0, y0_1, y0_2, y0_3, y0_4, y0_5) =>
  Option.bind (F180_130948 N N (y0_0, y0_1, y0_2, y0_3, y0_4, y0_5)) fun (y1_0, y1_1, y1_2, y1_3, y1_4, y1_5) =>
  iteP (decide (y1_0 > y1_4)) (
    some ((y1_1, y1_2, y1_3, y1_4, y1_5))) (
    iteP (within y1_4 y1_3) (
      Option.bind (y1_5[y1_2 + Int.toNat y1_4]?) fun y2 =>
      iteP (within y1_0 y1_3) (
        Option.bind (y1_5[y1_2 + Int.toNat y1_0]?) fun y3 =>
        iteP (within y1_0 y1_3) (
          Option.bind (y1_5[y1_2 + Int.toNat y1_0]?) fun y4 =>
          iteP (within y1_4 y1_3) (
            Option.bind ((List.set y1_5 (y1_2 + Int.toNat y1_0) y2)[y1_2 + Int.toNat y1_4]?) fun y5 =>
            Option.bind (f (IntKind.wrap IntKind.i64 (y1_0 + (1 : Int)), y1_1, y1_2, y1_3, IntKind.wrap IntKind.i64 (y1_4 - (1 : Int)), List.set (List.set y1_5 (y1_2 + Int.toNat y1_0) y2) (y1_2 + Int.toNat y1_4) y3)) fun r => some r) (
            none )) (
          none )) (
        none )) (
      none ))
noncomputable def F180_4092 (N : Nat) : Nat → P180_4092 → Option R180_4092
  | 0, _ => none
  | k + 1, x => B180_4092 N (F180_4092 N k) x
noncomputable def C180_4092 (N : Nat) (k : Nat) : Cut := L180_4092.cut (F180_4092 N k)
theorem C180_4092_ok (N : Nat) (k : Nat) : CutAt Tryz.prog false Tryz.f180 [0] 4092 (C180_4092 N k) :=
  L180_4092.loopT ownT mix (tab180_ok N) Tryz.f180 [0] (cuts := [(60, C180_60 N N), (124, C180_124 N N), (65472, C180_65472 N N), (130948, C180_130948 N N)]) ⟨C180_60_ok N N, C180_124_ok N N, C180_65472_ok N N, C180_130948_ok N N, trivial⟩ (by decide +kernel) (by kernel_rfl) (B180_4092 N) (F180_4092 N) (fun _ => rfl) (fun _ _ => rfl) (fun f x => by kernel_rfl) k
@[reducible] def w180 : List SP := [⟨[.tup [.int .i64, .bool]], [.row (.int .i64) 3]⟩]
noncomputable def F180 (N : Nat) : (Nat × Nat × Int × Int × Int × (List Int)) → Option (Int × Bool × (List Int))
  | (x0, x1, x2, x3, x4, x5) =>
  iteP (within x4 x1) (
    Option.bind (x5[x0 + Int.toNat x4]?) fun y0 =>
    iteP (within x2 x1) (
      Option.bind (x5[x0 + Int.toNat x2]?) fun y1 =>
      iteP (within x2 x1) (
        Option.bind (x5[x0 + Int.toNat x2]?) fun y2 =>
        iteP (within x4 x1) (
          Option.bind ((List.set x5 (x0 + Int.toNat x2) y0)[x0 + Int.toNat x4]?) fun y3 =>
          Option.bind (F180_60 N N (IntKind.wrap IntKind.i64 (x2 + (1 : Int)), x2, x0, x1, IntKind.wrap IntKind.i64 (x3 - (1 : Int)), List.set (List.set x5 (x0 + Int.toNat x2) y0) (x0 + Int.toNat x4) y1)) fun (y4_0, y4_1, y4_2, y4_3, y4_4, y4_5) =>
          Option.bind (F180_124 N N (y4_0, y4_1, y4_2, y4_3, y4_4, y4_5)) fun (y5_0, y5_1, y5_2, y5_3, y5_4, y5_5) =>
          iteP (decide (y5_0 > y5_4)) (
            iteP (within y5_1 y5_3) (
              Option.bind (y5_5[y5_2 + Int.toNat y5_1]?) fun y6 =>
              iteP (within y5_4 y5_3) (
                Option.bind (y5_5[y5_2 + Int.toNat y5_4]?) fun y7 =>
                iteP (within y5_4 y5_3) (
                  Option.bind (y5_5[y5_2 + Int.toNat y5_4]?) fun y8 =>
                  iteP (within y5_1 y5_3) (
                    Option.bind ((List.set y5_5 (y5_2 + Int.toNat y5_4) y6)[y5_2 + Int.toNat y5_1]?) fun y9 =>
                    some ((y5_4, true, List.set (List.set y5_5 (y5_2 + Int.toNat y5_4) y6) (y5_2 + Int.toNat y5_1) y7))) (
                    none )) (
                  none )) (
                none )) (
              none )) (
            iteP (within y5_4 y5_3) (
              Option.bind (y5_5[y5_2 + Int.toNat y5_4]?) fun y10 =>
              iteP (within y5_0 y5_3) (
                Option.bind (y5_5[y5_2 + Int.toNat y5_0]?) fun y11 =>
                iteP (within y5_0 y5_3) (
                  Option.bind (y5_5[y5_2 + Int.toNat y5_0]?) fun y12 =>
                  iteP (within y5_4 y5_3) (
                    Option.bind ((List.set y5_5 (y5_2 + Int.toNat y5_0) y10)[y5_2 + Int.toNat y5_4]?) fun y13 =>
                    Option.bind (F180_4092 N N (IntKind.wrap IntKind.i64 (y5_0 + (1 : Int)), y5_1, y5_2, y5_3, IntKind.wrap IntKind.i64 (y5_4 - (1 : Int)), List.set (List.set y5_5 (y5_2 + Int.toNat y5_0) y10) (y5_2 + Int.toNat y5_4) y11)) fun y14 =>
                    iteP (within y14.1 y14.2.2.1) (
                      Option.bind (y14.2.2.2.2[y14.2.1 + Int.toNat y14.1]?) fun y15 =>
                      iteP (within y14.2.2.2.1 y14.2.2.1) (
                        Option.bind (y14.2.2.2.2[y14.2.1 + Int.toNat y14.2.2.2.1]?) fun y16 =>
                        iteP (within y14.2.2.2.1 y14.2.2.1) (
                          Option.bind (y14.2.2.2.2[y14.2.1 + Int.toNat y14.2.2.2.1]?) fun y17 =>
                          iteP (within y14.1 y14.2.2.1) (
                            Option.bind ((List.set y14.2.2.2.2 (y14.2.1 + Int.toNat y14.2.2.2.1) y15)[y14.2.1 + Int.toNat y14.1]?) fun y18 =>
                            some ((y14.2.2.2.1, false, List.set (List.set y14.2.2.2.2 (y14.2.1 + Int.toNat y14.2.2.2.1) y15) (y14.2.1 + Int.toNat y14.1) y16))) (
                            none )) (
                          none )) (
                        none )) (
                      none )) (
                    none )) (
                  none )) (
                none )) (
              none ))) (
          none )) (
        none )) (
      none )) (
    none )
noncomputable def T180 (N : Nat) : Pk → Tr Pk := tellS s180 w180 (F180 N)
theorem T180_ok (N : Nat) : FOK Tryz.prog (180) (T180 N) :=
  (fn_ok2 ownT mix (tab180_ok N) Tryz.func180 s180 w180 [0] (cuts := [(60, C180_60 N N), (124, C180_124 N N), (65472, C180_65472 N N), (130948, C180_130948 N N), (4092, C180_4092 N N)]) ⟨C180_60_ok N N, C180_124_ok N N, C180_65472_ok N N, C180_130948_ok N N, C180_4092_ok N N, trivial⟩ (fun _ => by kernel_rfl) (by decide +kernel) (F180 N) (fun x => by kernel_rfl))
end Go.Proofs.YtonjhbefeeoiiaaGreat.Am
