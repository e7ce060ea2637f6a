/- The seat's Go functions come to the Lean functions written here, wherever these give an answer (part A). -/
import Derived.Test.YtfcamlibbfnldaaGreatAmC
import Derived.KernelRfl
import Derived.Test.YtfcamlibbfnldaaGreatChecked
import Derived.Lib.UnsafeStr
import Derived.Shelf.RegionOpenPlain
import Derived.WalkKit
import Derived.Test.YtfcamlibbfnldaaGreatProg
set_option linter.unusedSimpArgs false
set_option linter.unusedVariables false
set_option linter.unusedSectionVars false
set_option maxRecDepth 100000
set_option maxHeartbeats 2000000
namespace Go.Proofs.YtfcamlibbfnldaaGreat.Am
open Go Go.Am
noncomputable instance instP : Inhabited Program := ⟨Tryz.prog⟩
theorem loadInts {P : Program} {w : World} : ∀ (l : List Int) (a : Addr) (acc : ByteArray), (∀ j x, l[j]? = some x → w.cell? (a.add j) = some (.int .u8 x)) →
    (loadBytes a acc l.length).run P w = .ok ⟨acc.data ++ (l.map fun n => UInt8.ofNat n.toNat).toArray⟩ w
  | [], a, acc, _ => by simp [loadBytes]
  | x :: l, a, acc, h => by
    have h0 : w.cell? a = some (.int .u8 x) := by
      have := h 0 x rfl
      simpa [Addr.add] using this
    have ih := loadInts (P := P) l (a.add 1) (acc.push (UInt8.ofNat x.toNat)) (fun j y hy => by
      have := h (j + 1) y (by simpa using hy)
      have e : (a.add 1).add j = a.add (j + 1) := by
        unfold Addr.add
        by_cases hj : j = 0
        · subst hj; simp
        · simp [hj]; omega
      rw [e]; exact this)
    simp only [List.length_cons, loadBytes, Sem.run_bind, run_load, h0, Result.andThen]
    rw [show (x.toNat).toUInt8 = UInt8.ofNat x.toNat from rfl, ih]
    congr 1
    apply ByteArray.ext
    simp [ByteArray.push]
theorem unsafeInts {P : Program} {w : World} (pt it ty e : TypeId) (hp : P.underlying pt = some (.pointer e)) (hc : P.cellsOf e = 1) (g cells : Nat) (hsh : w.shape? g = some (e, cells)) (l : List Int) (h0 : l ≠ []) (hn : l.length ≤ cells) (h63 : l.length ≤ 9223372036854775807)
    (hcell : ∀ j x, l[j]? = some x → w.cell? ((⟨g, 0, none⟩ : Addr).add j) = some (.int .u8 x)) :
    (Builtin.unsafeString_ #[pt, it] ty #[.pointer (some ⟨g, 0, none⟩), .int .i64 l.length]).run P w = .ok (.string (stringOf l)) (w.freeze ⟨g, 0, none⟩ l.length) := by
  have hl : l.length ≠ 0 := by simpa using h0
  have hlb := loadInts (P := P) (w := w) l ⟨g, 0, none⟩ .empty hcell
  have hlies := Lib.liesAt_bytes (P := P) hc (cells / P.cellsOf e) l.length (by rw [hc]; simpa using hn)
  have h63' : ¬ (9223372036854775807 : Int) < (l.length : Int) := by omega
  have hdef : Builtin.unsafeString_ #[pt, it] ty #[.pointer (some ⟨g, 0, none⟩), .int .i64 l.length] =
      (do
        let n ← asInt (.int .i64 l.length)
        if n < 0 then runtimePanic (.error "unsafe.String: len out of range")
        if n > IntKind.i64.max then unsupported (.unsafePointer "String: a length above the largest int")
        if n = 0 then pure (.string .empty)
        else if ← variablesAt ⟨g, 0, none⟩ (← elemOf pt) n.toNat then do
          let s ← loadBytes ⟨g, 0, none⟩ .empty n.toNat
          freeze ⟨g, 0, none⟩ n.toNat
          pure (.string s)
        else unsupported (.unsafePointer "String: not so many bytes at ptr")) := rfl
  rw [hdef]
  have hmax : IntKind.i64.max = 9223372036854775807 := rfl
  have hneg : ¬ (l.length : Int) < 0 := by omega
  simp [asInt, asIntOf, hmax, h63', hneg, hl, variablesAt, hsh, elemOf, run_underlying hp, hlies, hlb, stringOf]
set_option maxHeartbeats 4000000 in
theorem str67 : StrOK Tryz.prog 67 5 := by
  intro b o n c w gk cs fr xs h1 h2 h3 h4 h5 h6 h7
  subst h6
  have c1 : w.drew.cell? ⟨b, o + 1, none⟩ = some (.slice (some ⟨gk, 0, none⟩) xs.length c) := h1
  have hSD : (Builtin.unsafeSliceData_ #[93] 183 #[.slice (some ⟨gk, 0, none⟩) xs.length c]).run Tryz.prog w.drew = .ok (.pointer (some ⟨gk, 0, none⟩)) w.drew :=
    Lib.run_unsafeSliceData_row _ _ _ _ _ _ (by omega)
  have hsz : xs.length ≤ cs.size := by
    have := h7 (xs.length - 1) (.int .u8 (xs[xs.length - 1]'(by omega))) (by simp)
    unfold World.cell? at this
    rw [h5] at this
    simp at this
    have := (Array.getElem?_eq_some_iff.1 this).1
    omega
  have hUS : (Builtin.unsafeString_ #[183, 3] 9 #[.pointer (some ⟨gk, 0, none⟩), .int .i64 xs.length]).run Tryz.prog w.drew = .ok (.string (stringOf xs)) (w.drew.freeze ⟨gk, 0, none⟩ xs.length) := by
    refine unsafeInts 183 3 9 5 Tryz.underlying183 (by kernel_rfl) gk cs.size (by have hg' : w.drew.heap[gk]? = some (.cells cs 5 fr) := h5; simp [World.shape?, hg']) xs (by intro e; rw [e] at h2; simp at h2) hsz (by unfold maxRow at h3; omega) ?_
    intro j x hx
    have := h7 j (.int .u8 x) (by simp [hx])
    by_cases e : j = 0
    · subst e; simpa [Addr.add] using this
    · simpa [Addr.add, e] using this
  have mixed : Tryz.prog.follows .mixedOrders = true := by kernel_rfl
  go_enter Tryz.func67, Tryz.ntmps67
  go_wp2
  go_region_o
  all_goals (go_wp2; go_ret; exact ⟨rfl, rfl⟩)
def ownT : FuncId → List Nat := ownL [(6, [1, 0]), (8, [0, 0, 0, 1]), (10, [0, 0, 0, 1, 1, 0]), (11, [0, 0, 0, 1, 1]), (20, [0, 0]), (23, [1]), (24, [0]), (34, [0, 0, 0, 1]), (40, [0, 0, 0, 0, 1]), (66, [1, 0]), (67, [78, 5]), (71, [2, 0]), (76, [0, 5]), (83, [1, 0, 0]), (84, [2]), (86, [2]), (91, [0, 1]), (106, [2]), (107, [0, 0, 0, 0, 0, 1]), (112, [2]), (113, [2, 0]), (116, [2]), (130, [0, 5, 5]), (141, [1, 0]), (142, [1]), (143, [1, 0, 0, 0]), (144, [1, 0, 0]), (152, [0, 1]), (170, [0, 5]), (174, [0, 1]), (175, [0, 0, 0, 1]), (176, [0, 0, 0, 1]), (185, [2, 0]), (190, [77]), (193, [2]), (198, [0, 0, 5]), (207, [0, 0, 0]), (209, [0, 5, 5, 5]), (212, [1, 0]), (219, [0, 5, 5]), (231, [4]), (238, [0, 0, 1, 0]), (240, [0, 0, 0, 1]), (243, [0, 0, 0, 0, 0, 4]), (252, [0, 0, 0, 0]), (265, [1]), (285, [2]), (288, [0, 5, 5]), (289, [1, 1]), (290, [0, 0, 0]), (305, [2]), (315, [2, 0, 0, 0, 0]), (322, [0, 5, 5, 5]), (324, [2]), (325, [2]), (330, [2]), (342, [1]), (353, [1, 0, 0]), (364, [2]), (376, [0, 0]), (379, [3, 0]), (383, [1]), (384, [4, 0]), (385, [0, 0]), (388, [3, 0]), (389, [4, 0, 0]), (391, [4, 0, 0, 0]), (392, [4, 0, 0, 0, 0]), (393, [4, 0, 0, 0, 0]), (394, [4, 0, 0, 0, 0])]
theorem mix : MixP Tryz.prog ownT := ⟨rfl, by kernel_rfl, ne_one 190 (by decide +kernel) Tryz.func190 (by decide +kernel) (by decide +kernel) (by kernel_rfl) (by kernel_rfl), str_one 67 5 (by decide +kernel) Tryz.func67 (by decide +kernel) (by decide +kernel) str67⟩
@[reducible] def s102 : SP := ⟨[], []⟩
noncomputable def tab102 (N : Nat) : List (Nat × (Pk → Tr Pk)) := []
theorem tab102_ok (N : Nat) : TabOK Tryz.prog (tab102 N) := trivial
@[reducible] def w102 : List SP := [⟨[.agg [.int .i64, .int .i64, .bool, .bool, .int .i64, .int .i64, .int .i64, .int .i64, .int .i64, .int .i64]], []⟩]
noncomputable def F102 (N : Nat) : (Unit) → Option (Int × Int × Bool × Bool × Int × Int × Int × Int × Int × Int)
  | () =>
  some (((32 : Int), (24 : Int), false, true, (255 : Int), (255 : Int), (255 : Int), (16 : Int), (8 : Int), (0 : Int)))
noncomputable def T102 (N : Nat) : Pk → Tr Pk := tellS s102 w102 (F102 N)
theorem T102_ok (N : Nat) : FOK Tryz.prog (102) (T102 N) :=
  (fn_ok2 ownT mix (tab102_ok N) Tryz.func102 s102 w102 [] (cuts := []) trivial (fun _ => by kernel_rfl) (by decide +kernel) (F102 N) (fun x => by kernel_rfl))
@[reducible] def y0 : Ty := (.cons (.int .i64) (.cons (.int .i64) .unit))
@[reducible] def s95 : SP := ⟨[.agg [.int .i64, .int .i64, .bool, .bool, .int .i64, .int .i64, .int .i64, .int .i64, .int .i64, .int .i64]], []⟩
noncomputable def tab95 (N : Nat) : List (Nat × (Pk → Tr Pk)) := []
theorem tab95_ok (N : Nat) : TabOK Tryz.prog (tab95 N) := trivial
@[reducible] def w95 : List SP := [⟨[.arr y0 3], []⟩]
noncomputable def F95 (N : Nat) : (Int × Int × Bool × Bool × Int × Int × Int × Int × Int × Int) → Option ((List (Int × (Int × Unit))))
  | (x0, x1, x2, x3, x4, x5, x6, x7, x8, x9) =>
  some ([(x4, x7, ()), (x5, x8, ()), (x6, x9, ())])
noncomputable def T95 (N : Nat) : Pk → Tr Pk := tellS s95 w95 (F95 N)
theorem T95_ok (N : Nat) : FOK Tryz.prog (95) (T95 N) :=
  (fn_ok2 ownT mix (tab95_ok N) Tryz.func95 s95 w95 [] (cuts := []) trivial (fun _ => by kernel_rfl) (by decide +kernel) (F95 N) (fun x => by kernel_rfl))
@[reducible] def s227 : SP := ⟨[.int .u64], []⟩
noncomputable def tab227 (N : Nat) : List (Nat × (Pk → Tr Pk)) := []
theorem tab227_ok (N : Nat) : TabOK Tryz.prog (tab227 N) := trivial
@[reducible] def w227 : List SP := [⟨[.int .i64], []⟩]
noncomputable def F227 (N : Nat) : (Int) → Option (Int)
  | x0 =>
  iteP (decide (x0 ≥ (4294967296 : Int))) (
    iteP (decide (Int.fdiv x0 (4294967296 : Int) ≥ (65536 : Int))) (
      iteP (decide (Int.fdiv (Int.fdiv x0 (4294967296 : Int)) (65536 : Int) ≥ (256 : Int))) (
        iteP (decide ((0 : Int) ≤ IntKind.wrap IntKind.u8 (Int.fdiv (Int.fdiv (Int.fdiv x0 (4294967296 : Int)) (65536 : Int)) (256 : Int)))) (
          Option.bind ((ByteArray.mk #[(0 : UInt8), (1 : UInt8), (2 : UInt8), (2 : UInt8), (3 : UInt8), (3 : UInt8), (3 : UInt8), (3 : UInt8), (4 : UInt8), (4 : UInt8), (4 : UInt8), (4 : UInt8), (4 : UInt8), (4 : UInt8), (4 : UInt8), (4 : UInt8), (5 : UInt8), (5 : UInt8), (5 : UInt8), (5 : UInt8), (5 : UInt8), (5 : UInt8), (5 : UInt8), (5 : UInt8), (5 : UInt8), (5 : UInt8), (5 : UInt8), (5 : UInt8), (5 : UInt8), (5 : UInt8), (5 : UInt8), (5 : UInt8), (6 : UInt8), (6 : UInt8), (6 : UInt8), (6 : UInt8), (6 : UInt8), (6 : UInt8), (6 : UInt8), (6 : UInt8), (6 : UInt8), (6 : UInt8), (6 : UInt8), (6 : UInt8), (6 : UInt8), (6 : UInt8), (6 : UInt8), (6 : UInt8), (6 : UInt8), (6 : UInt8), (6 : UInt8), (6 : UInt8), (6 : UInt8), (6 : UInt8), (6 : UInt8), (6 : UInt8), (6 : UInt8), (6 : UInt8), (6 : UInt8), (6 : UInt8), (6 : UInt8), (6 : UInt8), (6 : UInt8), (6 : UInt8), (7 : UInt8), (7 : UInt8), (7 : UInt8), (7 : UInt8), (7 : UInt8), (7 : UInt8), (7 : UInt8), (7 : UInt8), (7 : UInt8), (7 : UInt8), (7 : UInt8), (7 : UInt8), (7 : UInt8), (7 : UInt8), (7 : UInt8), (7 : UInt8), (7 : UInt8), (7 : UInt8), (7 : UInt8), (7 : UInt8), (7 : UInt8), (7 : UInt8), (7 : UInt8), (7 : UInt8), (7 : UInt8), (7 : UInt8), (7 : UInt8), (7 : UInt8), (7 : UInt8), (7 : UInt8), (7 : UInt8), (7 : UInt8), (7 : UInt8), (7 : UInt8), (7 : UInt8), (7 : UInt8), (7 : UInt8), (7 : UInt8), (7 : UInt8), (7 : UInt8), (7 : UInt8), (7 : UInt8), (7 : UInt8), (7 : UInt8), (7 : UInt8), (7 : UInt8), (7 : UInt8), (7 : UInt8), (7 : UInt8), (7 : UInt8), (7 : UInt8), (7 : UInt8), (7 : UInt8), (7 : UInt8), (7 : UInt8), (7 : UInt8), (7 : UInt8), (7 : UInt8), (7 : UInt8), (7 : UInt8), (7 : UInt8), (7 : UInt8), (7 : UInt8), (7 : UInt8), (8 : UInt8), (8 : UInt8), (8 : UInt8), (8 : UInt8), (8 : UInt8), (8 : UInt8), (8 : UInt8), (8 : UInt8), (8 : UInt8), (8 : UInt8), (8 : UInt8), (8 : UInt8), (8 : UInt8), (8 : UInt8), (8 : UInt8), (8 : UInt8), (8 : UInt8), (8 : UInt8), (8 : UInt8), (8 : UInt8), (8 : UInt8), (8 : UInt8), (8 : UInt8), (8 : UInt8), (8 : UInt8), (8 : UInt8), (8 : UInt8), (8 : UInt8), (8 : UInt8), (8 : UInt8), (8 : UInt8), (8 : UInt8), (8 : UInt8), (8 : UInt8), (8 : UInt8), (8 : UInt8), (8 : UInt8), (8 : UInt8), (8 : UInt8), (8 : UInt8), (8 : UInt8), (8 : UInt8), (8 : UInt8), (8 : UInt8), (8 : UInt8), (8 : UInt8), (8 : UInt8), (8 : UInt8), (8 : UInt8), (8 : UInt8), (8 : UInt8), (8 : UInt8), (8 : UInt8), (8 : UInt8), (8 : UInt8), (8 : UInt8), (8 : UInt8), (8 : UInt8), (8 : UInt8), (8 : UInt8), (8 : UInt8), (8 : UInt8), (8 : UInt8), (8 : UInt8), (8 : UInt8), (8 : UInt8), (8 : UInt8), (8 : UInt8), (8 : UInt8), (8 : UInt8), (8 : UInt8), (8 : UInt8), (8 : UInt8), (8 : UInt8), (8 : UInt8), (8 : UInt8), (8 : UInt8), (8 : UInt8), (8 : UInt8), (8 : UInt8), (8 : UInt8), (8 : UInt8), (8 : UInt8), (8 : UInt8), (8 : UInt8), (8 : UInt8), (8 : UInt8), (8 : UInt8), (8 : UInt8), (8 : UInt8), (8 : UInt8), (8 : UInt8), (8 : UInt8), (8 : UInt8), (8 : UInt8), (8 : UInt8), (8 : UInt8), (8 : UInt8), (8 : UInt8), (8 : UInt8), (8 : UInt8), (8 : UInt8), (8 : UInt8), (8 : UInt8), (8 : UInt8), (8 : UInt8), (8 : UInt8), (8 : UInt8), (8 : UInt8), (8 : UInt8), (8 : UInt8), (8 : UInt8), (8 : UInt8), (8 : UInt8), (8 : UInt8), (8 : UInt8), (8 : UInt8), (8 : UInt8), (8 : UInt8), (8 : UInt8), (8 : UInt8), (8 : UInt8), (8 : UInt8), (8 : UInt8), (8 : UInt8), (8 : UInt8), (8 : UInt8), (8 : UInt8)])[Int.toNat (IntKind.wrap IntKind.u8 (Int.fdiv (Int.fdiv (Int.fdiv x0 (4294967296 : Int)) (65536 : Int)) (256 : Int)))]?) fun y0 =>
          some (IntKind.wrap IntKind.i64 ((56 : Int) + IntKind.wrap IntKind.i64 (↑(UInt8.toNat y0) : Int)))) (
          none )) (
        iteP (decide ((0 : Int) ≤ IntKind.wrap IntKind.u8 (Int.fdiv (Int.fdiv x0 (4294967296 : Int)) (65536 : Int)))) (
          Option.bind ((ByteArray.mk #[(0 : UInt8), (1 : UInt8), (2 : UInt8), (2 : UInt8), (3 : UInt8), (3 : UInt8), (3 : UInt8), (3 : UInt8), (4 : UInt8), (4 : UInt8), (4 : UInt8), (4 : UInt8), (4 : UInt8), (4 : UInt8), (4 : UInt8), (4 : UInt8), (5 : UInt8), (5 : UInt8), (5 : UInt8), (5 : UInt8), (5 : UInt8), (5 : UInt8), (5 : UInt8), (5 : UInt8), (5 : UInt8), (5 : UInt8), (5 : UInt8), (5 : UInt8), (5 : UInt8), (5 : UInt8), (5 : UInt8), (5 : UInt8), (6 : UInt8), (6 : UInt8), (6 : UInt8), (6 : UInt8), (6 : UInt8), (6 : UInt8), (6 : UInt8), (6 : UInt8), (6 : UInt8), (6 : UInt8), (6 : UInt8), (6 : UInt8), (6 : UInt8), (6 : UInt8), (6 : UInt8), (6 : UInt8), (6 : UInt8), (6 : UInt8), (6 : UInt8), (6 : UInt8), (6 : UInt8), (6 : UInt8), (6 : UInt8), (6 : UInt8), (6 : UInt8), (6 : UInt8), (6 : UInt8), (6 : UInt8), (6 : UInt8), (6 : UInt8), (6 : UInt8), (6 : UInt8), (7 : UInt8), (7 : UInt8), (7 : UInt8), (7 : UInt8), (7 : UInt8), (7 : UInt8), (7 : UInt8), (7 : UInt8), (7 : UInt8), (7 : UInt8), (7 : UInt8), (7 : UInt8), (7 : UInt8), (7 : UInt8), (7 : UInt8), (7 : UInt8), (7 : UInt8), (7 : UInt8), (7 : UInt8), (7 : UInt8), (7 : UInt8), (7 : UInt8), (7 : UInt8), (7 : UInt8), (7 : UInt8), (7 : UInt8), (7 : UInt8), (7 : UInt8), (7 : UInt8), (7 : UInt8), (7 : UInt8), (7 : UInt8), (7 : UInt8), (7 : UInt8), (7 : UInt8), (7 : UInt8), (7 : UInt8), (7 : UInt8), (7 : UInt8), (7 : UInt8), (7 : UInt8), (7 : UInt8), (7 : UInt8), (7 : UInt8), (7 : UInt8), (7 : UInt8), (7 : UInt8), (7 : UInt8), (7 : UInt8), (7 : UInt8), (7 : UInt8), (7 : UInt8), (7 : UInt8), (7 : UInt8), (7 : UInt8), (7 : UInt8), (7 : UInt8), (7 : UInt8), (7 : UInt8), (7 : UInt8), (7 : UInt8), (7 : UInt8), (7 : UInt8), (7 : UInt8), (8 : UInt8), (8 : UInt8), (8 : UInt8), (8 : UInt8), (8 : UInt8), (8 : UInt8), (8 : UInt8), (8 : UInt8), (8 : UInt8), (8 : UInt8), (8 : UInt8), (8 : UInt8), (8 : UInt8), (8 : UInt8), (8 : UInt8), (8 : UInt8), (8 : UInt8), (8 : UInt8), (8 : UInt8), (8 : UInt8), (8 : UInt8), (8 : UInt8), (8 : UInt8), (8 : UInt8), (8 : UInt8), (8 : UInt8), (8 : UInt8), (8 : UInt8), (8 : UInt8), (8 : UInt8), (8 : UInt8), (8 : UInt8), (8 : UInt8), (8 : UInt8), (8 : UInt8), (8 : UInt8), (8 : UInt8), (8 : UInt8), (8 : UInt8), (8 : UInt8), (8 : UInt8), (8 : UInt8), (8 : UInt8), (8 : UInt8), (8 : UInt8), (8 : UInt8), (8 : UInt8), (8 : UInt8), (8 : UInt8), (8 : UInt8), (8 : UInt8), (8 : UInt8), (8 : UInt8), (8 : UInt8), (8 : UInt8), (8 : UInt8), (8 : UInt8), (8 : UInt8), (8 : UInt8), (8 : UInt8), (8 : UInt8), (8 : UInt8), (8 : UInt8), (8 : UInt8), (8 : UInt8), (8 : UInt8), (8 : UInt8), (8 : UInt8), (8 : UInt8), (8 : UInt8), (8 : UInt8), (8 : UInt8), (8 : UInt8), (8 : UInt8), (8 : UInt8), (8 : UInt8), (8 : UInt8), (8 : UInt8), (8 : UInt8), (8 : UInt8), (8 : UInt8), (8 : UInt8), (8 : UInt8), (8 : UInt8), (8 : UInt8), (8 : UInt8), (8 : UInt8), (8 : UInt8), (8 : UInt8), (8 : UInt8), (8 : UInt8), (8 : UInt8), (8 : UInt8), (8 : UInt8), (8 : UInt8), (8 : UInt8), (8 : UInt8), (8 : UInt8), (8 : UInt8), (8 : UInt8), (8 : UInt8), (8 : UInt8), (8 : UInt8), (8 : UInt8), (8 : UInt8), (8 : UInt8), (8 : UInt8), (8 : UInt8), (8 : UInt8), (8 : UInt8), (8 : UInt8), (8 : UInt8), (8 : UInt8), (8 : UInt8), (8 : UInt8), (8 : UInt8), (8 : UInt8), (8 : UInt8), (8 : UInt8), (8 : UInt8), (8 : UInt8), (8 : UInt8), (8 : UInt8), (8 : UInt8), (8 : UInt8), (8 : UInt8), (8 : UInt8), (8 : UInt8)])[Int.toNat (IntKind.wrap IntKind.u8 (Int.fdiv (Int.fdiv x0 (4294967296 : Int)) (65536 : Int)))]?) fun y1 =>
          some (IntKind.wrap IntKind.i64 ((48 : Int) + IntKind.wrap IntKind.i64 (↑(UInt8.toNat y1) : Int)))) (
          none ))) (
      iteP (decide (Int.fdiv x0 (4294967296 : Int) ≥ (256 : Int))) (
        iteP (decide ((0 : Int) ≤ IntKind.wrap IntKind.u8 (Int.fdiv (Int.fdiv x0 (4294967296 : Int)) (256 : Int)))) (
          Option.bind ((ByteArray.mk #[(0 : UInt8), (1 : UInt8), (2 : UInt8), (2 : UInt8), (3 : UInt8), (3 : UInt8), (3 : UInt8), (3 : UInt8), (4 : UInt8), (4 : UInt8), (4 : UInt8), (4 : UInt8), (4 : UInt8), (4 : UInt8), (4 : UInt8), (4 : UInt8), (5 : UInt8), (5 : UInt8), (5 : UInt8), (5 : UInt8), (5 : UInt8), (5 : UInt8), (5 : UInt8), (5 : UInt8), (5 : UInt8), (5 : UInt8), (5 : UInt8), (5 : UInt8), (5 : UInt8), (5 : UInt8), (5 : UInt8), (5 : UInt8), (6 : UInt8), (6 : UInt8), (6 : UInt8), (6 : UInt8), (6 : UInt8), (6 : UInt8), (6 : UInt8), (6 : UInt8), (6 : UInt8), (6 : UInt8), (6 : UInt8), (6 : UInt8), (6 : UInt8), (6 : UInt8), (6 : UInt8), (6 : UInt8), (6 : UInt8), (6 : UInt8), (6 : UInt8), (6 : UInt8), (6 : UInt8), (6 : UInt8), (6 : UInt8), (6 : UInt8), (6 : UInt8), (6 : UInt8), (6 : UInt8), (6 : UInt8), (6 : UInt8), (6 : UInt8), (6 : UInt8), (6 : UInt8), (7 : UInt8), (7 : UInt8), (7 : UInt8), (7 : UInt8), (7 : UInt8), (7 : UInt8), (7 : UInt8), (7 : UInt8), (7 : UInt8), (7 : UInt8), (7 : UInt8), (7 : UInt8), (7 : UInt8), (7 : UInt8), (7 : UInt8), (7 : UInt8), (7 : UInt8), (7 : UInt8), (7 : UInt8), (7 : UInt8), (7 : UInt8), (7 : UInt8), (7 : UInt8), (7 : UInt8), (7 : UInt8), (7 : UInt8), (7 : UInt8), (7 : UInt8), (7 : UInt8), (7 : UInt8), (7 : UInt8), (7 : UInt8), (7 : UInt8), (7 : UInt8), (7 : UInt8), (7 : UInt8), (7 : UInt8), (7 : UInt8), (7 : UInt8), (7 : UInt8), (7 : UInt8), (7 : UInt8), (7 : UInt8), (7 : UInt8), (7 : UInt8), (7 : UInt8), (7 : UInt8), (7 : UInt8), (7 : UInt8), (7 : UInt8), (7 : UInt8), (7 : UInt8), (7 : UInt8), (7 : UInt8), (7 : UInt8), (7 : UInt8), (7 : UInt8), (7 : UInt8), (7 : UInt8), (7 : UInt8), (7 : UInt8), (7 : UInt8), (7 : UInt8), (7 : UInt8), (8 : UInt8), (8 : UInt8), (8 : UInt8), (8 : UInt8), (8 : UInt8), (8 : UInt8), (8 : UInt8), (8 : UInt8), (8 : UInt8), (8 : UInt8), (8 : UInt8), (8 : UInt8), (8 : UInt8), (8 : UInt8), (8 : UInt8), (8 : UInt8), (8 : UInt8), (8 : UInt8), (8 : UInt8), (8 : UInt8), (8 : UInt8), (8 : UInt8), (8 : UInt8), (8 : UInt8), (8 : UInt8), (8 : UInt8), (8 : UInt8), (8 : UInt8), (8 : UInt8), (8 : UInt8), (8 : UInt8), (8 : UInt8), (8 : UInt8), (8 : UInt8), (8 : UInt8), (8 : UInt8), (8 : UInt8), (8 : UInt8), (8 : UInt8), (8 : UInt8), (8 : UInt8), (8 : UInt8), (8 : UInt8), (8 : UInt8), (8 : UInt8), (8 : UInt8), (8 : UInt8), (8 : UInt8), (8 : UInt8), (8 : UInt8), (8 : UInt8), (8 : UInt8), (8 : UInt8), (8 : UInt8), (8 : UInt8), (8 : UInt8), (8 : UInt8), (8 : UInt8), (8 : UInt8), (8 : UInt8), (8 : UInt8), (8 : UInt8), (8 : UInt8), (8 : UInt8), (8 : UInt8), (8 : UInt8), (8 : UInt8), (8 : UInt8), (8 : UInt8), (8 : UInt8), (8 : UInt8), (8 : UInt8), (8 : UInt8), (8 : UInt8), (8 : UInt8), (8 : UInt8), (8 : UInt8), (8 : UInt8), (8 : UInt8), (8 : UInt8), (8 : UInt8), (8 : UInt8), (8 : UInt8), (8 : UInt8), (8 : UInt8), (8 : UInt8), (8 : UInt8), (8 : UInt8), (8 : UInt8), (8 : UInt8), (8 : UInt8), (8 : UInt8), (8 : UInt8), (8 : UInt8), (8 : UInt8), (8 : UInt8), (8 : UInt8), (8 : UInt8), (8 : UInt8), (8 : UInt8), (8 : UInt8), (8 : UInt8), (8 : UInt8), (8 : UInt8), (8 : UInt8), (8 : UInt8), (8 : UInt8), (8 : UInt8), (8 : UInt8), (8 : UInt8), (8 : UInt8), (8 : UInt8), (8 : UInt8), (8 : UInt8), (8 : UInt8), (8 : UInt8), (8 : UInt8), (8 : UInt8), (8 : UInt8), (8 : UInt8), (8 : UInt8), (8 : UInt8), (8 : UInt8), (8 : UInt8), (8 : UInt8), (8 : UInt8), (8 : UInt8), (8 : UInt8)])[Int.toNat (IntKind.wrap IntKind.u8 (Int.fdiv (Int.fdiv x0 (4294967296 : Int)) (256 : Int)))]?) fun y2 =>
          some (IntKind.wrap IntKind.i64 ((40 : Int) + IntKind.wrap IntKind.i64 (↑(UInt8.toNat y2) : Int)))) (
          none )) (
        iteP (decide ((0 : Int) ≤ IntKind.wrap IntKind.u8 (Int.fdiv x0 (4294967296 : Int)))) (
          Option.bind ((ByteArray.mk #[(0 : UInt8), (1 : UInt8), (2 : UInt8), (2 : UInt8), (3 : UInt8), (3 : UInt8), (3 : UInt8), (3 : UInt8), (4 : UInt8), (4 : UInt8), (4 : UInt8), (4 : UInt8), (4 : UInt8), (4 : UInt8), (4 : UInt8), (4 : UInt8), (5 : UInt8), (5 : UInt8), (5 : UInt8), (5 : UInt8), (5 : UInt8), (5 : UInt8), (5 : UInt8), (5 : UInt8), (5 : UInt8), (5 : UInt8), (5 : UInt8), (5 : UInt8), (5 : UInt8), (5 : UInt8), (5 : UInt8), (5 : UInt8), (6 : UInt8), (6 : UInt8), (6 : UInt8), (6 : UInt8), (6 : UInt8), (6 : UInt8), (6 : UInt8), (6 : UInt8), (6 : UInt8), (6 : UInt8), (6 : UInt8), (6 : UInt8), (6 : UInt8), (6 : UInt8), (6 : UInt8), (6 : UInt8), (6 : UInt8), (6 : UInt8), (6 : UInt8), (6 : UInt8), (6 : UInt8), (6 : UInt8), (6 : UInt8), (6 : UInt8), (6 : UInt8), (6 : UInt8), (6 : UInt8), (6 : UInt8), (6 : UInt8), (6 : UInt8), (6 : UInt8), (6 : UInt8), (7 : UInt8), (7 : UInt8), (7 : UInt8), (7 : UInt8), (7 : UInt8), (7 : UInt8), (7 : UInt8), (7 : UInt8), (7 : UInt8), (7 : UInt8), (7 : UInt8), (7 : UInt8), (7 : UInt8), (7 : UInt8), (7 : UInt8), (7 : UInt8), (7 : UInt8), (7 : UInt8), (7 : UInt8), (7 : UInt8), (7 : UInt8), (7 : UInt8), (7 : UInt8), (7 : UInt8), (7 : UInt8), (7 : UInt8), (7 : UInt8), (7 : UInt8), (7 : UInt8), (7 : UInt8), (7 : UInt8), (7 : UInt8), (7 : UInt8), (7 : UInt8), (7 : UInt8), (7 : UInt8), (7 : UInt8), (7 : UInt8), (7 : UInt8), (7 : UInt8), (7 : UInt8), (7 : UInt8), (7 : UInt8), (7 : UInt8), (7 : UInt8), (7 : UInt8), (7 : UInt8), (7 : UInt8), (7 : UInt8), (7 : UInt8), (7 : UInt8), (7 : UInt8), (7 : UInt8), (7 : UInt8), (7 : UInt8), (7 : UInt8), (7 : UInt8), (7 : UInt8), (7 : UInt8), (7 : UInt8), (7 : UInt8), (7 : UInt8), (7 : UInt8), (7 : UInt8), (8 : UInt8), (8 : UInt8), (8 : UInt8), (8 : UInt8), (8 : UInt8), (8 : UInt8), (8 : UInt8), (8 : UInt8), (8 : UInt8), (8 : UInt8), (8 : UInt8), (8 : UInt8), (8 : UInt8), (8 : UInt8), (8 : UInt8), (8 : UInt8), (8 : UInt8), (8 : UInt8), (8 : UInt8), (8 : UInt8), (8 : UInt8), (8 : UInt8), (8 : UInt8), (8 : UInt8), (8 : UInt8), (8 : UInt8), (8 : UInt8), (8 : UInt8), (8 : UInt8), (8 : UInt8), (8 : UInt8), (8 : UInt8), (8 : UInt8), (8 : UInt8), (8 : UInt8), (8 : UInt8), (8 : UInt8), (8 : UInt8), (8 : UInt8), (8 : UInt8), (8 : UInt8), (8 : UInt8), (8 : UInt8), (8 : UInt8), (8 : UInt8), (8 : UInt8), (8 : UInt8), (8 : UInt8), (8 : UInt8), (8 : UInt8), (8 : UInt8), (8 : UInt8), (8 : UInt8), (8 : UInt8), (8 : UInt8), (8 : UInt8), (8 : UInt8), (8 : UInt8), (8 : UInt8), (8 : UInt8), (8 : UInt8), (8 : UInt8), (8 : UInt8), (8 : UInt8), (8 : UInt8), (8 : UInt8), (8 : UInt8), (8 : UInt8), (8 : UInt8), (8 : UInt8), (8 : UInt8), (8 : UInt8), (8 : UInt8), (8 : UInt8), (8 : UInt8), (8 : UInt8), (8 : UInt8), (8 : UInt8), (8 : UInt8), (8 : UInt8), (8 : UInt8), (8 : UInt8), (8 : UInt8), (8 : UInt8), (8 : UInt8), (8 : UInt8), (8 : UInt8), (8 : UInt8), (8 : UInt8), (8 : UInt8), (8 : UInt8), (8 : UInt8), (8 : UInt8), (8 : UInt8), (8 : UInt8), (8 : UInt8), (8 : UInt8), (8 : UInt8), (8 : UInt8), (8 : UInt8), (8 : UInt8), (8 : UInt8), (8 : UInt8), (8 : UInt8), (8 : UInt8), (8 : UInt8), (8 : UInt8), (8 : UInt8), (8 : UInt8), (8 : UInt8), (8 : UInt8), (8 : UInt8), (8 : UInt8), (8 : UInt8), (8 : UInt8), (8 : UInt8), (8 : UInt8), (8 : UInt8), (8 : UInt8), (8 : UInt8), (8 : UInt8), (8 : UInt8), (8 : UInt8), (8 : UInt8), (8 : UInt8), (8 : UInt8), (8 : UInt8), (8 : UInt8)])[Int.toNat (IntKind.wrap IntKind.u8 (Int.fdiv x0 (4294967296 : Int)))]?) fun y3 =>
          some (IntKind.wrap IntKind.i64 ((32 : Int) + IntKind.wrap IntKind.i64 (↑(UInt8.toNat y3) : Int)))) (
          none )))) (
    iteP (decide (x0 ≥ (65536 : Int))) (
      iteP (decide (Int.fdiv x0 (65536 : Int) ≥ (256 : Int))) (
        iteP (decide ((0 : Int) ≤ IntKind.wrap IntKind.u8 (Int.fdiv (Int.fdiv x0 (65536 : Int)) (256 : Int)))) (
          Option.bind ((ByteArray.mk #[(0 : UInt8), (1 : UInt8), (2 : UInt8), (2 : UInt8), (3 : UInt8), (3 : UInt8), (3 : UInt8), (3 : UInt8), (4 : UInt8), (4 : UInt8), (4 : UInt8), (4 : UInt8), (4 : UInt8), (4 : UInt8), (4 : UInt8), (4 : UInt8), (5 : UInt8), (5 : UInt8), (5 : UInt8), (5 : UInt8), (5 : UInt8), (5 : UInt8), (5 : UInt8), (5 : UInt8), (5 : UInt8), (5 : UInt8), (5 : UInt8), (5 : UInt8), (5 : UInt8), (5 : UInt8), (5 : UInt8), (5 : UInt8), (6 : UInt8), (6 : UInt8), (6 : UInt8), (6 : UInt8), (6 : UInt8), (6 : UInt8), (6 : UInt8), (6 : UInt8), (6 : UInt8), (6 : UInt8), (6 : UInt8), (6 : UInt8), (6 : UInt8), (6 : UInt8), (6 : UInt8), (6 : UInt8), (6 : UInt8), (6 : UInt8), (6 : UInt8), (6 : UInt8), (6 : UInt8), (6 : UInt8), (6 : UInt8), (6 : UInt8), (6 : UInt8), (6 : UInt8), (6 : UInt8), (6 : UInt8), (6 : UInt8), (6 : UInt8), (6 : UInt8), (6 : UInt8), (7 : UInt8), (7 : UInt8), (7 : UInt8), (7 : UInt8), (7 : UInt8), (7 : UInt8), (7 : UInt8), (7 : UInt8), (7 : UInt8), (7 : UInt8), (7 : UInt8), (7 : UInt8), (7 : UInt8), (7 : UInt8), (7 : UInt8), (7 : UInt8), (7 : UInt8), (7 : UInt8), (7 : UInt8), (7 : UInt8), (7 : UInt8), (7 : UInt8), (7 : UInt8), (7 : UInt8), (7 : UInt8), (7 : UInt8), (7 : UInt8), (7 : UInt8), (7 : UInt8), (7 : UInt8), (7 : UInt8), (7 : UInt8), (7 : UInt8), (7 : UInt8), (7 : UInt8), (7 : UInt8), (7 : UInt8), (7 : UInt8), (7 : UInt8), (7 : UInt8), (7 : UInt8), (7 : UInt8), (7 : UInt8), (7 : UInt8), (7 : UInt8), (7 : UInt8), (7 : UInt8), (7 : UInt8), (7 : UInt8), (7 : UInt8), (7 : UInt8), (7 : UInt8), (7 : UInt8), (7 : UInt8), (7 : UInt8), (7 : UInt8), (7 : UInt8), (7 : UInt8), (7 : UInt8), (7 : UInt8), (7 : UInt8), (7 : UInt8), (7 : UInt8), (7 : UInt8), (8 : UInt8), (8 : UInt8), (8 : UInt8), (8 : UInt8), (8 : UInt8), (8 : UInt8), (8 : UInt8), (8 : UInt8), (8 : UInt8), (8 : UInt8), (8 : UInt8), (8 : UInt8), (8 : UInt8), (8 : UInt8), (8 : UInt8), (8 : UInt8), (8 : UInt8), (8 : UInt8), (8 : UInt8), (8 : UInt8), (8 : UInt8), (8 : UInt8), (8 : UInt8), (8 : UInt8), (8 : UInt8), (8 : UInt8), (8 : UInt8), (8 : UInt8), (8 : UInt8), (8 : UInt8), (8 : UInt8), (8 : UInt8), (8 : UInt8), (8 : UInt8), (8 : UInt8), (8 : UInt8), (8 : UInt8), (8 : UInt8), (8 : UInt8), (8 : UInt8), (8 : UInt8), (8 : UInt8), (8 : UInt8), (8 : UInt8), (8 : UInt8), (8 : UInt8), (8 : UInt8), (8 : UInt8), (8 : UInt8), (8 : UInt8), (8 : UInt8), (8 : UInt8), (8 : UInt8), (8 : UInt8), (8 : UInt8), (8 : UInt8), (8 : UInt8), (8 : UInt8), (8 : UInt8), (8 : UInt8), (8 : UInt8), (8 : UInt8), (8 : UInt8), (8 : UInt8), (8 : UInt8), (8 : UInt8), (8 : UInt8), (8 : UInt8), (8 : UInt8), (8 : UInt8), (8 : UInt8), (8 : UInt8), (8 : UInt8), (8 : UInt8), (8 : UInt8), (8 : UInt8), (8 : UInt8), (8 : UInt8), (8 : UInt8), (8 : UInt8), (8 : UInt8), (8 : UInt8), (8 : UInt8), (8 : UInt8), (8 : UInt8), (8 : UInt8), (8 : UInt8), (8 : UInt8), (8 : UInt8), (8 : UInt8), (8 : UInt8), (8 : UInt8), (8 : UInt8), (8 : UInt8), (8 : UInt8), (8 : UInt8), (8 : UInt8), (8 : UInt8), (8 : UInt8), (8 : UInt8), (8 : UInt8), (8 : UInt8), (8 : UInt8), (8 : UInt8), (8 : UInt8), (8 : UInt8), (8 : UInt8), (8 : UInt8), (8 : UInt8), (8 : UInt8), (8 : UInt8), (8 : UInt8), (8 : UInt8), (8 : UInt8), (8 : UInt8), (8 : UInt8), (8 : UInt8), (8 : UInt8), (8 : UInt8), (8 : UInt8), (8 : UInt8), (8 : UInt8), (8 : UInt8), (8 : UInt8), (8 : UInt8), (8 : UInt8), (8 : UInt8), (8 : UInt8)])[Int.toNat (IntKind.wrap IntKind.u8 (Int.fdiv (Int.fdiv x0 (65536 : Int)) (256 : Int)))]?) fun y4 =>
          some (IntKind.wrap IntKind.i64 ((24 : Int) + IntKind.wrap IntKind.i64 (↑(UInt8.toNat y4) : Int)))) (
          none )) (
        iteP (decide ((0 : Int) ≤ IntKind.wrap IntKind.u8 (Int.fdiv x0 (65536 : Int)))) (
          Option.bind ((ByteArray.mk #[(0 : UInt8), (1 : UInt8), (2 : UInt8), (2 : UInt8), (3 : UInt8), (3 : UInt8), (3 : UInt8), (3 : UInt8), (4 : UInt8), (4 : UInt8), (4 : UInt8), (4 : UInt8), (4 : UInt8), (4 : UInt8), (4 : UInt8), (4 : UInt8), (5 : UInt8), (5 : UInt8), (5 : UInt8), (5 : UInt8), (5 : UInt8), (5 : UInt8), (5 : UInt8), (5 : UInt8), (5 : UInt8), (5 : UInt8), (5 : UInt8), (5 : UInt8), (5 : UInt8), (5 : UInt8), (5 : UInt8), (5 : UInt8), (6 : UInt8), (6 : UInt8), (6 : UInt8), (6 : UInt8), (6 : UInt8), (6 : UInt8), (6 : UInt8), (6 : UInt8), (6 : UInt8), (6 : UInt8), (6 : UInt8), (6 : UInt8), (6 : UInt8), (6 : UInt8), (6 : UInt8), (6 : UInt8), (6 : UInt8), (6 : UInt8), (6 : UInt8), (6 : UInt8), (6 : UInt8), (6 : UInt8), (6 : UInt8), (6 : UInt8), (6 : UInt8), (6 : UInt8), (6 : UInt8), (6 : UInt8), (6 : UInt8), (6 : UInt8), (6 : UInt8), (6 : UInt8), (7 : UInt8), (7 : UInt8), (7 : UInt8), (7 : UInt8), (7 : UInt8), (7 : UInt8), (7 : UInt8), (7 : UInt8), (7 : UInt8), (7 : UInt8), (7 : UInt8), (7 : UInt8), (7 : UInt8), (7 : UInt8), (7 : UInt8), (7 : UInt8), (7 : UInt8), (7 : UInt8), (7 : UInt8), (7 : UInt8), (7 : UInt8), (7 : UInt8), (7 : UInt8), (7 : UInt8), (7 : UInt8), (7 : UInt8), (7 : UInt8), (7 : UInt8), (7 : UInt8), (7 : UInt8), (7 : UInt8), (7 : UInt8), (7 : UInt8), (7 : UInt8), (7 : UInt8), (7 : UInt8), (7 : UInt8), (7 : UInt8), (7 : UInt8), (7 : UInt8), (7 : UInt8), (7 : UInt8), (7 : UInt8), (7 : UInt8), (7 : UInt8), (7 : UInt8), (7 : UInt8), (7 : UInt8), (7 : UInt8), (7 : UInt8), (7 : UInt8), (7 : UInt8), (7 : UInt8), (7 : UInt8), (7 : UInt8), (7 : UInt8), (7 : UInt8), (7 : UInt8), (7 : UInt8), (7 : UInt8), (7 : UInt8), (7 : UInt8), (7 : UInt8), (7 : UInt8), (8 : UInt8), (8 : UInt8), (8 : UInt8), (8 : UInt8), (8 : UInt8), (8 : UInt8), (8 : UInt8), (8 : UInt8), (8 : UInt8), (8 : UInt8), (8 : UInt8), (8 : UInt8), (8 : UInt8), (8 : UInt8), (8 : UInt8), (8 : UInt8), (8 : UInt8), (8 : UInt8), (8 : UInt8), (8 : UInt8), (8 : UInt8), (8 : UInt8), (8 : UInt8), (8 : UInt8), (8 : UInt8), (8 : UInt8), (8 : UInt8), (8 : UInt8), (8 : UInt8), (8 : UInt8), (8 : UInt8), (8 : UInt8), (8 : UInt8), (8 : UInt8), (8 : UInt8), (8 : UInt8), (8 : UInt8), (8 : UInt8), (8 : UInt8), (8 : UInt8), (8 : UInt8), (8 : UInt8), (8 : UInt8), (8 : UInt8), (8 : UInt8), (8 : UInt8), (8 : UInt8), (8 : UInt8), (8 : UInt8), (8 : UInt8), (8 : UInt8), (8 : UInt8), (8 : UInt8), (8 : UInt8), (8 : UInt8), (8 : UInt8), (8 : UInt8), (8 : UInt8), (8 : UInt8), (8 : UInt8), (8 : UInt8), (8 : UInt8), (8 : UInt8), (8 : UInt8), (8 : UInt8), (8 : UInt8), (8 : UInt8), (8 : UInt8), (8 : UInt8), (8 : UInt8), (8 : UInt8), (8 : UInt8), (8 : UInt8), (8 : UInt8), (8 : UInt8), (8 : UInt8), (8 : UInt8), (8 : UInt8), (8 : UInt8), (8 : UInt8), (8 : UInt8), (8 : UInt8), (8 : UInt8), (8 : UInt8), (8 : UInt8), (8 : UInt8), (8 : UInt8), (8 : UInt8), (8 : UInt8), (8 : UInt8), (8 : UInt8), (8 : UInt8), (8 : UInt8), (8 : UInt8), (8 : UInt8), (8 : UInt8), (8 : UInt8), (8 : UInt8), (8 : UInt8), (8 : UInt8), (8 : UInt8), (8 : UInt8), (8 : UInt8), (8 : UInt8), (8 : UInt8), (8 : UInt8), (8 : UInt8), (8 : UInt8), (8 : UInt8), (8 : UInt8), (8 : UInt8), (8 : UInt8), (8 : UInt8), (8 : UInt8), (8 : UInt8), (8 : UInt8), (8 : UInt8), (8 : UInt8), (8 : UInt8), (8 : UInt8), (8 : UInt8), (8 : UInt8), (8 : UInt8), (8 : UInt8), (8 : UInt8), (8 : UInt8), (8 : UInt8), (8 : UInt8)])[Int.toNat (IntKind.wrap IntKind.u8 (Int.fdiv x0 (65536 : Int)))]?) fun y5 =>
          some (IntKind.wrap IntKind.i64 ((16 : Int) + IntKind.wrap IntKind.i64 (↑(UInt8.toNat y5) : Int)))) (
          none ))) (
      iteP (decide (x0 ≥ (256 : Int))) (
        iteP (decide ((0 : Int) ≤ IntKind.wrap IntKind.u8 (Int.fdiv x0 (256 : Int)))) (
          Option.bind ((ByteArray.mk #[(0 : UInt8), (1 : UInt8), (2 : UInt8), (2 : UInt8), (3 : UInt8), (3 : UInt8), (3 : UInt8), (3 : UInt8), (4 : UInt8), (4 : UInt8), (4 : UInt8), (4 : UInt8), (4 : UInt8), (4 : UInt8), (4 : UInt8), (4 : UInt8), (5 : UInt8), (5 : UInt8), (5 : UInt8), (5 : UInt8), (5 : UInt8), (5 : UInt8), (5 : UInt8), (5 : UInt8), (5 : UInt8), (5 : UInt8), (5 : UInt8), (5 : UInt8), (5 : UInt8), (5 : UInt8), (5 : UInt8), (5 : UInt8), (6 : UInt8), (6 : UInt8), (6 : UInt8), (6 : UInt8), (6 : UInt8), (6 : UInt8), (6 : UInt8), (6 : UInt8), (6 : UInt8), (6 : UInt8), (6 : UInt8), (6 : UInt8), (6 : UInt8), (6 : UInt8), (6 : UInt8), (6 : UInt8), (6 : UInt8), (6 : UInt8), (6 : UInt8), (6 : UInt8), (6 : UInt8), (6 : UInt8), (6 : UInt8), (6 : UInt8), (6 : UInt8), (6 : UInt8), (6 : UInt8), (6 : UInt8), (6 : UInt8), (6 : UInt8), (6 : UInt8), (6 : UInt8), (7 : UInt8), (7 : UInt8), (7 : UInt8), (7 : UInt8), (7 : UInt8), (7 : UInt8), (7 : UInt8), (7 : UInt8), (7 : UInt8), (7 : UInt8), (7 : UInt8), (7 : UInt8), (7 : UInt8), (7 : UInt8), (7 : UInt8), (7 : UInt8), (7 : UInt8), (7 : UInt8), (7 : UInt8), (7 : UInt8), (7 : UInt8), (7 : UInt8), (7 : UInt8), (7 : UInt8), (7 : UInt8), (7 : UInt8), (7 : UInt8), (7 : UInt8), (7 : UInt8), (7 : UInt8), (7 : UInt8), (7 : UInt8), (7 : UInt8), (7 : UInt8), (7 : UInt8), (7 : UInt8), (7 : UInt8), (7 : UInt8), (7 : UInt8), (7 : UInt8), (7 : UInt8), (7 : UInt8), (7 : UInt8), (7 : UInt8), (7 : UInt8), (7 : UInt8), (7 : UInt8), (7 : UInt8), (7 : UInt8), (7 : UInt8), (7 : UInt8), (7 : UInt8), (7 : UInt8), (7 : UInt8), (7 : UInt8), (7 : UInt8), (7 : UInt8), (7 : UInt8), (7 : UInt8), (7 : UInt8), (7 : UInt8), (7 : UInt8), (7 : UInt8), (7 : UInt8), (8 : UInt8), (8 : UInt8), (8 : UInt8), (8 : UInt8), (8 : UInt8), (8 : UInt8), (8 : UInt8), (8 : UInt8), (8 : UInt8), (8 : UInt8), (8 : UInt8), (8 : UInt8), (8 : UInt8), (8 : UInt8), (8 : UInt8), (8 : UInt8), (8 : UInt8), (8 : UInt8), (8 : UInt8), (8 : UInt8), (8 : UInt8), (8 : UInt8), (8 : UInt8), (8 : UInt8), (8 : UInt8), (8 : UInt8), (8 : UInt8), (8 : UInt8), (8 : UInt8), (8 : UInt8), (8 : UInt8), (8 : UInt8), (8 : UInt8), (8 : UInt8), (8 : UInt8), (8 : UInt8), (8 : UInt8), (8 : UInt8), (8 : UInt8), (8 : UInt8), (8 : UInt8), (8 : UInt8), (8 : UInt8), (8 : UInt8), (8 : UInt8), (8 : UInt8), (8 : UInt8), (8 : UInt8), (8 : UInt8), (8 : UInt8), (8 : UInt8), (8 : UInt8), (8 : UInt8), (8 : UInt8), (8 : UInt8), (8 : UInt8), (8 : UInt8), (8 : UInt8), (8 : UInt8), (8 : UInt8), (8 : UInt8), (8 : UInt8), (8 : UInt8), (8 : UInt8), (8 : UInt8), (8 : UInt8), (8 : UInt8), (8 : UInt8), (8 : UInt8), (8 : UInt8), (8 : UInt8), (8 : UInt8), (8 : UInt8), (8 : UInt8), (8 : UInt8), (8 : UInt8), (8 : UInt8), (8 : UInt8), (8 : UInt8), (8 : UInt8), (8 : UInt8), (8 : UInt8), (8 : UInt8), (8 : UInt8), (8 : UInt8), (8 : UInt8), (8 : UInt8), (8 : UInt8), (8 : UInt8), (8 : UInt8), (8 : UInt8), (8 : UInt8), (8 : UInt8), (8 : UInt8), (8 : UInt8), (8 : UInt8), (8 : UInt8), (8 : UInt8), (8 : UInt8), (8 : UInt8), (8 : UInt8), (8 : UInt8), (8 : UInt8), (8 : UInt8), (8 : UInt8), (8 : UInt8), (8 : UInt8), (8 : UInt8), (8 : UInt8), (8 : UInt8), (8 : UInt8), (8 : UInt8), (8 : UInt8), (8 : UInt8), (8 : UInt8), (8 : UInt8), (8 : UInt8), (8 : UInt8), (8 : UInt8), (8 : UInt8), (8 : UInt8), (8 : UInt8), (8 : UInt8), (8 : UInt8), (8 : UInt8), (8 : UInt8), (8 : UInt8), (8 : UInt8)])[Int.toNat (IntKind.wrap IntKind.u8 (Int.fdiv x0 (256 : Int)))]?) fun y6 =>
          some (IntKind.wrap IntKind.i64 ((8 : Int) + IntKind.wrap IntKind.i64 (↑(UInt8.toNat y6) : Int)))) (
          none )) (
        iteP (decide ((0 : Int) ≤ IntKind.wrap IntKind.u8 x0)) (
          Option.bind ((ByteArray.mk #[(0 : UInt8), (1 : UInt8), (2 : UInt8), (2 : UInt8), (3 : UInt8), (3 : UInt8), (3 : UInt8), (3 : UInt8), (4 : UInt8), (4 : UInt8), (4 : UInt8), (4 : UInt8), (4 : UInt8), (4 : UInt8), (4 : UInt8), (4 : UInt8), (5 : UInt8), (5 : UInt8), (5 : UInt8), (5 : UInt8), (5 : UInt8), (5 : UInt8), (5 : UInt8), (5 : UInt8), (5 : UInt8), (5 : UInt8), (5 : UInt8), (5 : UInt8), (5 : UInt8), (5 : UInt8), (5 : UInt8), (5 : UInt8), (6 : UInt8), (6 : UInt8), (6 : UInt8), (6 : UInt8), (6 : UInt8), (6 : UInt8), (6 : UInt8), (6 : UInt8), (6 : UInt8), (6 : UInt8), (6 : UInt8), (6 : UInt8), (6 : UInt8), (6 : UInt8), (6 : UInt8), (6 : UInt8), (6 : UInt8), (6 : UInt8), (6 : UInt8), (6 : UInt8), (6 : UInt8), (6 : UInt8), (6 : UInt8), (6 : UInt8), (6 : UInt8), (6 : UInt8), (6 : UInt8), (6 : UInt8), (6 : UInt8), (6 : UInt8), (6 : UInt8), (6 : UInt8), (7 : UInt8), (7 : UInt8), (7 : UInt8), (7 : UInt8), (7 : UInt8), (7 : UInt8), (7 : UInt8), (7 : UInt8), (7 : UInt8), (7 : UInt8), (7 : UInt8), (7 : UInt8), (7 : UInt8), (7 : UInt8), (7 : UInt8), (7 : UInt8), (7 : UInt8), (7 : UInt8), (7 : UInt8), (7 : UInt8), (7 : UInt8), (7 : UInt8), (7 : UInt8), (7 : UInt8), (7 : UInt8), (7 : UInt8), (7 : UInt8), (7 : UInt8), (7 : UInt8), (7 : UInt8), (7 : UInt8), (7 : UInt8), (7 : UInt8), (7 : UInt8), (7 : UInt8), (7 : UInt8), (7 : UInt8), (7 : UInt8), (7 : UInt8), (7 : UInt8), (7 : UInt8), (7 : UInt8), (7 : UInt8), (7 : UInt8), (7 : UInt8), (7 : UInt8), (7 : UInt8), (7 : UInt8), (7 : UInt8), (7 : UInt8), (7 : UInt8), (7 : UInt8), (7 : UInt8), (7 : UInt8), (7 : UInt8), (7 : UInt8), (7 : UInt8), (7 : UInt8), (7 : UInt8), (7 : UInt8), (7 : UInt8), (7 : UInt8), (7 : UInt8), (7 : UInt8), (8 : UInt8), (8 : UInt8), (8 : UInt8), (8 : UInt8), (8 : UInt8), (8 : UInt8), (8 : UInt8), (8 : UInt8), (8 : UInt8), (8 : UInt8), (8 : UInt8), (8 : UInt8), (8 : UInt8), (8 : UInt8), (8 : UInt8), (8 : UInt8), (8 : UInt8), (8 : UInt8), (8 : UInt8), (8 : UInt8), (8 : UInt8), (8 : UInt8), (8 : UInt8), (8 : UInt8), (8 : UInt8), (8 : UInt8), (8 : UInt8), (8 : UInt8), (8 : UInt8), (8 : UInt8), (8 : UInt8), (8 : UInt8), (8 : UInt8), (8 : UInt8), (8 : UInt8), (8 : UInt8), (8 : UInt8), (8 : UInt8), (8 : UInt8), (8 : UInt8), (8 : UInt8), (8 : UInt8), (8 : UInt8), (8 : UInt8), (8 : UInt8), (8 : UInt8), (8 : UInt8), (8 : UInt8), (8 : UInt8), (8 : UInt8), (8 : UInt8), (8 : UInt8), (8 : UInt8), (8 : UInt8), (8 : UInt8), (8 : UInt8), (8 : UInt8), (8 : UInt8), (8 : UInt8), (8 : UInt8), (8 : UInt8), (8 : UInt8), (8 : UInt8), (8 : UInt8), (8 : UInt8), (8 : UInt8), (8 : UInt8), (8 : UInt8), (8 : UInt8), (8 : UInt8), (8 : UInt8), (8 : UInt8), (8 : UInt8), (8 : UInt8), (8 : UInt8), (8 : UInt8), (8 : UInt8), (8 : UInt8), (8 : UInt8), (8 : UInt8), (8 : UInt8), (8 : UInt8), (8 : UInt8), (8 : UInt8), (8 : UInt8), (8 : UInt8), (8 : UInt8), (8 : UInt8), (8 : UInt8), (8 : UInt8), (8 : UInt8), (8 : UInt8), (8 : UInt8), (8 : UInt8), (8 : UInt8), (8 : UInt8), (8 : UInt8), (8 : UInt8), (8 : UInt8), (8 : UInt8), (8 : UInt8), (8 : UInt8), (8 : UInt8), (8 : UInt8), (8 : UInt8), (8 : UInt8), (8 : UInt8), (8 : UInt8), (8 : UInt8), (8 : UInt8), (8 : UInt8), (8 : UInt8), (8 : UInt8), (8 : UInt8), (8 : UInt8), (8 : UInt8), (8 : UInt8), (8 : UInt8), (8 : UInt8), (8 : UInt8), (8 : UInt8), (8 : UInt8), (8 : UInt8), (8 : UInt8), (8 : UInt8), (8 : UInt8), (8 : UInt8), (8 : UInt8)])[Int.toNat (IntKind.wrap IntKind.u8 x0)]?) fun y7 =>
          some (IntKind.wrap IntKind.i64 ((0 : Int) + IntKind.wrap IntKind.i64 (↑(UInt8.toNat y7) : Int)))) (
          none ))))
noncomputable def T227 (N : Nat) : Pk → Tr Pk := tellS s227 w227 (F227 N)
theorem T227_ok (N : Nat) : FOK Tryz.prog (227) (T227 N) :=
  (fn_ok2 ownT mix (tab227_ok N) Tryz.func227 s227 w227 [] (cuts := []) trivial (fun _ => by kernel_rfl) (by decide +kernel) (F227 N) (fun x => by kernel_rfl))
@[reducible] def s161 : SP := ⟨[.int .u64], []⟩
noncomputable def tab161 (N : Nat) : List (Nat × (Pk → Tr Pk)) := [(227, T227 N)]
theorem tab161_ok (N : Nat) : TabOK Tryz.prog (tab161 N) := ⟨T227_ok N, trivial⟩
@[reducible] def w161 : List SP := [⟨[.int .i64], []⟩]
noncomputable def F161 (N : Nat) : (Int) → Option (Int)
  | x0 =>
  Option.bind (F227 N x0) fun y0 =>
  some (y0)
noncomputable def T161 (N : Nat) : Pk → Tr Pk := tellS s161 w161 (F161 N)
theorem T161_ok (N : Nat) : FOK Tryz.prog (161) (T161 N) :=
  (fn_ok2 ownT mix (tab161_ok N) Tryz.func161 s161 w161 [] (cuts := []) trivial (fun _ => by kernel_rfl) (by decide +kernel) (F161 N) (fun x => by kernel_rfl))
@[reducible] def s98 : SP := ⟨[.agg [.int .i64, .int .i64], .int .i64], []⟩
noncomputable def tab98 (N : Nat) : List (Nat × (Pk → Tr Pk)) := [(161, T161 N)]
theorem tab98_ok (N : Nat) : TabOK Tryz.prog (tab98 N) := ⟨T161_ok N, trivial⟩
@[reducible] def w98 : List SP := [⟨[.bool], []⟩]
noncomputable def F98 (N : Nat) : (Int × Int × Int) → Option (Bool)
  | (x0, x1, x2) =>
  iteP (decide (x0 < (1 : Int))) (
    some (false)) (
    iteP (decide (x0 > (65535 : Int))) (
      some (false)) (
      iteP (IntKind.wrap IntKind.i64 (↑(BitVec.toNat (BitVec.ofInt (64 : Nat) x0 &&& BitVec.ofInt (64 : Nat) (IntKind.wrap IntKind.i64 (x0 + (1 : Int))))) : Int) != (0 : Int)) (
        some (false)) (
        iteP (decide (x1 < (0 : Int))) (
          some (false)) (
          iteP (decide (x1 > x2)) (
            some (false)) (
            Option.bind (F161 N (IntKind.wrap IntKind.u64 x0)) fun y0 =>
            some (decide (IntKind.wrap IntKind.i64 (x1 + y0) ≤ x2)))))))
noncomputable def T98 (N : Nat) : Pk → Tr Pk := tellS s98 w98 (F98 N)
theorem T98_ok (N : Nat) : FOK Tryz.prog (98) (T98 N) :=
  (fn_ok2 ownT mix (tab98_ok N) Tryz.func98 s98 w98 [] (cuts := []) trivial (fun _ => by kernel_rfl) (by decide +kernel) (F98 N) (fun x => by kernel_rfl))
@[reducible] def s96 : SP := ⟨[.agg [.int .i64, .int .i64]], []⟩
noncomputable def tab96 (N : Nat) : List (Nat × (Pk → Tr Pk)) := []
theorem tab96_ok (N : Nat) : TabOK Tryz.prog (tab96 N) := trivial
@[reducible] def w96 : List SP := [⟨[.int .i64], []⟩]
noncomputable def F96 (N : Nat) : (Int × Int) → Option (Int)
  | (x0, x1) =>
  iteP (decide (x1 < (0 : Int))) (
    none ) (
    some (IntKind.wrap IntKind.i64 (x0 * (2 : Int) ^ min (Int.toNat x1) (64 : Nat))))
noncomputable def T96 (N : Nat) : Pk → Tr Pk := tellS s96 w96 (F96 N)
theorem T96_ok (N : Nat) : FOK Tryz.prog (96) (T96 N) :=
  (fn_ok2 ownT mix (tab96_ok N) Tryz.func96 s96 w96 [] (cuts := []) trivial (fun _ => by kernel_rfl) (by decide +kernel) (F96 N) (fun x => by kernel_rfl))
@[reducible] def s39 : SP := ⟨[.agg [.int .i64, .int .i64, .bool, .bool, .int .i64, .int .i64, .int .i64, .int .i64, .int .i64, .int .i64]], []⟩
noncomputable def tab39 (N : Nat) : List (Nat × (Pk → Tr Pk)) := [(95, T95 N), (98, T98 N), (96, T96 N)]
theorem tab39_ok (N : Nat) : TabOK Tryz.prog (tab39 N) := ⟨T95_ok N, T98_ok N, T96_ok N, trivial⟩
@[reducible] def L39_250 : LD := ⟨250, [28, 1, 29, 3], [(.ret, [2]), (.exit 1, [])], ⟨[.arr y0 3, .adr 0 [], .int .i64, .int .i64], [.var 43 (.agg [.int .i64, .int .i64, .bool, .bool, .int .i64, .int .i64, .int .i64, .int .i64, .int .i64, .int .i64])]⟩, [(.ret, ⟨[.bool], []⟩), (.exit 1, ⟨[], []⟩)]⟩
abbrev P39_250 : Type := (List (Int × (Int × Unit))) × Int × Int × Int × Int × Bool × Bool × Int × Int × Int × Int × Int × Int
abbrev R39_250 : Type := ((Bool) ⊕ (Unit))
noncomputable def B39_250 (N : Nat) (f : P39_250 → Option R39_250) : P39_250 → Option R39_250
  | (x0, x1, x2, x3, x4, x5, x6, x7, x8, x9, x10, x11, x12) =>
  iteP (decide (x1 < (3 : Int))) (
    iteP (within x1 (List.length x0)) (
      Option.bind (x0[Int.toNat x1]?) fun y0 =>
      Option.bind (F98 N (y0.1, y0.2.1, x3)) fun y1 =>
      iteP (!y1) (
        some (.inl (false))) (
        Option.bind (F96 N (y0.1, y0.2.1)) fun y2 =>
        iteP (IntKind.wrap IntKind.i64 (↑(BitVec.toNat (BitVec.ofInt (64 : Nat) x2 &&& BitVec.ofInt (64 : Nat) y2)) : Int) != (0 : Int)) (
          some (.inl (false))) (
          Option.bind (F96 N (y0.1, y0.2.1)) fun y3 =>
          Option.bind (f (x0, IntKind.wrap IntKind.i64 (x1 + (1 : Int)), IntKind.wrap IntKind.i64 (↑(BitVec.toNat (BitVec.ofInt (64 : Nat) x2 ||| BitVec.ofInt (64 : Nat) y3)) : Int), x3, x4, x5, x6, x7, x8, x9, x10, x11, x12)) fun r => match r with | .inl y => some (.inl y) | .inr y => some (.inr y)))) (
      none )) (
    some (.inr (())))
noncomputable def F39_250 (N : Nat) : Nat → P39_250 → Option R39_250
  | 0, _ => none
  | k + 1, x => B39_250 N (F39_250 N k) x
noncomputable def C39_250 (N : Nat) (k : Nat) : Cut := L39_250.cut (F39_250 N k)
theorem C39_250_ok (N : Nat) (k : Nat) : CutAt Tryz.prog false Tryz.f39 [] 250 (C39_250 N k) :=
  L39_250.loopT ownT mix (tab39_ok N) Tryz.f39 [] (cuts := []) trivial (by decide +kernel) (by kernel_rfl) (B39_250 N) (F39_250 N) (fun _ => rfl) (fun _ _ => rfl) (fun f x => by kernel_rfl) k
@[reducible] def L39_7 : LD := ⟨7, [1], [(.ret, [2]), (.normal, [2])], ⟨[.adr 0 []], [.var 43 (.agg [.int .i64, .int .i64, .bool, .bool, .int .i64, .int .i64, .int .i64, .int .i64, .int .i64, .int .i64])]⟩, [(.ret, ⟨[.bool], []⟩)]⟩
noncomputable def F39_7 (N : Nat) : (Int × Int × Bool × Bool × Int × Int × Int × Int × Int × Int) → Option (Bool)
  | (x0, x1, x2, x3, x4, x5, x6, x7, x8, x9) =>
  iteP (decide (x1 < (1 : Int))) (
    some (false)) (
    iteP (decide (x1 > x0)) (
      some (false)) (
      iteP (!x3) (
        some (false)) (
        Option.bind (F95 N (x0, x1, x2, x3, x4, x5, x6, x7, x8, x9)) fun y0 =>
        Option.bind (F39_250 N N (y0, (0 : Int), (0 : Int), x0, x1, x2, x3, x4, x5, x6, x7, x8, x9)) fun y1 =>
        match y1 with
        | .inl y2 =>
          some (y2)
        | .inr y2 =>
          some (true))))
noncomputable def C39_7 (N : Nat) (_ : Nat) : Cut := L39_7.cut (F39_7 N)
theorem C39_7_ok (N : Nat) (k : Nat) : CutAt Tryz.prog false Tryz.f39 [] 7 (C39_7 N k) :=
  L39_7.pieceT ownT mix (tab39_ok N) Tryz.f39 [] (cuts := [(250, C39_250 N N)]) ⟨C39_250_ok N N, trivial⟩ (by decide +kernel) (by kernel_rfl) (F39_7 N) (fun x => by kernel_rfl)
@[reducible] def w39 : List SP := [⟨[.bool], []⟩]
noncomputable def F39 (N : Nat) : (Int × Int × Bool × Bool × Int × Int × Int × Int × Int × Int) → Option (Bool)
  | (x0, x1, x2, x3, x4, x5, x6, x7, x8, x9) =>
  iteP (x0 == (8 : Int)) (
    Option.bind (F39_7 N (x0, x1, x2, x3, x4, x5, x6, x7, x8, x9)) fun y0 =>
    some (y0)) (
    iteP (x0 == (16 : Int)) (
      Option.bind (F39_7 N (x0, x1, x2, x3, x4, x5, x6, x7, x8, x9)) fun y1 =>
      some (y1)) (
      iteP (x0 == (32 : Int)) (
        Option.bind (F39_7 N (x0, x1, x2, x3, x4, x5, x6, x7, x8, x9)) fun y2 =>
        some (y2)) (
        some (false))))
noncomputable def T39 (N : Nat) : Pk → Tr Pk := tellS s39 w39 (F39 N)
theorem T39_ok (N : Nat) : FOK Tryz.prog (39) (T39 N) :=
  (fn_ok2 ownT mix (tab39_ok N) Tryz.func39 s39 w39 [] (cuts := [(250, C39_250 N N), (7, C39_7 N N)]) ⟨C39_250_ok N N, C39_7_ok N N, trivial⟩ (fun _ => by kernel_rfl) (by decide +kernel) (F39 N) (fun x => by kernel_rfl))
@[reducible] def s93 : SP := ⟨[.int .i64], []⟩
noncomputable def tab93 (N : Nat) : List (Nat × (Pk → Tr Pk)) := []
theorem tab93_ok (N : Nat) : TabOK Tryz.prog (tab93 N) := trivial
@[reducible] def w93 : List SP := [⟨[.bool], []⟩]
noncomputable def F93 (N : Nat) : (Int) → Option (Bool)
  | x0 =>
  iteP (decide ((0 : Int) ≤ x0)) (
    some (decide (x0 ≤ (4096 : Int)))) (
    some (false))
noncomputable def T93 (N : Nat) : Pk → Tr Pk := tellS s93 w93 (F93 N)
theorem T93_ok (N : Nat) : FOK Tryz.prog (93) (T93 N) :=
  (fn_ok2 ownT mix (tab93_ok N) Tryz.func93 s93 w93 [] (cuts := []) trivial (fun _ => by kernel_rfl) (by decide +kernel) (F93 N) (fun x => by kernel_rfl))
@[reducible] def s35 : SP := ⟨[.agg [.int .i64, .int .i64, .bool, .bool, .int .i64, .int .i64, .int .i64, .int .i64, .int .i64, .int .i64], .int .i64, .int .i64], []⟩
noncomputable def tab35 (N : Nat) : List (Nat × (Pk → Tr Pk)) := [(39, T39 N), (93, T93 N)]
theorem tab35_ok (N : Nat) : TabOK Tryz.prog (tab35 N) := ⟨T39_ok N, T93_ok N, trivial⟩
@[reducible] def w35 : List SP := [⟨[.bool], []⟩]
noncomputable def F35 (N : Nat) : (Int × Int × Bool × Bool × Int × Int × Int × Int × Int × Int × Int × Int) → Option (Bool)
  | (x0, x1, x2, x3, x4, x5, x6, x7, x8, x9, x10, x11) =>
  Option.bind (F39 N (x0, x1, x2, x3, x4, x5, x6, x7, x8, x9)) fun y0 =>
  iteP (y0) (
    Option.bind (F93 N x10) fun y1 =>
    iteP (y1) (
      Option.bind (F93 N x11) fun y2 =>
      some (y2)) (
      some (false))) (
    some (false))
noncomputable def T35 (N : Nat) : Pk → Tr Pk := tellS s35 w35 (F35 N)
theorem T35_ok (N : Nat) : FOK Tryz.prog (35) (T35 N) :=
  (fn_ok2 ownT mix (tab35_ok N) Tryz.func35 s35 w35 [] (cuts := []) trivial (fun _ => by kernel_rfl) (by decide +kernel) (F35 N) (fun x => by kernel_rfl))
@[reducible] def s152 : SP := ⟨[.agg [.int .i64, .int .i64, .bool, .bool, .int .i64, .int .i64, .int .i64, .int .i64, .int .i64, .int .i64], .sl 0], [.row (.int .i64) 3]⟩
noncomputable def tab152 (N : Nat) : List (Nat × (Pk → Tr Pk)) := []
theorem tab152_ok (N : Nat) : TabOK Tryz.prog (tab152 N) := trivial
@[reducible] def w152 : List SP := [⟨[.clo 219 [.adr 0 [], .adr 1 []]], [.var 29 (.sl 2), .var 43 (.agg [.int .i64, .int .i64, .bool, .bool, .int .i64, .int .i64, .int .i64, .int .i64, .int .i64, .int .i64]), .row (.int .i64) 3]⟩]
noncomputable def F152 (N : Nat) : (Int × Int × Bool × Bool × Int × Int × Int × Int × Int × Int × (List Int)) → Option (Int × Int × Bool × Bool × Int × Int × Int × Int × Int × Int × (List Int))
  | (x0, x1, x2, x3, x4, x5, x6, x7, x8, x9, x10) =>
  some ((x0, x1, x2, x3, x4, x5, x6, x7, x8, x9, x10))
noncomputable def T152 (N : Nat) : Pk → Tr Pk := tellS s152 w152 (F152 N)
theorem T152_ok (N : Nat) : FOK Tryz.prog (152) (T152 N) :=
  (fn_ok2 ownT mix (tab152_ok N) Tryz.func152 s152 w152 [] (cuts := []) trivial (fun _ => by kernel_rfl) (by decide +kernel) (F152 N) (fun x => by kernel_rfl))
@[reducible] def s171 : SP := ⟨[.agg [.int .i64, .int .i64, .bool, .bool, .int .i64, .int .i64, .int .i64, .int .i64, .int .i64, .int .i64], .int .i64], []⟩
noncomputable def tab171 (N : Nat) : List (Nat × (Pk → Tr Pk)) := [(39, T39 N), (95, T95 N)]
theorem tab171_ok (N : Nat) : TabOK Tryz.prog (tab171 N) := ⟨T39_ok N, T95_ok N, trivial⟩
@[reducible] def L171_122 : LD := ⟨122, [5, 14, 13, 1], [(.ret, [4]), (.exit 0, [5])], ⟨[.int .i64, .int .i64, .arr y0 3, .int .i64], []⟩, [(.exit 0, ⟨[.int .i64], []⟩)]⟩
abbrev P171_122 : Type := Int × Int × (List (Int × (Int × Unit))) × Int
abbrev R171_122 : Type := Int
noncomputable def B171_122 (N : Nat) (f : P171_122 → Option R171_122) : P171_122 → Option R171_122
  | (x0, x1, x2, x3) =>
  iteP (decide (x1 < (3 : Int))) (
    iteP (within x1 (List.length x2)) (
      Option.bind (x2[Int.toNat x1]?) fun y0 =>
      iteP (decide (IntKind.wrap IntKind.i64 ((8 : Int) * IntKind.wrap IntKind.i64 ((2 : Int) - x1)) < (0 : Int))) (
        none ) (
        iteP (decide (y0.2.1 < (0 : Int))) (
          none ) (
          Option.bind (f (IntKind.wrap IntKind.i64 (↑(BitVec.toNat (BitVec.ofInt (64 : Nat) x0 ||| BitVec.ofInt (64 : Nat) (IntKind.wrap IntKind.i64 (IntKind.wrap IntKind.i64 (Int.tdiv (IntKind.wrap IntKind.i64 (IntKind.wrap IntKind.i64 (IntKind.wrap IntKind.i64 (↑(BitVec.toNat (BitVec.ofInt (64 : Nat) (Int.fdiv x3 ((2 : Int) ^ min (Int.toNat (IntKind.wrap IntKind.i64 ((8 : Int) * IntKind.wrap IntKind.i64 ((2 : Int) - x1)))) (64 : Nat))) &&& BitVec.ofInt (64 : Nat) (255 : Int))) : Int) * y0.1) + (127 : Int))) (255 : Int)) * (2 : Int) ^ min (Int.toNat y0.2.1) (64 : Nat))))) : Int), IntKind.wrap IntKind.i64 (x1 + (1 : Int)), x2, x3)) fun r => some r))) (
      none )) (
    some (x0))
noncomputable def F171_122 (N : Nat) : Nat → P171_122 → Option R171_122
  | 0, _ => none
  | k + 1, x => B171_122 N (F171_122 N k) x
noncomputable def C171_122 (N : Nat) (k : Nat) : Cut := L171_122.cut (F171_122 N k)
theorem C171_122_ok (N : Nat) (k : Nat) : CutAt Tryz.prog false Tryz.f171 [] 122 (C171_122 N k) :=
  L171_122.loopT ownT mix (tab171_ok N) Tryz.f171 [] (cuts := []) trivial (by decide +kernel) (by kernel_rfl) (B171_122 N) (F171_122 N) (fun _ => rfl) (fun _ _ => rfl) (fun f x => by kernel_rfl) k
@[reducible] def w171 : List SP := [⟨[.int .i64], []⟩]
noncomputable def F171 (N : Nat) : (Int × Int × Bool × Bool × Int × Int × Int × Int × Int × Int × Int) → Option (Int)
  | (x0, x1, x2, x3, x4, x5, x6, x7, x8, x9, x10) =>
  Option.bind (F39 N (x0, x1, x2, x3, x4, x5, x6, x7, x8, x9)) fun y0 =>
  iteP (!y0) (
    some ((0 : Int))) (
    Option.bind (F95 N (x0, x1, x2, x3, x4, x5, x6, x7, x8, x9)) fun y1 =>
    Option.bind (F171_122 N N ((0 : Int), (0 : Int), y1, x10)) fun y2 =>
    some (y2))
noncomputable def T171 (N : Nat) : Pk → Tr Pk := tellS s171 w171 (F171 N)
theorem T171_ok (N : Nat) : FOK Tryz.prog (171) (T171 N) :=
  (fn_ok2 ownT mix (tab171_ok N) Tryz.func171 s171 w171 [] (cuts := [(122, C171_122 N N)]) ⟨C171_122_ok N N, trivial⟩ (fun _ => by kernel_rfl) (by decide +kernel) (F171 N) (fun x => by kernel_rfl))
@[reducible] def s91r58 : SP := ⟨[.yv 0, .int .i64, .adr 1 []], [.lp 1678653710707569197114 [5] [.adr 1 []] 0, .var 29 (.sl 2), .row (.int .i64) 3]⟩
noncomputable def tab91r58 (N : Nat) : List (Nat × (Pk → Tr Pk)) := []
theorem tab91r58_ok (N : Nat) : TabOK Tryz.prog (tab91r58 N) := trivial
@[reducible] def w91r58 : List SP := [⟨[.bc true], [.lp 1678653710707569197114 [5] [.adr 1 []] 0, .var 29 (.sl 2), .row (.int .i64) 3]⟩]
noncomputable def F91r58 (N : Nat) : (Int × (List Int)) → Option ((List Int))
  | (x0, x1) =>
  iteP (decide ((List.length x1 + List.length [x0]) * (8 : Nat) ≤ (140737488355328 : Nat) ∧ List.length x1 + List.length [x0] ≤ (140737488355328 : Nat))) (
    some (x1 ++ [x0])) (
    none )
noncomputable def T91r58 (N : Nat) : Pk → Tr Pk := tellS s91r58 w91r58 (F91r58 N)
theorem T91r58_ok (N : Nat) : FOK Tryz.prog (91 * bigK + 58) (T91r58 N) :=
  (rnd_ok ownT mix (tab91r58_ok N) Tryz.func91 58 s91r58 w91r58 [0, 1, 1] (cuts := []) trivial (fun _ => by kernel_rfl) (by decide +kernel) (F91r58 N) (fun x => by kernel_rfl))
@[reducible] def s219 : SP := ⟨[.yv 0, .adr 1 [], .adr 2 []], [.lp 1678653710707569197114 [5] [.adr 3 []] 0, .var 29 (.sl 4), .var 43 (.agg [.int .i64, .int .i64, .bool, .bool, .int .i64, .int .i64, .int .i64, .int .i64, .int .i64, .int .i64]), .var 29 (.sl 5), .row (.int .i64) 3, .row (.int .i64) 3]⟩
noncomputable def tab219 (N : Nat) : List (Nat × (Pk → Tr Pk)) := [(171, T171 N), (91 * bigK + 58, T91r58 N)]
theorem tab219_ok (N : Nat) : TabOK Tryz.prog (tab219 N) := ⟨T171_ok N, T91r58_ok N, trivial⟩
@[reducible] def L219_6 : LD := ⟨6, [7, 6, 0, 2, 8], [(.exit 0, [])], ⟨[.int .i64, .sl 4, .yv 0, .adr 2 [], .int .i64], [.lp 1678653710707569197114 [5] [.adr 3 []] 0, .var 29 (.sl 4), .var 43 (.agg [.int .i64, .int .i64, .bool, .bool, .int .i64, .int .i64, .int .i64, .int .i64, .int .i64, .int .i64]), .var 29 (.sl 5), .row (.int .i64) 3, .row (.int .i64) 3]⟩, [(.exit 0, ⟨[], [.lp 1678653710707569197114 [5] [.adr 3 []] 0, .var 29 (.sl 4), .var 43 (.agg [.int .i64, .int .i64, .bool, .bool, .int .i64, .int .i64, .int .i64, .int .i64, .int .i64, .int .i64]), .var 29 (.sl 5), .row (.int .i64) 3, .row (.int .i64) 3]⟩)]⟩
abbrev P219_6 : Type := Int × Int × Int × Int × Bool × Bool × Int × Int × Int × Int × Int × Int × (List Int) × (List Int)
abbrev R219_6 : Type := Int × Int × Bool × Bool × Int × Int × Int × Int × Int × Int × (List Int) × (List Int)
noncomputable def B219_6 (N : Nat) (f : P219_6 → Option R219_6) : P219_6 → Option R219_6
  | (x0, x1, x2, x3, x4, x5, x6, x7, x8, x9, x10, x11, x12, x13) =>
  iteP (decide (x1 < x0)) (
    iteP (within x1 (List.length x12)) (
      Option.bind (x12[Int.toNat x1]?) fun y0 =>
      Option.bind (F171 N (x2, x3, x4, x5, x6, x7, x8, x9, x10, x11, y0)) fun y1 =>
      Option.bind (F91r58 N (y1, x13)) fun y2 =>
      Option.bind (f (x0, IntKind.wrap IntKind.i64 (x1 + (1 : Int)), x2, x3, x4, x5, x6, x7, x8, x9, x10, x11, x12, y2)) fun r => some r) (
      none )) (
    some ((x2, x3, x4, x5, x6, x7, x8, x9, x10, x11, x12, x13)))
noncomputable def F219_6 (N : Nat) : Nat → P219_6 → Option R219_6
  | 0, _ => none
  | k + 1, x => B219_6 N (F219_6 N k) x
noncomputable def C219_6 (N : Nat) (k : Nat) : Cut := L219_6.cut (F219_6 N k)
theorem C219_6_ok (N : Nat) (k : Nat) : CutAt Tryz.prog false Tryz.f219 [0, 1, 2, 3] 6 (C219_6 N k) :=
  L219_6.loopT ownT mix (tab219_ok N) Tryz.f219 [0, 1, 2, 3] (cuts := []) trivial (by decide +kernel) (by kernel_rfl) (B219_6 N) (F219_6 N) (fun _ => rfl) (fun _ _ => rfl) (fun f x => by kernel_rfl) k
@[reducible] def w219 : List SP := [⟨[.tup []], [.lp 1678653710707569197114 [5] [.adr 3 []] 0, .var 29 (.sl 4), .var 43 (.agg [.int .i64, .int .i64, .bool, .bool, .int .i64, .int .i64, .int .i64, .int .i64, .int .i64, .int .i64]), .var 29 (.sl 5), .row (.int .i64) 3, .row (.int .i64) 3]⟩]
noncomputable def F219 (N : Nat) : (Int × Int × Bool × Bool × Int × Int × Int × Int × Int × Int × (List Int) × (List Int)) → Option (Int × Int × Bool × Bool × Int × Int × Int × Int × Int × Int × (List Int) × (List Int))
  | (x0, x1, x2, x3, x4, x5, x6, x7, x8, x9, x10, x11) =>
  Option.bind (F219_6 N N ((↑(List.length x10) : Int), (0 : Int), x0, x1, x2, x3, x4, x5, x6, x7, x8, x9, x10, x11)) fun (y0_0, y0_1, y0_2, y0_3, y0_4, y0_5, y0_6, y0_7, y0_8, y0_9, y0_10, y0_11) =>
  some ((y0_0, y0_1, y0_2, y0_3, y0_4, y0_5, y0_6, y0_7, y0_8, y0_9, y0_10, y0_11))
noncomputable def T219 (N : Nat) : Pk → Tr Pk := tellS s219 w219 (F219 N)
theorem T219_ok (N : Nat) : FOK Tryz.prog (219) (T219 N) :=
  (fn_ok2 ownT mix (tab219_ok N) Tryz.func219 s219 w219 [0, 1, 2, 3] (cuts := [(6, C219_6 N N)]) ⟨C219_6_ok N N, trivial⟩ (fun _ => by kernel_rfl) (by decide +kernel) (F219 N) (fun x => by kernel_rfl))
@[reducible] def s91 : SP := ⟨[.agg [.int .i64, .int .i64, .bool, .bool, .int .i64, .int .i64, .int .i64, .int .i64, .int .i64, .int .i64], .sl 0], [.row (.int .i64) 3]⟩
noncomputable def tab91 (N : Nat) : List (Nat × (Pk → Tr Pk)) := [(152, T152 N), (219, T219 N)]
theorem tab91_ok (N : Nat) : TabOK Tryz.prog (tab91 N) := ⟨T152_ok N, T219_ok N, trivial⟩
@[reducible] def L91_58 : LD := ⟨58, [4, 5, 9], [(.ret, [4]), (.exit 0, [5]), (.normal, [5])], ⟨[.sl 0, .adr 1 [], .clo 219 [.adr 2 [], .adr 3 []]], [.row (.int .i64) 3, .var 29 (.sl 4), .var 29 (.sl 5), .var 43 (.agg [.int .i64, .int .i64, .bool, .bool, .int .i64, .int .i64, .int .i64, .int .i64, .int .i64, .int .i64]), .row (.int .i64) 3, .row (.int .i64) 3]⟩, [(.normal, ⟨[.adr 0 []], [.var 29 (.sl 1), .row (.int .i64) 3]⟩)]⟩
noncomputable def F91_58 (N : Nat) : ((List Int) × Int × Int × Bool × Bool × Int × Int × Int × Int × Int × Int × (List Int) × (List Int)) → Option ((List Int))
  | (x0, x1, x2, x3, x4, x5, x6, x7, x8, x9, x10, x11, x12) =>
  Option.bind (F219 N (x1, x2, x3, x4, x5, x6, x7, x8, x9, x10, x12, x11)) fun (y0_0, y0_1, y0_2, y0_3, y0_4, y0_5, y0_6, y0_7, y0_8, y0_9, y0_10, y0_11) =>
  some (y0_11)
noncomputable def C91_58 (N : Nat) (_ : Nat) : Cut := L91_58.cut (F91_58 N)
theorem C91_58_ok (N : Nat) (k : Nat) : CutAt Tryz.prog false Tryz.f91 [] 58 (C91_58 N k) :=
  L91_58.rngT ownT mix (tab91_ok N) Tryz.func91 [] [5] (by decide +kernel) (F91_58 N) (fun x => by kernel_rfl)
@[reducible] def w91 : List SP := [⟨[.sl 0], [.row (.int .i64) 3]⟩]
noncomputable def F91 (N : Nat) : (Int × Int × Bool × Bool × Int × Int × Int × Int × Int × Int × (List Int)) → Option ((List Int))
  | (x0, x1, x2, x3, x4, x5, x6, x7, x8, x9, x10) =>
  Option.bind (F152 N (x0, x1, x2, x3, x4, x5, x6, x7, x8, x9, x10)) fun (y0_0, y0_1, y0_2, y0_3, y0_4, y0_5, y0_6, y0_7, y0_8, y0_9, y0_10) =>
  Option.bind (F91_58 N ([], y0_0, y0_1, y0_2, y0_3, y0_4, y0_5, y0_6, y0_7, y0_8, y0_9, [], y0_10)) fun y1 =>
  some (y1)
noncomputable def T91 (N : Nat) : Pk → Tr Pk := tellS s91 w91 (F91 N)
theorem T91_ok (N : Nat) : FOK Tryz.prog (91) (T91 N) :=
  (fn_ok2 ownT mix (tab91_ok N) Tryz.func91 s91 w91 [] (cuts := [(58, C91_58 N N)]) ⟨C91_58_ok N N, trivial⟩ (fun _ => by kernel_rfl) (by decide +kernel) (F91 N) (fun x => by kernel_rfl))
@[reducible] def s139 : SP := ⟨[.int .i64], []⟩
noncomputable def tab139 (N : Nat) : List (Nat × (Pk → Tr Pk)) := []
theorem tab139_ok (N : Nat) : TabOK Tryz.prog (tab139 N) := trivial
@[reducible] def w139 : List SP := [⟨[.bool], []⟩]
noncomputable def F139 (N : Nat) : (Int) → Option (Bool)
  | x0 =>
  iteP (decide ((1 : Int) ≤ x0)) (
    some (decide (x0 ≤ (4096 : Int)))) (
    some (false))
noncomputable def T139 (N : Nat) : Pk → Tr Pk := tellS s139 w139 (F139 N)
theorem T139_ok (N : Nat) : FOK Tryz.prog (139) (T139 N) :=
  (fn_ok2 ownT mix (tab139_ok N) Tryz.func139 s139 w139 [] (cuts := []) trivial (fun _ => by kernel_rfl) (by decide +kernel) (F139 N) (fun x => by kernel_rfl))
@[reducible] def y1 : Ty := (.cons (.int .i64) (.cons (.int .i64) (.cons (.int .i64) (.cons (.int .i64) .unit))))
@[reducible] def s140 : SP := ⟨[.int .i64, .int .i64, .int .i64], []⟩
noncomputable def tab140 (N : Nat) : List (Nat × (Pk → Tr Pk)) := []
theorem tab140_ok (N : Nat) : TabOK Tryz.prog (tab140 N) := trivial
@[reducible] def w140 : List SP := [⟨[.clo 209 [.adr 0 [], .adr 1 [], .adr 2 []]], [.var 3 (.int .i64), .var 3 (.int .i64), .var 3 (.int .i64)]⟩]
noncomputable def F140 (N : Nat) : (Int × Int × Int) → Option (Int × Int × Int)
  | (x0, x1, x2) =>
  some ((x1, x2, x0))
noncomputable def T140 (N : Nat) : Pk → Tr Pk := tellS s140 w140 (F140 N)
theorem T140_ok (N : Nat) : FOK Tryz.prog (140) (T140 N) :=
  (fn_ok2 ownT mix (tab140_ok N) Tryz.func140 s140 w140 [] (cuts := []) trivial (fun _ => by kernel_rfl) (by decide +kernel) (F140 N) (fun x => by kernel_rfl))
@[reducible] def s82r122 : SP := ⟨[.yv 0, .agg [.int .i64, .int .i64, .int .i64, .int .i64], .adr 1 []], [.lp 1512633014044183232634 [7] [.adr 1 []] 0, .var 55 (.sl 2), .row y1 126]⟩
noncomputable def tab82r122 (N : Nat) : List (Nat × (Pk → Tr Pk)) := []
theorem tab82r122_ok (N : Nat) : TabOK Tryz.prog (tab82r122 N) := trivial
@[reducible] def w82r122 : List SP := [⟨[.bc true], [.lp 1512633014044183232634 [7] [.adr 1 []] 0, .var 55 (.sl 2), .row y1 126]⟩]
noncomputable def F82r122 (N : Nat) : (Int × Int × Int × Int × (List (Int × (Int × (Int × (Int × Unit)))))) → Option ((List (Int × (Int × (Int × (Int × Unit))))))
  | (x0, x1, x2, x3, x4) =>
  iteP (decide ((List.length x4 + List.length [(x0, x1, x2, x3, ())]) * (32 : Nat) ≤ (140737488355328 : Nat) ∧ List.length x4 + List.length [(x0, x1, x2, x3, ())] ≤ (140737488355328 : Nat))) (
    some (x4 ++ [(x0, x1, x2, x3, ())])) (
    none )
noncomputable def T82r122 (N : Nat) : Pk → Tr Pk := tellS s82r122 w82r122 (F82r122 N)
theorem T82r122_ok (N : Nat) : FOK Tryz.prog (82 * bigK + 122) (T82r122 N) :=
  (rnd_ok ownT mix (tab82r122_ok N) Tryz.func82 122 s82r122 w82r122 [0, 1, 1] (cuts := []) trivial (fun _ => by kernel_rfl) (by decide +kernel) (F82r122 N) (fun x => by kernel_rfl))
@[reducible] def s209 : SP := ⟨[.yv 0, .adr 1 [], .adr 2 [], .adr 3 []], [.lp 1512633014044183232634 [7] [.adr 4 []] 0, .var 3 (.int .i64), .var 3 (.int .i64), .var 3 (.int .i64), .var 55 (.sl 5), .row y1 126]⟩
noncomputable def tab209 (N : Nat) : List (Nat × (Pk → Tr Pk)) := [(82 * bigK + 122, T82r122 N)]
theorem tab209_ok (N : Nat) : TabOK Tryz.prog (tab209 N) := ⟨T82r122_ok N, trivial⟩
@[reducible] def L209_402 : LD := ⟨402, [0, 3, 1, 5, 2, 6], [(.exit 2, [5, 0, 3, 1, 2]), (.exit 1, [5, 0, 3, 1, 2])], ⟨[.yv 0, .adr 3 [], .adr 1 [], .int .i64, .adr 2 [], .int .i64], [.lp 1512633014044183232634 [7] [.adr 4 []] 0, .var 3 (.int .i64), .var 3 (.int .i64), .var 3 (.int .i64), .var 55 (.sl 5), .row y1 126]⟩, [(.exit 2, ⟨[.int .i64, .yv 0, .adr 3 [], .adr 1 [], .adr 2 []], [.lp 1512633014044183232634 [7] [.adr 4 []] 0, .var 3 (.int .i64), .var 3 (.int .i64), .var 3 (.int .i64), .var 55 (.sl 5), .row y1 126]⟩)]⟩
abbrev P209_402 : Type := Int × Int × Int × Int × Int × (List (Int × (Int × (Int × (Int × Unit)))))
abbrev R209_402 : Type := Int × Int × Int × Int × (List (Int × (Int × (Int × (Int × Unit)))))
noncomputable def B209_402 (N : Nat) (f : P209_402 → Option R209_402) : P209_402 → Option R209_402
  | (x0, x1, x2, x3, x4, x5) =>
  iteP (decide (x1 < x4)) (
    Option.bind (F82r122 N (x1, x0, if IntKind.wrap IntKind.i64 (x4 - x1) < x3 then IntKind.wrap IntKind.i64 (x4 - x1) else x3, if IntKind.wrap IntKind.i64 (x2 - x0) < x3 then IntKind.wrap IntKind.i64 (x2 - x0) else x3, x5)) fun y0 =>
    Option.bind (f (x0, IntKind.wrap IntKind.i64 (x1 + x3), x2, x3, x4, y0)) fun r => some r) (
    some ((x0, x2, x3, x4, x5)))
noncomputable def F209_402 (N : Nat) : Nat → P209_402 → Option R209_402
  | 0, _ => none
  | k + 1, x => B209_402 N (F209_402 N k) x
noncomputable def C209_402 (N : Nat) (k : Nat) : Cut := L209_402.cut (F209_402 N k)
theorem C209_402_ok (N : Nat) (k : Nat) : CutAt Tryz.prog false Tryz.f209 [0, 1, 2, 3, 4] 402 (C209_402 N k) :=
  L209_402.loopT ownT mix (tab209_ok N) Tryz.f209 [0, 1, 2, 3, 4] (cuts := []) trivial (by decide +kernel) (by kernel_rfl) (B209_402 N) (F209_402 N) (fun _ => rfl) (fun _ _ => rfl) (fun f x => by kernel_rfl) k
@[reducible] def L209_6 : LD := ⟨6, [0, 3, 1, 5, 2], [(.exit 0, [])], ⟨[.yv 0, .adr 3 [], .adr 1 [], .int .i64, .adr 2 []], [.lp 1512633014044183232634 [7] [.adr 4 []] 0, .var 3 (.int .i64), .var 3 (.int .i64), .var 3 (.int .i64), .var 55 (.sl 5), .row y1 126]⟩, [(.exit 0, ⟨[], [.lp 1512633014044183232634 [7] [.adr 4 []] 0, .var 3 (.int .i64), .var 3 (.int .i64), .var 3 (.int .i64), .var 55 (.sl 5), .row y1 126]⟩)]⟩
abbrev P209_6 : Type := Int × Int × Int × Int × (List (Int × (Int × (Int × (Int × Unit)))))
abbrev R209_6 : Type := Int × Int × Int × (List (Int × (Int × (Int × (Int × Unit)))))
noncomputable def B209_6 (N : Nat) (f : P209_6 → Option R209_6) : P209_6 → Option R209_6
  | (x0, x1, x2, x3, x4) =>
  iteP (decide (x0 < x1)) (
    Option.bind (F209_402 N N (x0, (0 : Int), x1, x2, x3, x4)) fun y0 =>
    Option.bind (f (IntKind.wrap IntKind.i64 (y0.1 + y0.2.2.1), y0.2.1, y0.2.2.1, y0.2.2.2.1, y0.2.2.2.2)) fun r => some r) (
    some ((x1, x2, x3, x4)))
noncomputable def F209_6 (N : Nat) : Nat → P209_6 → Option R209_6
  | 0, _ => none
  | k + 1, x => B209_6 N (F209_6 N k) x
noncomputable def C209_6 (N : Nat) (k : Nat) : Cut := L209_6.cut (F209_6 N k)
theorem C209_6_ok (N : Nat) (k : Nat) : CutAt Tryz.prog false Tryz.f209 [0, 1, 2, 3, 4] 6 (C209_6 N k) :=
  L209_6.loopT ownT mix (tab209_ok N) Tryz.f209 [0, 1, 2, 3, 4] (cuts := [(402, C209_402 N N)]) ⟨C209_402_ok N N, trivial⟩ (by decide +kernel) (by kernel_rfl) (B209_6 N) (F209_6 N) (fun _ => rfl) (fun _ _ => rfl) (fun f x => by kernel_rfl) k
@[reducible] def w209 : List SP := [⟨[.tup []], [.lp 1512633014044183232634 [7] [.adr 4 []] 0, .var 3 (.int .i64), .var 3 (.int .i64), .var 3 (.int .i64), .var 55 (.sl 5), .row y1 126]⟩]
noncomputable def F209 (N : Nat) : (Int × Int × Int × (List (Int × (Int × (Int × (Int × Unit)))))) → Option (Int × Int × Int × (List (Int × (Int × (Int × (Int × Unit))))))
  | (x0, x1, x2, x3) =>
  Option.bind (F209_6 N N ((0 : Int), x0, x1, x2, x3)) fun y0 =>
  some ((y0.1, y0.2.1, y0.2.2.1, y0.2.2.2))
noncomputable def T209 (N : Nat) : Pk → Tr Pk := tellS s209 w209 (F209 N)
theorem T209_ok (N : Nat) : FOK Tryz.prog (209) (T209 N) :=
  (fn_ok2 ownT mix (tab209_ok N) Tryz.func209 s209 w209 [0, 1, 2, 3, 4] (cuts := [(402, C209_402 N N), (6, C209_6 N N)]) ⟨C209_402_ok N N, C209_6_ok N N, trivial⟩ (fun _ => by kernel_rfl) (by decide +kernel) (F209 N) (fun x => by kernel_rfl))
@[reducible] def s82 : SP := ⟨[.int .i64, .int .i64, .int .i64], []⟩
noncomputable def tab82 (N : Nat) : List (Nat × (Pk → Tr Pk)) := [(139, T139 N), (140, T140 N), (209, T209 N)]
theorem tab82_ok (N : Nat) : TabOK Tryz.prog (tab82 N) := ⟨T139_ok N, T140_ok N, T209_ok N, trivial⟩
@[reducible] def L82_122 : LD := ⟨122, [6, 7, 25], [(.ret, [6]), (.exit 0, [7]), (.normal, [7])], ⟨[.sl 0, .adr 1 [], .clo 209 [.adr 2 [], .adr 3 [], .adr 4 []]], [.row y1 126, .var 55 (.sl 5), .var 3 (.int .i64), .var 3 (.int .i64), .var 3 (.int .i64), .row y1 126]⟩, [(.normal, ⟨[.adr 0 []], [.var 55 (.sl 1), .row y1 126]⟩)]⟩
noncomputable def F82_122 (N : Nat) : ((List (Int × (Int × (Int × (Int × Unit))))) × Int × Int × Int × (List (Int × (Int × (Int × (Int × Unit)))))) → Option ((List (Int × (Int × (Int × (Int × Unit))))))
  | (x0, x1, x2, x3, x4) =>
  Option.bind (F209 N (x1, x2, x3, x4)) fun y0 =>
  some y0.2.2.2
noncomputable def C82_122 (N : Nat) (_ : Nat) : Cut := L82_122.cut (F82_122 N)
theorem C82_122_ok (N : Nat) (k : Nat) : CutAt Tryz.prog false Tryz.f82 [] 122 (C82_122 N k) :=
  L82_122.rngT ownT mix (tab82_ok N) Tryz.func82 [] [7] (by decide +kernel) (F82_122 N) (fun x => by kernel_rfl)
@[reducible] def w82 : List SP := [⟨[.sl 0], [.row y1 126]⟩]
noncomputable def F82 (N : Nat) : (Int × Int × Int) → Option ((List (Int × (Int × (Int × (Int × Unit))))))
  | (x0, x1, x2) =>
  Option.bind (F139 N x0) fun y0 =>
  iteP (!y0) (
    some ([])) (
    Option.bind (F139 N x1) fun y1 =>
    iteP (!y1) (
      some ([])) (
      iteP (decide (x2 < (1 : Int))) (
        some ([])) (
        Option.bind (F140 N (x0, x1, if (4096 : Int) < x2 then (4096 : Int) else x2)) fun y2 =>
        Option.bind (F82_122 N ([], y2.1, y2.2.1, y2.2.2, [])) fun y3 =>
        some (y3))))
noncomputable def T82 (N : Nat) : Pk → Tr Pk := tellS s82 w82 (F82 N)
theorem T82_ok (N : Nat) : FOK Tryz.prog (82) (T82 N) :=
  (fn_ok2 ownT mix (tab82_ok N) Tryz.func82 s82 w82 [] (cuts := [(122, C82_122 N N)]) ⟨C82_122_ok N N, trivial⟩ (fun _ => by kernel_rfl) (by decide +kernel) (F82 N) (fun x => by kernel_rfl))
@[reducible] def s153 : SP := ⟨[.adr 0 [], .int .i64], [.var 200 (.agg [.sl 1, .mp 2]), .row (.int .i64) 3, .map (.int .i64) (.int .i64)]⟩
noncomputable def tab153 (N : Nat) : List (Nat × (Pk → Tr Pk)) := []
theorem tab153_ok (N : Nat) : TabOK Tryz.prog (tab153 N) := trivial
@[reducible] def w153 : List SP := [⟨[.int .i64], [.var 200 (.agg [.sl 1, .mp 2]), .row (.int .i64) 3, .map (.int .i64) (.int .i64)]⟩]
noncomputable def F153 (N : Nat) : (Int × (List Int) × (List (Int × Int))) → Option (Int × (List Int) × (List (Int × Int)))
  | (x0, x1, x2) =>
  iteP (!mapHas (Ty.int IntKind.i64) x0 x2) (
    iteP (decide ((List.length x1 + List.length [x0]) * (8 : Nat) ≤ (140737488355328 : Nat) ∧ List.length x1 + List.length [x0] ≤ (140737488355328 : Nat))) (
      some (((↑(List.length x1) : Int), x1 ++ [x0], mapPut (Ty.int IntKind.i64) x0 (↑(List.length x1) : Int) x2))) (
      none )) (
    some ((mapGet (Ty.int IntKind.i64) x0 (0 : Int) x2, x1, x2)))
noncomputable def T153 (N : Nat) : Pk → Tr Pk := tellS s153 w153 (F153 N)
theorem T153_ok (N : Nat) : FOK Tryz.prog (153) (T153 N) :=
  (fn_ok2 ownT mix (tab153_ok N) Tryz.func153 s153 w153 [0] (cuts := []) trivial (fun _ => by kernel_rfl) (by decide +kernel) (F153 N) (fun x => by kernel_rfl))
@[reducible] def s154 : SP := ⟨[.int .i64], []⟩
noncomputable def tab154 (N : Nat) : List (Nat × (Pk → Tr Pk)) := []
theorem tab154_ok (N : Nat) : TabOK Tryz.prog (tab154 N) := trivial
@[reducible] def w154 : List SP := [⟨[.str], []⟩]
noncomputable def F154 (N : Nat) : (Int) → Option (ByteArray)
  | x0 =>
  some (stringOf [IntKind.wrap IntKind.u8 x0])
noncomputable def T154 (N : Nat) : Pk → Tr Pk := tellS s154 w154 (F154 N)
theorem T154_ok (N : Nat) : FOK Tryz.prog (154) (T154 N) :=
  (fn_ok2 ownT mix (tab154_ok N) Tryz.func154 s154 w154 [] (cuts := []) trivial (fun _ => by kernel_rfl) (by decide +kernel) (F154 N) (fun x => by kernel_rfl))
@[reducible] def s97 : SP := ⟨[.agg [.int .i64, .int .i64, .bool, .bool, .int .i64, .int .i64, .int .i64, .int .i64, .int .i64, .int .i64]], []⟩
noncomputable def tab97 (N : Nat) : List (Nat × (Pk → Tr Pk)) := [(39, T39 N)]
theorem tab97_ok (N : Nat) : TabOK Tryz.prog (tab97 N) := ⟨T39_ok N, trivial⟩
@[reducible] def w97 : List SP := [⟨[.int .i64], []⟩]
noncomputable def F97 (N : Nat) : (Int × Int × Bool × Bool × Int × Int × Int × Int × Int × Int) → Option (Int)
  | (x0, x1, x2, x3, x4, x5, x6, x7, x8, x9) =>
  Option.bind (F39 N (x0, x1, x2, x3, x4, x5, x6, x7, x8, x9)) fun y0 =>
  iteP (!y0) (
    some ((0 : Int))) (
    some (IntKind.wrap IntKind.i64 (Int.tdiv x0 (8 : Int))))
noncomputable def T97 (N : Nat) : Pk → Tr Pk := tellS s97 w97 (F97 N)
theorem T97_ok (N : Nat) : FOK Tryz.prog (97) (T97 N) :=
  (fn_ok2 ownT mix (tab97_ok N) Tryz.func97 s97 w97 [] (cuts := []) trivial (fun _ => by kernel_rfl) (by decide +kernel) (F97 N) (fun x => by kernel_rfl))
@[reducible] def s37 : SP := ⟨[.agg [.int .i64, .int .i64, .bool, .bool, .int .i64, .int .i64, .int .i64, .int .i64, .int .i64, .int .i64]], []⟩
noncomputable def tab37 (N : Nat) : List (Nat × (Pk → Tr Pk)) := [(39, T39 N), (95, T95 N), (96, T96 N), (97, T97 N)]
theorem tab37_ok (N : Nat) : TabOK Tryz.prog (tab37 N) := ⟨T39_ok N, T95_ok N, T96_ok N, T97_ok N, trivial⟩
@[reducible] def L37_122 : LD := ⟨122, [4, 12, 1, 11], [(.ret, [2, 3]), (.exit 0, [4, 1])], ⟨[.int .i64, .int .i64, .adr 0 [], .arr y0 3], [.var 43 (.agg [.int .i64, .int .i64, .bool, .bool, .int .i64, .int .i64, .int .i64, .int .i64, .int .i64, .int .i64])]⟩, [(.exit 0, ⟨[.int .i64, .adr 0 []], [.var 43 (.agg [.int .i64, .int .i64, .bool, .bool, .int .i64, .int .i64, .int .i64, .int .i64, .int .i64, .int .i64])]⟩)]⟩
abbrev P37_122 : Type := Int × Int × (List (Int × (Int × Unit))) × Int × Int × Bool × Bool × Int × Int × Int × Int × Int × Int
abbrev R37_122 : Type := Int × Int × Int × Bool × Bool × Int × Int × Int × Int × Int × Int
noncomputable def B37_122 (N : Nat) (f : P37_122 → Option R37_122) : P37_122 → Option R37_122
  | (x0, x1, x2, x3, x4, x5, x6, x7, x8, x9, x10, x11, x12) =>
  iteP (decide (x1 < (3 : Int))) (
    iteP (within x1 (List.length x2)) (
      Option.bind (x2[Int.toNat x1]?) fun y0 =>
      Option.bind (F96 N (y0.1, y0.2.1)) fun y1 =>
      Option.bind (f (IntKind.wrap IntKind.i64 (↑(BitVec.toNat (BitVec.ofInt (64 : Nat) x0 ||| BitVec.ofInt (64 : Nat) y1)) : Int), IntKind.wrap IntKind.i64 (x1 + (1 : Int)), x2, x3, x4, x5, x6, x7, x8, x9, x10, x11, x12)) fun r => some r) (
      none )) (
    some ((x0, x3, x4, x5, x6, x7, x8, x9, x10, x11, x12)))
noncomputable def F37_122 (N : Nat) : Nat → P37_122 → Option R37_122
  | 0, _ => none
  | k + 1, x => B37_122 N (F37_122 N k) x
noncomputable def C37_122 (N : Nat) (k : Nat) : Cut := L37_122.cut (F37_122 N k)
theorem C37_122_ok (N : Nat) (k : Nat) : CutAt Tryz.prog false Tryz.f37 [] 122 (C37_122 N k) :=
  L37_122.loopT ownT mix (tab37_ok N) Tryz.f37 [] (cuts := []) trivial (by decide +kernel) (by kernel_rfl) (B37_122 N) (F37_122 N) (fun _ => rfl) (fun _ _ => rfl) (fun f x => by kernel_rfl) k
@[reducible] def w37 : List SP := [⟨[.tup [.int .i64, .int .i64]], []⟩]
noncomputable def F37 (N : Nat) : (Int × Int × Bool × Bool × Int × Int × Int × Int × Int × Int) → Option (Int × Int)
  | (x0, x1, x2, x3, x4, x5, x6, x7, x8, x9) =>
  Option.bind (F39 N (x0, x1, x2, x3, x4, x5, x6, x7, x8, x9)) fun y0 =>
  iteP (!y0) (
    some (((0 : Int), (0 : Int)))) (
    Option.bind (F95 N (x0, x1, x2, x3, x4, x5, x6, x7, x8, x9)) fun y1 =>
    Option.bind (F37_122 N N ((0 : Int), (0 : Int), y1, x0, x1, x2, x3, x4, x5, x6, x7, x8, x9)) fun (y2_0, y2_1, y2_2, y2_3, y2_4, y2_5, y2_6, y2_7, y2_8, y2_9, y2_10) =>
    iteP (decide (y2_1 < (32 : Int))) (
      Option.bind (F97 N (y2_1, y2_2, y2_3, y2_4, y2_5, y2_6, y2_7, y2_8, y2_9, y2_10)) fun y3 =>
      some ((y3, (0 : Int)))) (
      iteP (decide (y2_2 > (24 : Int))) (
        Option.bind (F97 N (y2_1, y2_2, y2_3, y2_4, y2_5, y2_6, y2_7, y2_8, y2_9, y2_10)) fun y4 =>
        some ((y4, (0 : Int)))) (
        iteP (decide (y2_0 < (16777216 : Int))) (
          some (((3 : Int), (0 : Int)))) (
          iteP (IntKind.wrap IntKind.i64 (↑(BitVec.toNat (BitVec.ofInt (64 : Nat) y2_0 &&& BitVec.ofInt (64 : Nat) (255 : Int))) : Int) == (0 : Int)) (
            some (((3 : Int), (8 : Int)))) (
            Option.bind (F97 N (y2_1, y2_2, y2_3, y2_4, y2_5, y2_6, y2_7, y2_8, y2_9, y2_10)) fun y5 =>
            some ((y5, (0 : Int))))))))
noncomputable def T37 (N : Nat) : Pk → Tr Pk := tellS s37 w37 (F37 N)
theorem T37_ok (N : Nat) : FOK Tryz.prog (37) (T37 N) :=
  (fn_ok2 ownT mix (tab37_ok N) Tryz.func37 s37 w37 [] (cuts := [(122, C37_122 N N)]) ⟨C37_122_ok N N, trivial⟩ (fun _ => by kernel_rfl) (by decide +kernel) (F37 N) (fun x => by kernel_rfl))
@[reducible] def s231 : SP := ⟨[.slp 0 .h .h], [.row (.int .u8) 5]⟩
noncomputable def tab231 (N : Nat) : List (Nat × (Pk → Tr Pk)) := []
theorem tab231_ok (N : Nat) : TabOK Tryz.prog (tab231 N) := trivial
@[reducible] def L231_6 : LD := ⟨6, [2, 3, 0], [(.exit 0, [])], ⟨[.int .i64, .int .i64, .slp 0 .h .h], [.row (.int .u8) 5]⟩, [(.exit 0, ⟨[], [.row (.int .u8) 5]⟩)]⟩
abbrev P231_6 : Type := Int × Int × Nat × Nat × (List Int)
abbrev R231_6 : Type := (List Int)
noncomputable def B231_6 (N : Nat) (f : P231_6 → Option R231_6) : P231_6 → Option R231_6
  | (x0, x1, x2, x3, x4) =>
  iteP (decide (x0 < x1)) (
    iteP (within x1 x3) (
      Option.bind (x4[x2 + Int.toNat x1]?) fun y0 =>
      iteP (within x0 x3) (
        Option.bind (x4[x2 + Int.toNat x0]?) fun y1 =>
        iteP (within x0 x3) (
          Option.bind (x4[x2 + Int.toNat x0]?) fun y2 =>
          iteP (within x1 x3) (
            Option.bind ((List.set x4 (x2 + Int.toNat x0) y0)[x2 + Int.toNat x1]?) fun y3 =>
            Option.bind (f (IntKind.wrap IntKind.i64 (x0 + (1 : Int)), IntKind.wrap IntKind.i64 (x1 - (1 : Int)), x2, x3, List.set (List.set x4 (x2 + Int.toNat x0) y0) (x2 + Int.toNat x1) y1)) fun r => some r) (
            none )) (
          none )) (
        none )) (
      none )) (
    some (x4))
noncomputable def F231_6 (N : Nat) : Nat → P231_6 → Option R231_6
  | 0, _ => none
  | k + 1, x => B231_6 N (F231_6 N k) x
noncomputable def C231_6 (N : Nat) (k : Nat) : Cut := L231_6.cut (F231_6 N k)
theorem C231_6_ok (N : Nat) (k : Nat) : CutAt Tryz.prog false Tryz.f231 [0] 6 (C231_6 N k) :=
  L231_6.loopT ownT mix (tab231_ok N) Tryz.f231 [0] (cuts := []) trivial (by decide +kernel) (by kernel_rfl) (B231_6 N) (F231_6 N) (fun _ => rfl) (fun _ _ => rfl) (fun f x => by kernel_rfl) k
@[reducible] def w231 : List SP := [⟨[.tup []], [.row (.int .u8) 5]⟩]
noncomputable def F231 (N : Nat) : (Nat × Nat × (List Int)) → Option ((List Int))
  | (x0, x1, x2) =>
  Option.bind (F231_6 N N ((0 : Int), IntKind.wrap IntKind.i64 ((↑x1 : Int) - (1 : Int)), x0, x1, x2)) fun y0 =>
  some (y0)
noncomputable def T231 (N : Nat) : Pk → Tr Pk := tellS s231 w231 (F231 N)
theorem T231_ok (N : Nat) : FOK Tryz.prog (231) (T231 N) :=
  (fn_ok2 ownT mix (tab231_ok N) Tryz.func231 s231 w231 [0] (cuts := [(6, C231_6 N N)]) ⟨C231_6_ok N N, trivial⟩ (fun _ => by kernel_rfl) (by decide +kernel) (F231 N) (fun x => by kernel_rfl))
@[reducible] def s267 : SP := ⟨[.agg [.int .i64, .int .i64, .bool, .bool, .int .i64, .int .i64, .int .i64, .int .i64, .int .i64, .int .i64], .int .i64, .int .i64], []⟩
noncomputable def tab267 (N : Nat) : List (Nat × (Pk → Tr Pk)) := [(231, T231 N)]
theorem tab267_ok (N : Nat) : TabOK Tryz.prog (tab267 N) := ⟨T231_ok N, trivial⟩
@[reducible] def L267_58 : LD := ⟨58, [7, 10, 9, 3, 2], [(.ret, [6]), (.exit 0, [3, 7])], ⟨[.sl 0, .int .i64, .int .i64, .adr 1 [], .int .i64], [.row (.int .u8) 5, .var 43 (.agg [.int .i64, .int .i64, .bool, .bool, .int .i64, .int .i64, .int .i64, .int .i64, .int .i64, .int .i64])]⟩, [(.exit 0, ⟨[.adr 0 [], .sl 1], [.var 43 (.agg [.int .i64, .int .i64, .bool, .bool, .int .i64, .int .i64, .int .i64, .int .i64, .int .i64, .int .i64]), .row (.int .u8) 5]⟩)]⟩
abbrev P267_58 : Type := Int × Int × Int × (List Int) × Int × Int × Bool × Bool × Int × Int × Int × Int × Int × Int
abbrev R267_58 : Type := Int × Int × Bool × Bool × Int × Int × Int × Int × Int × Int × (List Int)
noncomputable def B267_58 (N : Nat) (f : P267_58 → Option R267_58) : P267_58 → Option R267_58
  | (x0, x1, x2, x3, x4, x5, x6, x7, x8, x9, x10, x11, x12, x13) =>
  iteP (decide (x0 < x1)) (
    iteP (decide (IntKind.wrap IntKind.i64 ((8 : Int) * x0) < (0 : Int))) (
      none ) (
      iteP (decide ((List.length x3 + List.length [IntKind.wrap IntKind.u8 (Int.fdiv x2 ((2 : Int) ^ min (Int.toNat (IntKind.wrap IntKind.i64 ((8 : Int) * x0))) (64 : Nat)))]) * (1 : Nat) ≤ (140737488355328 : Nat) ∧ List.length x3 + List.length [IntKind.wrap IntKind.u8 (Int.fdiv x2 ((2 : Int) ^ min (Int.toNat (IntKind.wrap IntKind.i64 ((8 : Int) * x0))) (64 : Nat)))] ≤ (140737488355328 : Nat))) (
        Option.bind (f (IntKind.wrap IntKind.i64 (x0 + (1 : Int)), x1, x2, x3 ++ [IntKind.wrap IntKind.u8 (Int.fdiv x2 ((2 : Int) ^ min (Int.toNat (IntKind.wrap IntKind.i64 ((8 : Int) * x0))) (64 : Nat)))], x4, x5, x6, x7, x8, x9, x10, x11, x12, x13)) fun r => some r) (
        none ))) (
    some ((x4, x5, x6, x7, x8, x9, x10, x11, x12, x13, x3)))
noncomputable def F267_58 (N : Nat) : Nat → P267_58 → Option R267_58
  | 0, _ => none
  | k + 1, x => B267_58 N (F267_58 N k) x
noncomputable def C267_58 (N : Nat) (k : Nat) : Cut := L267_58.cut (F267_58 N k)
theorem C267_58_ok (N : Nat) (k : Nat) : CutAt Tryz.prog false Tryz.f267 [] 58 (C267_58 N k) :=
  L267_58.loopT ownT mix (tab267_ok N) Tryz.f267 [] (cuts := []) trivial (by decide +kernel) (by kernel_rfl) (B267_58 N) (F267_58 N) (fun _ => rfl) (fun _ _ => rfl) (fun f x => by kernel_rfl) k
@[reducible] def w267 : List SP := [⟨[.str], []⟩]
noncomputable def F267 (N : Nat) : (Int × Int × Bool × Bool × Int × Int × Int × Int × Int × Int × Int × Int) → Option (ByteArray)
  | (x0, x1, x2, x3, x4, x5, x6, x7, x8, x9, x10, x11) =>
  Option.bind (F267_58 N N ((0 : Int), x10, x11, [], x0, x1, x2, x3, x4, x5, x6, x7, x8, x9)) fun (y0_0, y0_1, y0_2, y0_3, y0_4, y0_5, y0_6, y0_7, y0_8, y0_9, y0_10) =>
  iteP (y0_2) (
    Option.bind (F231 N ((0 : Nat), List.length y0_10, y0_10)) fun y1 =>
    some (stringOf y1)) (
    some (stringOf y0_10))
noncomputable def T267 (N : Nat) : Pk → Tr Pk := tellS s267 w267 (F267 N)
theorem T267_ok (N : Nat) : FOK Tryz.prog (267) (T267 N) :=
  (fn_ok2 ownT mix (tab267_ok N) Tryz.func267 s267 w267 [] (cuts := [(58, C267_58 N N)]) ⟨C267_58_ok N N, trivial⟩ (fun _ => by kernel_rfl) (by decide +kernel) (F267 N) (fun x => by kernel_rfl))
@[reducible] def s220 : SP := ⟨[.agg [.int .i64, .int .i64, .bool, .bool, .int .i64, .int .i64, .int .i64, .int .i64, .int .i64, .int .i64], .int .i64], []⟩
noncomputable def tab220 (N : Nat) : List (Nat × (Pk → Tr Pk)) := [(37, T37 N), (97, T97 N), (267, T267 N)]
theorem tab220_ok (N : Nat) : TabOK Tryz.prog (tab220 N) := ⟨T37_ok N, T97_ok N, T267_ok N, trivial⟩
@[reducible] def w220 : List SP := [⟨[.str], []⟩]
noncomputable def F220 (N : Nat) : (Int × Int × Bool × Bool × Int × Int × Int × Int × Int × Int × Int) → Option (ByteArray)
  | (x0, x1, x2, x3, x4, x5, x6, x7, x8, x9, x10) =>
  Option.bind (F37 N (x0, x1, x2, x3, x4, x5, x6, x7, x8, x9)) fun y0 =>
  Option.bind (F97 N (x0, x1, x2, x3, x4, x5, x6, x7, x8, x9)) fun y1 =>
  iteP (decide (IntKind.wrap IntKind.i64 ((8 : Int) * y1) < (0 : Int))) (
    none ) (
    iteP (decide (y0.2 < (0 : Int))) (
      none ) (
      Option.bind (F267 N (x0, x1, x2, x3, x4, x5, x6, x7, x8, x9, y0.1, Int.fdiv (IntKind.wrap IntKind.i64 (↑(BitVec.toNat (BitVec.ofInt (64 : Nat) x10 &&& BitVec.ofInt (64 : Nat) (IntKind.wrap IntKind.i64 (IntKind.wrap IntKind.i64 ((1 : Int) * (2 : Int) ^ min (Int.toNat (IntKind.wrap IntKind.i64 ((8 : Int) * y1))) (64 : Nat)) - (1 : Int))))) : Int)) ((2 : Int) ^ min (Int.toNat y0.2) (64 : Nat)))) fun y2 =>
      some (y2)))
noncomputable def T220 (N : Nat) : Pk → Tr Pk := tellS s220 w220 (F220 N)
theorem T220_ok (N : Nat) : FOK Tryz.prog (220) (T220 N) :=
  (fn_ok2 ownT mix (tab220_ok N) Tryz.func220 s220 w220 [] (cuts := []) trivial (fun _ => by kernel_rfl) (by decide +kernel) (F220 N) (fun x => by kernel_rfl))
@[reducible] def s122 : SP := ⟨[.adr 0 []], [.var 95 (.agg [.nilp, .sl 1]), .row (.int .u8) 5]⟩
noncomputable def tab122 (N : Nat) : List (Nat × (Pk → Tr Pk)) := []
theorem tab122_ok (N : Nat) : TabOK Tryz.prog (tab122 N) := trivial
@[reducible] def w122 : List SP := [⟨[.tup []], [.var 95 (.agg [.adr 0 [], .sl 1]), .row (.int .u8) 5]⟩]
noncomputable def F122 (N : Nat) : ((List Int)) → Option ((List Int))
  | x0 =>
  some (x0)
noncomputable def T122 (N : Nat) : Pk → Tr Pk := tellS s122 w122 (F122 N)
theorem T122_ok (N : Nat) : FOK Tryz.prog (122) (T122 N) :=
  (fn_ok2 ownT mix (tab122_ok N) Tryz.func122 s122 w122 [0] (cuts := []) trivial (fun _ => by kernel_rfl) (by decide +kernel) (F122 N) (fun x => by kernel_rfl))
@[reducible] def s62 : SP := ⟨[.adr 0 [], .str], [.var 95 (.agg [.nilp, .sl 1]), .row (.int .u8) 5]⟩
noncomputable def tab62 (N : Nat) : List (Nat × (Pk → Tr Pk)) := [(122, T122 N)]
theorem tab62_ok (N : Nat) : TabOK Tryz.prog (tab62 N) := ⟨T122_ok N, trivial⟩
@[reducible] def w62 : List SP := [⟨[.tup [.int .i64, .nili]], [.var 95 (.agg [.adr 0 [], .sl 1]), .row (.int .u8) 5]⟩]
noncomputable def F62 (N : Nat) : (ByteArray × (List Int)) → Option (Int × (List Int))
  | (x0, x1) =>
  Option.bind (F122 N x1) fun y0 =>
  iteP (decide ((List.length y0 + List.length (bytesOf x0)) * (1 : Nat) ≤ (140737488355328 : Nat) ∧ List.length y0 + List.length (bytesOf x0) ≤ (140737488355328 : Nat))) (
    some (((↑(ByteArray.size x0) : Int), y0 ++ bytesOf x0))) (
    none )
noncomputable def T62 (N : Nat) : Pk → Tr Pk := tellS s62 w62 (F62 N)
theorem T62_ok (N : Nat) : FOK Tryz.prog (62) (T62 N) :=
  (fn_ok2 ownT mix (tab62_ok N) Tryz.func62 s62 w62 [0] (cuts := []) trivial (fun _ => by kernel_rfl) (by decide +kernel) (F62 N) (fun x => by kernel_rfl))
@[reducible] def s122a : SP := ⟨[.adr 0 []], [.var 95 (.agg [.adr 0 [], .sl 1]), .row (.int .u8) 5]⟩
noncomputable def tab122a (N : Nat) : List (Nat × (Pk → Tr Pk)) := []
theorem tab122a_ok (N : Nat) : TabOK Tryz.prog (tab122a N) := trivial
@[reducible] def w122a : List SP := [⟨[.tup []], [.var 95 (.agg [.adr 0 [], .sl 1]), .row (.int .u8) 5]⟩]
noncomputable def F122a (N : Nat) : ((List Int)) → Option ((List Int))
  | x0 =>
  some (x0)
noncomputable def T122a (N : Nat) : Pk → Tr Pk := tellS s122a w122a (F122a N)
theorem T122a_ok (N : Nat) : FOK Tryz.prog (122) (T122a N) :=
  (fn_ok2 ownT mix (tab122a_ok N) Tryz.func122 s122a w122a [0, 0] (cuts := []) trivial (fun _ => by kernel_rfl) (by decide +kernel) (F122a N) (fun x => by kernel_rfl))
@[reducible] def s62a : SP := ⟨[.adr 0 [], .str], [.var 95 (.agg [.adr 0 [], .sl 1]), .row (.int .u8) 5]⟩
noncomputable def tab62a (N : Nat) : List (Nat × (Pk → Tr Pk)) := [(122, T122a N)]
theorem tab62a_ok (N : Nat) : TabOK Tryz.prog (tab62a N) := ⟨T122a_ok N, trivial⟩
@[reducible] def w62a : List SP := [⟨[.tup [.int .i64, .nili]], [.var 95 (.agg [.adr 0 [], .sl 1]), .row (.int .u8) 5]⟩]
noncomputable def F62a (N : Nat) : (ByteArray × (List Int)) → Option (Int × (List Int))
  | (x0, x1) =>
  Option.bind (F122a N x1) fun y0 =>
  iteP (decide ((List.length y0 + List.length (bytesOf x0)) * (1 : Nat) ≤ (140737488355328 : Nat) ∧ List.length y0 + List.length (bytesOf x0) ≤ (140737488355328 : Nat))) (
    some (((↑(ByteArray.size x0) : Int), y0 ++ bytesOf x0))) (
    none )
noncomputable def T62a (N : Nat) : Pk → Tr Pk := tellS s62a w62a (F62a N)
theorem T62a_ok (N : Nat) : FOK Tryz.prog (62) (T62a N) :=
  (fn_ok2 ownT mix (tab62a_ok N) Tryz.func62 s62a w62a [0, 0] (cuts := []) trivial (fun _ => by kernel_rfl) (by decide +kernel) (F62a N) (fun x => by kernel_rfl))
@[reducible] def s155 : SP := ⟨[.agg [.agg [.int .i64, .int .i64, .bool, .bool, .int .i64, .int .i64, .int .i64, .int .i64, .int .i64, .int .i64]], .ro (.int .i64)], []⟩
noncomputable def tab155 (N : Nat) : List (Nat × (Pk → Tr Pk)) := [(220, T220 N), (62, orT s62.I (T62 N) (T62a N))]
theorem tab155_ok (N : Nat) : TabOK Tryz.prog (tab155 N) := ⟨T220_ok N, orT_ok (T62_ok N) (T62a_ok N), trivial⟩
@[reducible] def L155_58n : LD := ⟨58, [10, 9, 8, 2, 5], [(.ret, [4]), (.exit 0, [5])], ⟨[.int .i64, .int .i64, .ro (.int .i64), .adr 0 [], .adr 1 []], [.var 140 (.agg [.agg [.int .i64, .int .i64, .bool, .bool, .int .i64, .int .i64, .int .i64, .int .i64, .int .i64, .int .i64]]), .var 95 (.agg [.adr 1 [], .sl 2]), .row (.int .u8) 5]⟩, [(.exit 0, ⟨[.adr 0 []], [.var 95 (.agg [.adr 0 [], .sl 1]), .row (.int .u8) 5]⟩), (.exit 0, ⟨[.adr 0 []], [.var 95 (.agg [.nilp, .sl 1]), .row (.int .u8) 5]⟩)]⟩
abbrev P155_58n : Type := Int × Int × (List Int) × Int × Int × Bool × Bool × Int × Int × Int × Int × Int × Int × (List Int)
abbrev R155_58n : Type := (((List Int)) ⊕ ((List Int)))
noncomputable def B155_58n (N : Nat) (f : P155_58n → Option R155_58n) : P155_58n → Option R155_58n
  | (x0, x1, x2, x3, x4, x5, x6, x7, x8, x9, x10, x11, x12, x13) =>
  iteP (decide (x0 < x1)) (
    iteP (within x0 (List.length x2)) (
      Option.bind (x2[Int.toNat x0]?) fun y0 =>
      Option.bind (F220 N (x3, x4, x5, x6, x7, x8, x9, x10, x11, x12, y0)) fun y1 =>
      Option.bind (F62a N (y1, x13)) fun y2 =>
      Option.bind (f (IntKind.wrap IntKind.i64 (x0 + (1 : Int)), x1, x2, x3, x4, x5, x6, x7, x8, x9, x10, x11, x12, y2.2)) fun r => match r with | .inl y => some (.inl y) | .inr y => some (.inr y)) (
      none )) (
    some (.inl (x13)))
noncomputable def F155_58n (N : Nat) : Nat → P155_58n → Option R155_58n
  | 0, _ => none
  | k + 1, x => B155_58n N (F155_58n N k) x
noncomputable def C155_58n (N : Nat) (k : Nat) : Cut := L155_58n.cut (F155_58n N k)
theorem C155_58n_ok (N : Nat) (k : Nat) : CutAt Tryz.prog false Tryz.f155 [] 58 (C155_58n N k) :=
  L155_58n.loopT ownT mix (tab155_ok N) Tryz.f155 [] (cuts := []) trivial (by decide +kernel) (by kernel_rfl) (B155_58n N) (F155_58n N) (fun _ => rfl) (fun _ _ => rfl) (fun f x => by kernel_rfl) k
@[reducible] def L155_58 : LD := ⟨58, L155_58n.live, L155_58n.out, ⟨[.int .i64, .int .i64, .ro (.int .i64), .adr 0 [], .adr 1 []], [.var 140 (.agg [.agg [.int .i64, .int .i64, .bool, .bool, .int .i64, .int .i64, .int .i64, .int .i64, .int .i64, .int .i64]]), .var 95 (.agg [.nilp, .sl 2]), .row (.int .u8) 5]⟩, L155_58n.w⟩
noncomputable def B155_58 (N : Nat) (f : (Int × Int × (List Int) × Int × Int × Bool × Bool × Int × Int × Int × Int × Int × Int × (List Int)) → Option ((((List Int)) ⊕ ((List Int))))) : (Int × Int × (List Int) × Int × Int × Bool × Bool × Int × Int × Int × Int × Int × Int × (List Int)) → Option ((((List Int)) ⊕ ((List Int))))
  | (x0, x1, x2, x3, x4, x5, x6, x7, x8, x9, x10, x11, x12, x13) =>
  iteP (decide (x0 < x1)) (
    iteP (within x0 (List.length x2)) (
      Option.bind (x2[Int.toNat x0]?) fun y0 =>
      Option.bind (F220 N (x3, x4, x5, x6, x7, x8, x9, x10, x11, x12, y0)) fun y1 =>
      Option.bind (F62 N (y1, x13)) fun y2 =>
      Option.bind (f (IntKind.wrap IntKind.i64 (x0 + (1 : Int)), x1, x2, x3, x4, x5, x6, x7, x8, x9, x10, x11, x12, y2.2)) fun r => match r with | .inl y => some (.inl y) | .inr y => some (.inr y)) (
      none )) (
    some (.inr (x13)))
noncomputable def F155_58 (N : Nat) (k : Nat) : (Int × Int × (List Int) × Int × Int × Bool × Bool × Int × Int × Int × Int × Int × Int × (List Int)) → Option ((((List Int)) ⊕ ((List Int)))) := B155_58 N (F155_58n N k)
noncomputable def C155_58 (N : Nat) (k : Nat) : Cut := L155_58.cut (F155_58 N k)
theorem C155_58_ok (N : Nat) (k : Nat) : CutAt Tryz.prog false Tryz.f155 [] 58 (C155_58 N k) :=
  L155_58.loop2T ownT mix (tab155_ok N) L155_58n.s Tryz.f155 [] (cuts := [(58, C155_58n N N)]) ⟨C155_58n_ok N N, trivial⟩ (by decide +kernel) (by kernel_rfl) (B155_58 N) (B155_58n N) (F155_58n N) (fun _ => rfl) (fun _ _ => rfl) (fun f g x => by kernel_rfl) (fun f g x => by kernel_rfl) k
@[reducible] def w155 : List SP := [⟨[.str], []⟩]
noncomputable def F155 (N : Nat) : (Int × Int × Bool × Bool × Int × Int × Int × Int × Int × Int × (List Int)) → Option (ByteArray)
  | (x0, x1, x2, x3, x4, x5, x6, x7, x8, x9, x10) =>
  Option.bind (F155_58 N N ((0 : Int), (↑(List.length x10) : Int), x10, x0, x1, x2, x3, x4, x5, x6, x7, x8, x9, [])) fun y0 =>
  match y0 with
  | .inl y1 =>
    iteP (decide ((0 : Nat) < List.length y1 ∧ List.length y1 ≤ (140737488355328 : Nat))) (
      some (stringOf y1)) (
      none )
  | .inr y1 =>
    iteP (decide ((0 : Nat) < List.length y1 ∧ List.length y1 ≤ (140737488355328 : Nat))) (
      some (stringOf y1)) (
      none )
noncomputable def T155 (N : Nat) : Pk → Tr Pk := tellS s155 w155 (F155 N)
theorem T155_ok (N : Nat) : FOK Tryz.prog (155) (T155 N) :=
  (fn_ok2 ownT mix (tab155_ok N) Tryz.func155 s155 w155 [] (cuts := [(58, orC L155_58n.s.I (C155_58n N N) (C155_58 N N))]) ⟨fun c' h => orC_ok (C155_58n_ok N N c' h) (C155_58_ok N N c' h) rfl rfl, trivial⟩ (fun _ => by kernel_rfl) (by decide +kernel) (F155 N) (fun x => by kernel_rfl))
@[reducible] def s156 : SP := ⟨[.ro (.int .i64)], []⟩
noncomputable def tab156 (N : Nat) : List (Nat × (Pk → Tr Pk)) := []
theorem tab156_ok (N : Nat) : TabOK Tryz.prog (tab156 N) := trivial
@[reducible] def L156_58 : LD := ⟨58, [9, 8, 7, 3], [(.ret, [2]), (.exit 0, [3])], ⟨[.int .i64, .int .i64, .ro (.int .i64), .sl 0], [.row y0 245]⟩, [(.exit 0, ⟨[.sl 0], [.row y0 245]⟩)]⟩
abbrev P156_58 : Type := Int × Int × (List Int) × (List (Int × (Int × Unit)))
abbrev R156_58 : Type := (List (Int × (Int × Unit)))
noncomputable def B156_58 (N : Nat) (f : P156_58 → Option R156_58) : P156_58 → Option R156_58
  | (x0, x1, x2, x3) =>
  iteP (decide (x0 < x1)) (
    iteP (within x0 (List.length x2)) (
      Option.bind (x2[Int.toNat x0]?) fun y0 =>
      iteP (decide ((↑(List.length x3) : Int) > (0 : Int))) (
        iteP (within (IntKind.wrap IntKind.i64 ((↑(List.length x3) : Int) - (1 : Int))) (List.length x3)) (
          Option.bind (x3[Int.toNat (IntKind.wrap IntKind.i64 ((↑(List.length x3) : Int) - (1 : Int)))]?) fun y1 =>
          iteP (y1.1 == y0) (
            iteP (within (IntKind.wrap IntKind.i64 ((↑(List.length x3) : Int) - (1 : Int))) (List.length x3)) (
              Option.bind (x3[Int.toNat (IntKind.wrap IntKind.i64 ((↑(List.length x3) : Int) - (1 : Int)))]?) fun y2 =>
              iteP (within (IntKind.wrap IntKind.i64 ((↑(List.length x3) : Int) - (1 : Int))) (List.length x3)) (
                Option.bind (x3[Int.toNat (IntKind.wrap IntKind.i64 ((↑(List.length x3) : Int) - (1 : Int)))]?) fun y3 =>
                Option.bind (f (IntKind.wrap IntKind.i64 (x0 + (1 : Int)), x1, x2, List.set x3 (Int.toNat (IntKind.wrap IntKind.i64 ((↑(List.length x3) : Int) - (1 : Int)))) (y3.1, IntKind.wrap IntKind.i64 (y2.2.1 + (1 : Int)), ()))) fun r => some r) (
                none )) (
              none )) (
            iteP (decide ((List.length x3 + List.length [(y0, (1 : Int), ())]) * (16 : Nat) ≤ (140737488355328 : Nat) ∧ List.length x3 + List.length [(y0, (1 : Int), ())] ≤ (140737488355328 : Nat))) (
              Option.bind (f (IntKind.wrap IntKind.i64 (x0 + (1 : Int)), x1, x2, x3 ++ [(y0, (1 : Int), ())])) fun r => some r) (
              none ))) (
          none )) (
        iteP (decide ((List.length x3 + List.length [(y0, (1 : Int), ())]) * (16 : Nat) ≤ (140737488355328 : Nat) ∧ List.length x3 + List.length [(y0, (1 : Int), ())] ≤ (140737488355328 : Nat))) (
          Option.bind (f (IntKind.wrap IntKind.i64 (x0 + (1 : Int)), x1, x2, x3 ++ [(y0, (1 : Int), ())])) fun r => some r) (
          none ))) (
      none )) (
    some (x3))
noncomputable def F156_58 (N : Nat) : Nat → P156_58 → Option R156_58
  | 0, _ => none
  | k + 1, x => B156_58 N (F156_58 N k) x
noncomputable def C156_58 (N : Nat) (k : Nat) : Cut := L156_58.cut (F156_58 N k)
theorem C156_58_ok (N : Nat) (k : Nat) : CutAt Tryz.prog false Tryz.f156 [] 58 (C156_58 N k) :=
  L156_58.loopT ownT mix (tab156_ok N) Tryz.f156 [] (cuts := []) trivial (by decide +kernel) (by kernel_rfl) (B156_58 N) (F156_58 N) (fun _ => rfl) (fun _ _ => rfl) (fun f x => by kernel_rfl) k
@[reducible] def w156 : List SP := [⟨[.sl 0], [.row y0 245]⟩]
noncomputable def F156 (N : Nat) : ((List Int)) → Option ((List (Int × (Int × Unit))))
  | x0 =>
  Option.bind (F156_58 N N ((0 : Int), (↑(List.length x0) : Int), x0, [])) fun y0 =>
  some (y0)
noncomputable def T156 (N : Nat) : Pk → Tr Pk := tellS s156 w156 (F156 N)
theorem T156_ok (N : Nat) : FOK Tryz.prog (156) (T156 N) :=
  (fn_ok2 ownT mix (tab156_ok N) Tryz.func156 s156 w156 [] (cuts := [(58, C156_58 N N)]) ⟨C156_58_ok N N, trivial⟩ (fun _ => by kernel_rfl) (by decide +kernel) (F156 N) (fun x => by kernel_rfl))
@[reducible] def s314 : SP := ⟨[.int .u64, .int .u64], []⟩
noncomputable def tab314 (N : Nat) : List (Nat × (Pk → Tr Pk)) := []
theorem tab314_ok (N : Nat) : TabOK Tryz.prog (tab314 N) := trivial
@[reducible] def w314 : List SP := [⟨[.tup [.int .u64, .int .u64]], []⟩]
noncomputable def F314 (N : Nat) : (Int × Int) → Option (Int × Int)
  | (x0, x1) =>
  some ((IntKind.wrap IntKind.u64 (IntKind.wrap IntKind.u64 (IntKind.wrap IntKind.u64 (Int.fdiv x0 (4294967296 : Int) * Int.fdiv x1 (4294967296 : Int)) + Int.fdiv (IntKind.wrap IntKind.u64 (IntKind.wrap IntKind.u64 (Int.fdiv x0 (4294967296 : Int) * IntKind.wrap IntKind.u64 (↑(BitVec.toNat (BitVec.ofInt (64 : Nat) x1 &&& BitVec.ofInt (64 : Nat) (4294967295 : Int))) : Int)) + Int.fdiv (IntKind.wrap IntKind.u64 (IntKind.wrap IntKind.u64 (↑(BitVec.toNat (BitVec.ofInt (64 : Nat) x0 &&& BitVec.ofInt (64 : Nat) (4294967295 : Int))) : Int) * IntKind.wrap IntKind.u64 (↑(BitVec.toNat (BitVec.ofInt (64 : Nat) x1 &&& BitVec.ofInt (64 : Nat) (4294967295 : Int))) : Int))) (4294967296 : Int))) (4294967296 : Int)) + Int.fdiv (IntKind.wrap IntKind.u64 (IntKind.wrap IntKind.u64 (↑(BitVec.toNat (BitVec.ofInt (64 : Nat) (IntKind.wrap IntKind.u64 (IntKind.wrap IntKind.u64 (Int.fdiv x0 (4294967296 : Int) * IntKind.wrap IntKind.u64 (↑(BitVec.toNat (BitVec.ofInt (64 : Nat) x1 &&& BitVec.ofInt (64 : Nat) (4294967295 : Int))) : Int)) + Int.fdiv (IntKind.wrap IntKind.u64 (IntKind.wrap IntKind.u64 (↑(BitVec.toNat (BitVec.ofInt (64 : Nat) x0 &&& BitVec.ofInt (64 : Nat) (4294967295 : Int))) : Int) * IntKind.wrap IntKind.u64 (↑(BitVec.toNat (BitVec.ofInt (64 : Nat) x1 &&& BitVec.ofInt (64 : Nat) (4294967295 : Int))) : Int))) (4294967296 : Int))) &&& BitVec.ofInt (64 : Nat) (4294967295 : Int))) : Int) + IntKind.wrap IntKind.u64 (IntKind.wrap IntKind.u64 (↑(BitVec.toNat (BitVec.ofInt (64 : Nat) x0 &&& BitVec.ofInt (64 : Nat) (4294967295 : Int))) : Int) * Int.fdiv x1 (4294967296 : Int)))) (4294967296 : Int)), IntKind.wrap IntKind.u64 (x0 * x1)))
noncomputable def T314 (N : Nat) : Pk → Tr Pk := tellS s314 w314 (F314 N)
theorem T314_ok (N : Nat) : FOK Tryz.prog (314) (T314 N) :=
  (fn_ok2 ownT mix (tab314_ok N) Tryz.func314 s314 w314 [] (cuts := []) trivial (fun _ => by kernel_rfl) (by decide +kernel) (F314 N) (fun x => by kernel_rfl))
@[reducible] def s273 : SP := ⟨[.int .u64, .int .u64], []⟩
noncomputable def tab273 (N : Nat) : List (Nat × (Pk → Tr Pk)) := [(314, T314 N)]
theorem tab273_ok (N : Nat) : TabOK Tryz.prog (tab273 N) := ⟨T314_ok N, trivial⟩
@[reducible] def w273 : List SP := [⟨[.tup [.int .u64, .int .u64]], []⟩]
noncomputable def F273 (N : Nat) : (Int × Int) → Option (Int × Int)
  | (x0, x1) =>
  Option.bind (F314 N (x0, x1)) fun y0 =>
  some ((y0.1, y0.2))
noncomputable def T273 (N : Nat) : Pk → Tr Pk := tellS s273 w273 (F273 N)
theorem T273_ok (N : Nat) : FOK Tryz.prog (273) (T273 N) :=
  (fn_ok2 ownT mix (tab273_ok N) Tryz.func273 s273 w273 [] (cuts := []) trivial (fun _ => by kernel_rfl) (by decide +kernel) (F273 N) (fun x => by kernel_rfl))
@[reducible] def s186 : SP := ⟨[.str, .str], []⟩
noncomputable def tab186 (N : Nat) : List (Nat × (Pk → Tr Pk)) := []
theorem tab186_ok (N : Nat) : TabOK Tryz.prog (tab186 N) := trivial
@[reducible] def w186 : List SP := [⟨[.bool], []⟩]
noncomputable def F186 (N : Nat) : (ByteArray × ByteArray) → Option (Bool)
  | (x0, x1) =>
  iteP (decide ((↑(ByteArray.size x0) : Int) ≥ (↑(ByteArray.size x1) : Int))) (
    iteP (decide ((0 : Int) ≤ (↑(ByteArray.size x1) : Int) ∧ (↑(ByteArray.size x1) : Int) ≤ (↑(ByteArray.size x0) : Int))) (
      some (ByteArray.toList (ByteArray.extract x0 (0 : Nat) (Int.toNat (↑(ByteArray.size x1) : Int))) == ByteArray.toList x1)) (
      none )) (
    some (false))
noncomputable def T186 (N : Nat) : Pk → Tr Pk := tellS s186 w186 (F186 N)
theorem T186_ok (N : Nat) : FOK Tryz.prog (186) (T186 N) :=
  (fn_ok2 ownT mix (tab186_ok N) Tryz.func186 s186 w186 [] (cuts := []) trivial (fun _ => by kernel_rfl) (by decide +kernel) (F186 N) (fun x => by kernel_rfl))
@[reducible] def s114 : SP := ⟨[.str, .str], []⟩
noncomputable def tab114 (N : Nat) : List (Nat × (Pk → Tr Pk)) := [(186, T186 N)]
theorem tab114_ok (N : Nat) : TabOK Tryz.prog (tab114 N) := ⟨T186_ok N, trivial⟩
@[reducible] def w114 : List SP := [⟨[.bool], []⟩]
noncomputable def F114 (N : Nat) : (ByteArray × ByteArray) → Option (Bool)
  | (x0, x1) =>
  Option.bind (F186 N (x0, x1)) fun y0 =>
  some (y0)
noncomputable def T114 (N : Nat) : Pk → Tr Pk := tellS s114 w114 (F114 N)
theorem T114_ok (N : Nat) : FOK Tryz.prog (114) (T114 N) :=
  (fn_ok2 ownT mix (tab114_ok N) Tryz.func114 s114 w114 [] (cuts := []) trivial (fun _ => by kernel_rfl) (by decide +kernel) (F114 N) (fun x => by kernel_rfl))
@[reducible] def s308 : SP := ⟨[.adr 0 [], .int .i64], [.var 95 (.agg [.nilp, .sl 1]), .row (.int .u8) 5]⟩
noncomputable def tab308 (N : Nat) : List (Nat × (Pk → Tr Pk)) := [(122, T122 N)]
theorem tab308_ok (N : Nat) : TabOK Tryz.prog (tab308 N) := ⟨T122_ok N, trivial⟩
@[reducible] def w308 : List SP := []
noncomputable def F308 (N : Nat) : (Int × (List Int)) → Option (Unit)
  | (x0, x1) =>
  Option.bind (F122 N x1) fun y0 =>
  iteP (decide (x0 < (0 : Int))) (
    none ) (
    none )
noncomputable def T308 (N : Nat) : Pk → Tr Pk := tellS s308 w308 (F308 N)
theorem T308_ok (N : Nat) : FOK Tryz.prog (308) (T308 N) :=
  (fn_ok2 ownT mix (tab308_ok N) Tryz.func308 s308 w308 [0] (cuts := []) trivial (fun _ => by kernel_rfl) (by decide +kernel) (F308 N) (fun x => by kernel_rfl))
@[reducible] def s268 : SP := ⟨[.str, .int .i64], []⟩
noncomputable def tab268 (N : Nat) : List (Nat × (Pk → Tr Pk)) := [(273, T273 N), (114, T114 N), (308, T308 N)]
theorem tab268_ok (N : Nat) : TabOK Tryz.prog (tab268 N) := ⟨T273_ok N, T114_ok N, T308_ok N, trivial⟩
@[reducible] def L268_522911 : LD := ⟨522911, [67, 0, 7], [(.ret, [4]), (.exit 2, [0, 7]), (.exit 1, [0, 7]), (.normal, [0, 7])], ⟨[.bool, .str, .int .i64], []⟩, [(.ret, ⟨[.str], []⟩), (.normal, ⟨[.str, .int .i64], []⟩)]⟩
noncomputable def F268_522911 (N : Nat) : (Bool × ByteArray × Int) → Option (((ByteArray) ⊕ (ByteArray × Int)))
  | (x0, x1, x2) =>
  iteP (x0) (
    iteP (decide ((0 : Int) ≤ x2 ∧ x2 ≤ (64 : Int))) (
      some (.inl (ByteArray.extract (ByteArray.mk #[(48 : UInt8), (48 : UInt8), (48 : UInt8), (48 : UInt8), (48 : UInt8), (48 : UInt8), (48 : UInt8), (48 : UInt8), (48 : UInt8), (48 : UInt8), (48 : UInt8), (48 : UInt8), (48 : UInt8), (48 : UInt8), (48 : UInt8), (48 : UInt8), (48 : UInt8), (48 : UInt8), (48 : UInt8), (48 : UInt8), (48 : UInt8), (48 : UInt8), (48 : UInt8), (48 : UInt8), (48 : UInt8), (48 : UInt8), (48 : UInt8), (48 : UInt8), (48 : UInt8), (48 : UInt8), (48 : UInt8), (48 : UInt8), (48 : UInt8), (48 : UInt8), (48 : UInt8), (48 : UInt8), (48 : UInt8), (48 : UInt8), (48 : UInt8), (48 : UInt8), (48 : UInt8), (48 : UInt8), (48 : UInt8), (48 : UInt8), (48 : UInt8), (48 : UInt8), (48 : UInt8), (48 : UInt8), (48 : UInt8), (48 : UInt8), (48 : UInt8), (48 : UInt8), (48 : UInt8), (48 : UInt8), (48 : UInt8), (48 : UInt8), (48 : UInt8), (48 : UInt8), (48 : UInt8), (48 : UInt8), (48 : UInt8), (48 : UInt8), (48 : UInt8), (48 : UInt8)]) (0 : Nat) (Int.toNat x2)))) (
      none )) (
    iteP (decide (x2 ≤ (128 : Int))) (
      Option.bind (F114 N (ByteArray.mk #[(61 : UInt8), (61 : UInt8), (61 : UInt8), (61 : UInt8), (61 : UInt8), (61 : UInt8), (61 : UInt8), (61 : UInt8), (61 : UInt8), (61 : UInt8), (61 : UInt8), (61 : UInt8), (61 : UInt8), (61 : UInt8), (61 : UInt8), (61 : UInt8), (61 : UInt8), (61 : UInt8), (61 : UInt8), (61 : UInt8), (61 : UInt8), (61 : UInt8), (61 : UInt8), (61 : UInt8), (61 : UInt8), (61 : UInt8), (61 : UInt8), (61 : UInt8), (61 : UInt8), (61 : UInt8), (61 : UInt8), (61 : UInt8), (61 : UInt8), (61 : UInt8), (61 : UInt8), (61 : UInt8), (61 : UInt8), (61 : UInt8), (61 : UInt8), (61 : UInt8), (61 : UInt8), (61 : UInt8), (61 : UInt8), (61 : UInt8), (61 : UInt8), (61 : UInt8), (61 : UInt8), (61 : UInt8), (61 : UInt8), (61 : UInt8), (61 : UInt8), (61 : UInt8), (61 : UInt8), (61 : UInt8), (61 : UInt8), (61 : UInt8), (61 : UInt8), (61 : UInt8), (61 : UInt8), (61 : UInt8), (61 : UInt8), (61 : UInt8), (61 : UInt8), (61 : UInt8), (61 : UInt8), (61 : UInt8), (61 : UInt8), (61 : UInt8), (61 : UInt8), (61 : UInt8), (61 : UInt8), (61 : UInt8), (61 : UInt8), (61 : UInt8), (61 : UInt8), (61 : UInt8), (61 : UInt8), (61 : UInt8), (61 : UInt8), (61 : UInt8), (61 : UInt8), (61 : UInt8), (61 : UInt8), (61 : UInt8), (61 : UInt8), (61 : UInt8), (61 : UInt8), (61 : UInt8), (61 : UInt8), (61 : UInt8), (61 : UInt8), (61 : UInt8), (61 : UInt8), (61 : UInt8), (61 : UInt8), (61 : UInt8), (61 : UInt8), (61 : UInt8), (61 : UInt8), (61 : UInt8), (61 : UInt8), (61 : UInt8), (61 : UInt8), (61 : UInt8), (61 : UInt8), (61 : UInt8), (61 : UInt8), (61 : UInt8), (61 : UInt8), (61 : UInt8), (61 : UInt8), (61 : UInt8), (61 : UInt8), (61 : UInt8), (61 : UInt8), (61 : UInt8), (61 : UInt8), (61 : UInt8), (61 : UInt8), (61 : UInt8), (61 : UInt8), (61 : UInt8), (61 : UInt8), (61 : UInt8), (61 : UInt8), (61 : UInt8), (61 : UInt8), (61 : UInt8)], x1)) fun y0 =>
      iteP (y0) (
        iteP (decide ((0 : Int) ≤ x2 ∧ x2 ≤ (128 : Int))) (
          some (.inl (ByteArray.extract (ByteArray.mk #[(61 : UInt8), (61 : UInt8), (61 : UInt8), (61 : UInt8), (61 : UInt8), (61 : UInt8), (61 : UInt8), (61 : UInt8), (61 : UInt8), (61 : UInt8), (61 : UInt8), (61 : UInt8), (61 : UInt8), (61 : UInt8), (61 : UInt8), (61 : UInt8), (61 : UInt8), (61 : UInt8), (61 : UInt8), (61 : UInt8), (61 : UInt8), (61 : UInt8), (61 : UInt8), (61 : UInt8), (61 : UInt8), (61 : UInt8), (61 : UInt8), (61 : UInt8), (61 : UInt8), (61 : UInt8), (61 : UInt8), (61 : UInt8), (61 : UInt8), (61 : UInt8), (61 : UInt8), (61 : UInt8), (61 : UInt8), (61 : UInt8), (61 : UInt8), (61 : UInt8), (61 : UInt8), (61 : UInt8), (61 : UInt8), (61 : UInt8), (61 : UInt8), (61 : UInt8), (61 : UInt8), (61 : UInt8), (61 : UInt8), (61 : UInt8), (61 : UInt8), (61 : UInt8), (61 : UInt8), (61 : UInt8), (61 : UInt8), (61 : UInt8), (61 : UInt8), (61 : UInt8), (61 : UInt8), (61 : UInt8), (61 : UInt8), (61 : UInt8), (61 : UInt8), (61 : UInt8), (61 : UInt8), (61 : UInt8), (61 : UInt8), (61 : UInt8), (61 : UInt8), (61 : UInt8), (61 : UInt8), (61 : UInt8), (61 : UInt8), (61 : UInt8), (61 : UInt8), (61 : UInt8), (61 : UInt8), (61 : UInt8), (61 : UInt8), (61 : UInt8), (61 : UInt8), (61 : UInt8), (61 : UInt8), (61 : UInt8), (61 : UInt8), (61 : UInt8), (61 : UInt8), (61 : UInt8), (61 : UInt8), (61 : UInt8), (61 : UInt8), (61 : UInt8), (61 : UInt8), (61 : UInt8), (61 : UInt8), (61 : UInt8), (61 : UInt8), (61 : UInt8), (61 : UInt8), (61 : UInt8), (61 : UInt8), (61 : UInt8), (61 : UInt8), (61 : UInt8), (61 : UInt8), (61 : UInt8), (61 : UInt8), (61 : UInt8), (61 : UInt8), (61 : UInt8), (61 : UInt8), (61 : UInt8), (61 : UInt8), (61 : UInt8), (61 : UInt8), (61 : UInt8), (61 : UInt8), (61 : UInt8), (61 : UInt8), (61 : UInt8), (61 : UInt8), (61 : UInt8), (61 : UInt8), (61 : UInt8), (61 : UInt8), (61 : UInt8), (61 : UInt8), (61 : UInt8)]) (0 : Nat) (Int.toNat x2)))) (
          none )) (
        iteP (decide (x2 ≤ (64 : Int))) (
          Option.bind (F114 N (ByteArray.mk #[(9 : UInt8), (9 : UInt8), (9 : UInt8), (9 : UInt8), (9 : UInt8), (9 : UInt8), (9 : UInt8), (9 : UInt8), (9 : UInt8), (9 : UInt8), (9 : UInt8), (9 : UInt8), (9 : UInt8), (9 : UInt8), (9 : UInt8), (9 : UInt8), (9 : UInt8), (9 : UInt8), (9 : UInt8), (9 : UInt8), (9 : UInt8), (9 : UInt8), (9 : UInt8), (9 : UInt8), (9 : UInt8), (9 : UInt8), (9 : UInt8), (9 : UInt8), (9 : UInt8), (9 : UInt8), (9 : UInt8), (9 : UInt8), (9 : UInt8), (9 : UInt8), (9 : UInt8), (9 : UInt8), (9 : UInt8), (9 : UInt8), (9 : UInt8), (9 : UInt8), (9 : UInt8), (9 : UInt8), (9 : UInt8), (9 : UInt8), (9 : UInt8), (9 : UInt8), (9 : UInt8), (9 : UInt8), (9 : UInt8), (9 : UInt8), (9 : UInt8), (9 : UInt8), (9 : UInt8), (9 : UInt8), (9 : UInt8), (9 : UInt8), (9 : UInt8), (9 : UInt8), (9 : UInt8), (9 : UInt8), (9 : UInt8), (9 : UInt8), (9 : UInt8), (9 : UInt8)], x1)) fun y1 =>
          iteP (y1) (
            iteP (decide ((0 : Int) ≤ x2 ∧ x2 ≤ (64 : Int))) (
              some (.inl (ByteArray.extract (ByteArray.mk #[(9 : UInt8), (9 : UInt8), (9 : UInt8), (9 : UInt8), (9 : UInt8), (9 : UInt8), (9 : UInt8), (9 : UInt8), (9 : UInt8), (9 : UInt8), (9 : UInt8), (9 : UInt8), (9 : UInt8), (9 : UInt8), (9 : UInt8), (9 : UInt8), (9 : UInt8), (9 : UInt8), (9 : UInt8), (9 : UInt8), (9 : UInt8), (9 : UInt8), (9 : UInt8), (9 : UInt8), (9 : UInt8), (9 : UInt8), (9 : UInt8), (9 : UInt8), (9 : UInt8), (9 : UInt8), (9 : UInt8), (9 : UInt8), (9 : UInt8), (9 : UInt8), (9 : UInt8), (9 : UInt8), (9 : UInt8), (9 : UInt8), (9 : UInt8), (9 : UInt8), (9 : UInt8), (9 : UInt8), (9 : UInt8), (9 : UInt8), (9 : UInt8), (9 : UInt8), (9 : UInt8), (9 : UInt8), (9 : UInt8), (9 : UInt8), (9 : UInt8), (9 : UInt8), (9 : UInt8), (9 : UInt8), (9 : UInt8), (9 : UInt8), (9 : UInt8), (9 : UInt8), (9 : UInt8), (9 : UInt8), (9 : UInt8), (9 : UInt8), (9 : UInt8), (9 : UInt8)]) (0 : Nat) (Int.toNat x2)))) (
              none )) (
            some (.inr ((x1, x2))))) (
          some (.inr ((x1, x2)))))) (
      iteP (decide (x2 ≤ (64 : Int))) (
        Option.bind (F114 N (ByteArray.mk #[(9 : UInt8), (9 : UInt8), (9 : UInt8), (9 : UInt8), (9 : UInt8), (9 : UInt8), (9 : UInt8), (9 : UInt8), (9 : UInt8), (9 : UInt8), (9 : UInt8), (9 : UInt8), (9 : UInt8), (9 : UInt8), (9 : UInt8), (9 : UInt8), (9 : UInt8), (9 : UInt8), (9 : UInt8), (9 : UInt8), (9 : UInt8), (9 : UInt8), (9 : UInt8), (9 : UInt8), (9 : UInt8), (9 : UInt8), (9 : UInt8), (9 : UInt8), (9 : UInt8), (9 : UInt8), (9 : UInt8), (9 : UInt8), (9 : UInt8), (9 : UInt8), (9 : UInt8), (9 : UInt8), (9 : UInt8), (9 : UInt8), (9 : UInt8), (9 : UInt8), (9 : UInt8), (9 : UInt8), (9 : UInt8), (9 : UInt8), (9 : UInt8), (9 : UInt8), (9 : UInt8), (9 : UInt8), (9 : UInt8), (9 : UInt8), (9 : UInt8), (9 : UInt8), (9 : UInt8), (9 : UInt8), (9 : UInt8), (9 : UInt8), (9 : UInt8), (9 : UInt8), (9 : UInt8), (9 : UInt8), (9 : UInt8), (9 : UInt8), (9 : UInt8), (9 : UInt8)], x1)) fun y2 =>
        iteP (y2) (
          iteP (decide ((0 : Int) ≤ x2 ∧ x2 ≤ (64 : Int))) (
            some (.inl (ByteArray.extract (ByteArray.mk #[(9 : UInt8), (9 : UInt8), (9 : UInt8), (9 : UInt8), (9 : UInt8), (9 : UInt8), (9 : UInt8), (9 : UInt8), (9 : UInt8), (9 : UInt8), (9 : UInt8), (9 : UInt8), (9 : UInt8), (9 : UInt8), (9 : UInt8), (9 : UInt8), (9 : UInt8), (9 : UInt8), (9 : UInt8), (9 : UInt8), (9 : UInt8), (9 : UInt8), (9 : UInt8), (9 : UInt8), (9 : UInt8), (9 : UInt8), (9 : UInt8), (9 : UInt8), (9 : UInt8), (9 : UInt8), (9 : UInt8), (9 : UInt8), (9 : UInt8), (9 : UInt8), (9 : UInt8), (9 : UInt8), (9 : UInt8), (9 : UInt8), (9 : UInt8), (9 : UInt8), (9 : UInt8), (9 : UInt8), (9 : UInt8), (9 : UInt8), (9 : UInt8), (9 : UInt8), (9 : UInt8), (9 : UInt8), (9 : UInt8), (9 : UInt8), (9 : UInt8), (9 : UInt8), (9 : UInt8), (9 : UInt8), (9 : UInt8), (9 : UInt8), (9 : UInt8), (9 : UInt8), (9 : UInt8), (9 : UInt8), (9 : UInt8), (9 : UInt8), (9 : UInt8), (9 : UInt8)]) (0 : Nat) (Int.toNat x2)))) (
            none )) (
          some (.inr ((x1, x2))))) (
        some (.inr ((x1, x2))))))
noncomputable def C268_522911 (N : Nat) (_ : Nat) : Cut := L268_522911.cut (F268_522911 N)
theorem C268_522911_ok (N : Nat) (k : Nat) : CutAt Tryz.prog false Tryz.f268 [] 522911 (C268_522911 N k) :=
  L268_522911.pieceT ownT mix (tab268_ok N) Tryz.f268 [] (cuts := []) trivial (by decide +kernel) (by kernel_rfl) (F268_522911 N) (fun x => by kernel_rfl)
@[reducible] def L268_130727 : LD := ⟨130727, [58, 0, 7], [(.ret, [4]), (.exit 2, [0, 7]), (.exit 1, [0, 7]), (.normal, [0, 7])], ⟨[.bool, .str, .int .i64], []⟩, [(.ret, ⟨[.str], []⟩), (.normal, ⟨[.str, .int .i64], []⟩)]⟩
noncomputable def F268_130727 (N : Nat) : (Bool × ByteArray × Int) → Option (((ByteArray) ⊕ (ByteArray × Int)))
  | (x0, x1, x2) =>
  iteP (x0) (
    iteP (decide ((0 : Int) ≤ x2 ∧ x2 ≤ (128 : Int))) (
      some (.inl (ByteArray.extract (ByteArray.mk #[(45 : UInt8), (45 : UInt8), (45 : UInt8), (45 : UInt8), (45 : UInt8), (45 : UInt8), (45 : UInt8), (45 : UInt8), (45 : UInt8), (45 : UInt8), (45 : UInt8), (45 : UInt8), (45 : UInt8), (45 : UInt8), (45 : UInt8), (45 : UInt8), (45 : UInt8), (45 : UInt8), (45 : UInt8), (45 : UInt8), (45 : UInt8), (45 : UInt8), (45 : UInt8), (45 : UInt8), (45 : UInt8), (45 : UInt8), (45 : UInt8), (45 : UInt8), (45 : UInt8), (45 : UInt8), (45 : UInt8), (45 : UInt8), (45 : UInt8), (45 : UInt8), (45 : UInt8), (45 : UInt8), (45 : UInt8), (45 : UInt8), (45 : UInt8), (45 : UInt8), (45 : UInt8), (45 : UInt8), (45 : UInt8), (45 : UInt8), (45 : UInt8), (45 : UInt8), (45 : UInt8), (45 : UInt8), (45 : UInt8), (45 : UInt8), (45 : UInt8), (45 : UInt8), (45 : UInt8), (45 : UInt8), (45 : UInt8), (45 : UInt8), (45 : UInt8), (45 : UInt8), (45 : UInt8), (45 : UInt8), (45 : UInt8), (45 : UInt8), (45 : UInt8), (45 : UInt8), (45 : UInt8), (45 : UInt8), (45 : UInt8), (45 : UInt8), (45 : UInt8), (45 : UInt8), (45 : UInt8), (45 : UInt8), (45 : UInt8), (45 : UInt8), (45 : UInt8), (45 : UInt8), (45 : UInt8), (45 : UInt8), (45 : UInt8), (45 : UInt8), (45 : UInt8), (45 : UInt8), (45 : UInt8), (45 : UInt8), (45 : UInt8), (45 : UInt8), (45 : UInt8), (45 : UInt8), (45 : UInt8), (45 : UInt8), (45 : UInt8), (45 : UInt8), (45 : UInt8), (45 : UInt8), (45 : UInt8), (45 : UInt8), (45 : UInt8), (45 : UInt8), (45 : UInt8), (45 : UInt8), (45 : UInt8), (45 : UInt8), (45 : UInt8), (45 : UInt8), (45 : UInt8), (45 : UInt8), (45 : UInt8), (45 : UInt8), (45 : UInt8), (45 : UInt8), (45 : UInt8), (45 : UInt8), (45 : UInt8), (45 : UInt8), (45 : UInt8), (45 : UInt8), (45 : UInt8), (45 : UInt8), (45 : UInt8), (45 : UInt8), (45 : UInt8), (45 : UInt8), (45 : UInt8), (45 : UInt8), (45 : UInt8), (45 : UInt8), (45 : UInt8), (45 : UInt8)]) (0 : Nat) (Int.toNat x2)))) (
      none )) (
    iteP (decide (x2 ≤ (64 : Int))) (
      Option.bind (F114 N (ByteArray.mk #[(48 : UInt8), (48 : UInt8), (48 : UInt8), (48 : UInt8), (48 : UInt8), (48 : UInt8), (48 : UInt8), (48 : UInt8), (48 : UInt8), (48 : UInt8), (48 : UInt8), (48 : UInt8), (48 : UInt8), (48 : UInt8), (48 : UInt8), (48 : UInt8), (48 : UInt8), (48 : UInt8), (48 : UInt8), (48 : UInt8), (48 : UInt8), (48 : UInt8), (48 : UInt8), (48 : UInt8), (48 : UInt8), (48 : UInt8), (48 : UInt8), (48 : UInt8), (48 : UInt8), (48 : UInt8), (48 : UInt8), (48 : UInt8), (48 : UInt8), (48 : UInt8), (48 : UInt8), (48 : UInt8), (48 : UInt8), (48 : UInt8), (48 : UInt8), (48 : UInt8), (48 : UInt8), (48 : UInt8), (48 : UInt8), (48 : UInt8), (48 : UInt8), (48 : UInt8), (48 : UInt8), (48 : UInt8), (48 : UInt8), (48 : UInt8), (48 : UInt8), (48 : UInt8), (48 : UInt8), (48 : UInt8), (48 : UInt8), (48 : UInt8), (48 : UInt8), (48 : UInt8), (48 : UInt8), (48 : UInt8), (48 : UInt8), (48 : UInt8), (48 : UInt8), (48 : UInt8)], x1)) fun y0 =>
      Option.bind (F268_522911 N (y0, x1, x2)) fun y1 =>
      match y1 with
      | .inl y2 =>
        some (.inl (y2))
      | .inr y2 =>
        some (.inr ((y2.1, y2.2)))) (
      Option.bind (F268_522911 N (false, x1, x2)) fun y3 =>
      match y3 with
      | .inl y4 =>
        some (.inl (y4))
      | .inr y4 =>
        some (.inr ((y4.1, y4.2)))))
noncomputable def C268_130727 (N : Nat) (_ : Nat) : Cut := L268_130727.cut (F268_130727 N)
theorem C268_130727_ok (N : Nat) (k : Nat) : CutAt Tryz.prog false Tryz.f268 [] 130727 (C268_130727 N k) :=
  L268_130727.pieceT ownT mix (tab268_ok N) Tryz.f268 [] (cuts := [(522911, C268_522911 N N)]) ⟨C268_522911_ok N N, trivial⟩ (by decide +kernel) (by kernel_rfl) (F268_130727 N) (fun x => by kernel_rfl)
@[reducible] def L268_32681 : LD := ⟨32681, [49, 0, 7], [(.ret, [4]), (.exit 2, [0, 7]), (.exit 1, [0, 7]), (.normal, [0, 7])], ⟨[.bool, .str, .int .i64], []⟩, [(.ret, ⟨[.str], []⟩), (.normal, ⟨[.str, .int .i64], []⟩)]⟩
noncomputable def F268_32681 (N : Nat) : (Bool × ByteArray × Int) → Option (((ByteArray) ⊕ (ByteArray × Int)))
  | (x0, x1, x2) =>
  iteP (x0) (
    iteP (decide ((0 : Int) ≤ x2 ∧ x2 ≤ (128 : Int))) (
      some (.inl (ByteArray.extract (ByteArray.mk #[(32 : UInt8), (32 : UInt8), (32 : UInt8), (32 : UInt8), (32 : UInt8), (32 : UInt8), (32 : UInt8), (32 : UInt8), (32 : UInt8), (32 : UInt8), (32 : UInt8), (32 : UInt8), (32 : UInt8), (32 : UInt8), (32 : UInt8), (32 : UInt8), (32 : UInt8), (32 : UInt8), (32 : UInt8), (32 : UInt8), (32 : UInt8), (32 : UInt8), (32 : UInt8), (32 : UInt8), (32 : UInt8), (32 : UInt8), (32 : UInt8), (32 : UInt8), (32 : UInt8), (32 : UInt8), (32 : UInt8), (32 : UInt8), (32 : UInt8), (32 : UInt8), (32 : UInt8), (32 : UInt8), (32 : UInt8), (32 : UInt8), (32 : UInt8), (32 : UInt8), (32 : UInt8), (32 : UInt8), (32 : UInt8), (32 : UInt8), (32 : UInt8), (32 : UInt8), (32 : UInt8), (32 : UInt8), (32 : UInt8), (32 : UInt8), (32 : UInt8), (32 : UInt8), (32 : UInt8), (32 : UInt8), (32 : UInt8), (32 : UInt8), (32 : UInt8), (32 : UInt8), (32 : UInt8), (32 : UInt8), (32 : UInt8), (32 : UInt8), (32 : UInt8), (32 : UInt8), (32 : UInt8), (32 : UInt8), (32 : UInt8), (32 : UInt8), (32 : UInt8), (32 : UInt8), (32 : UInt8), (32 : UInt8), (32 : UInt8), (32 : UInt8), (32 : UInt8), (32 : UInt8), (32 : UInt8), (32 : UInt8), (32 : UInt8), (32 : UInt8), (32 : UInt8), (32 : UInt8), (32 : UInt8), (32 : UInt8), (32 : UInt8), (32 : UInt8), (32 : UInt8), (32 : UInt8), (32 : UInt8), (32 : UInt8), (32 : UInt8), (32 : UInt8), (32 : UInt8), (32 : UInt8), (32 : UInt8), (32 : UInt8), (32 : UInt8), (32 : UInt8), (32 : UInt8), (32 : UInt8), (32 : UInt8), (32 : UInt8), (32 : UInt8), (32 : UInt8), (32 : UInt8), (32 : UInt8), (32 : UInt8), (32 : UInt8), (32 : UInt8), (32 : UInt8), (32 : UInt8), (32 : UInt8), (32 : UInt8), (32 : UInt8), (32 : UInt8), (32 : UInt8), (32 : UInt8), (32 : UInt8), (32 : UInt8), (32 : UInt8), (32 : UInt8), (32 : UInt8), (32 : UInt8), (32 : UInt8), (32 : UInt8), (32 : UInt8), (32 : UInt8), (32 : UInt8)]) (0 : Nat) (Int.toNat x2)))) (
      none )) (
    iteP (decide (x2 ≤ (128 : Int))) (
      Option.bind (F114 N (ByteArray.mk #[(45 : UInt8), (45 : UInt8), (45 : UInt8), (45 : UInt8), (45 : UInt8), (45 : UInt8), (45 : UInt8), (45 : UInt8), (45 : UInt8), (45 : UInt8), (45 : UInt8), (45 : UInt8), (45 : UInt8), (45 : UInt8), (45 : UInt8), (45 : UInt8), (45 : UInt8), (45 : UInt8), (45 : UInt8), (45 : UInt8), (45 : UInt8), (45 : UInt8), (45 : UInt8), (45 : UInt8), (45 : UInt8), (45 : UInt8), (45 : UInt8), (45 : UInt8), (45 : UInt8), (45 : UInt8), (45 : UInt8), (45 : UInt8), (45 : UInt8), (45 : UInt8), (45 : UInt8), (45 : UInt8), (45 : UInt8), (45 : UInt8), (45 : UInt8), (45 : UInt8), (45 : UInt8), (45 : UInt8), (45 : UInt8), (45 : UInt8), (45 : UInt8), (45 : UInt8), (45 : UInt8), (45 : UInt8), (45 : UInt8), (45 : UInt8), (45 : UInt8), (45 : UInt8), (45 : UInt8), (45 : UInt8), (45 : UInt8), (45 : UInt8), (45 : UInt8), (45 : UInt8), (45 : UInt8), (45 : UInt8), (45 : UInt8), (45 : UInt8), (45 : UInt8), (45 : UInt8), (45 : UInt8), (45 : UInt8), (45 : UInt8), (45 : UInt8), (45 : UInt8), (45 : UInt8), (45 : UInt8), (45 : UInt8), (45 : UInt8), (45 : UInt8), (45 : UInt8), (45 : UInt8), (45 : UInt8), (45 : UInt8), (45 : UInt8), (45 : UInt8), (45 : UInt8), (45 : UInt8), (45 : UInt8), (45 : UInt8), (45 : UInt8), (45 : UInt8), (45 : UInt8), (45 : UInt8), (45 : UInt8), (45 : UInt8), (45 : UInt8), (45 : UInt8), (45 : UInt8), (45 : UInt8), (45 : UInt8), (45 : UInt8), (45 : UInt8), (45 : UInt8), (45 : UInt8), (45 : UInt8), (45 : UInt8), (45 : UInt8), (45 : UInt8), (45 : UInt8), (45 : UInt8), (45 : UInt8), (45 : UInt8), (45 : UInt8), (45 : UInt8), (45 : UInt8), (45 : UInt8), (45 : UInt8), (45 : UInt8), (45 : UInt8), (45 : UInt8), (45 : UInt8), (45 : UInt8), (45 : UInt8), (45 : UInt8), (45 : UInt8), (45 : UInt8), (45 : UInt8), (45 : UInt8), (45 : UInt8), (45 : UInt8), (45 : UInt8), (45 : UInt8), (45 : UInt8)], x1)) fun y0 =>
      Option.bind (F268_130727 N (y0, x1, x2)) fun y1 =>
      match y1 with
      | .inl y2 =>
        some (.inl (y2))
      | .inr y2 =>
        some (.inr ((y2.1, y2.2)))) (
      Option.bind (F268_130727 N (false, x1, x2)) fun y3 =>
      match y3 with
      | .inl y4 =>
        some (.inl (y4))
      | .inr y4 =>
        some (.inr ((y4.1, y4.2)))))
noncomputable def C268_32681 (N : Nat) (_ : Nat) : Cut := L268_32681.cut (F268_32681 N)
theorem C268_32681_ok (N : Nat) (k : Nat) : CutAt Tryz.prog false Tryz.f268 [] 32681 (C268_32681 N k) :=
  L268_32681.pieceT ownT mix (tab268_ok N) Tryz.f268 [] (cuts := [(522911, C268_522911 N N), (130727, C268_130727 N N)]) ⟨C268_522911_ok N N, C268_130727_ok N N, trivial⟩ (by decide +kernel) (by kernel_rfl) (F268_32681 N) (fun x => by kernel_rfl)
@[reducible] def L268_4085 : LD := ⟨4085, [43, 0, 7], [(.ret, [4]), (.exit 1, [0, 7]), (.normal, [0, 7])], ⟨[.bool, .str, .int .i64], []⟩, [(.ret, ⟨[.str], []⟩), (.normal, ⟨[.str, .int .i64], []⟩)]⟩
noncomputable def F268_4085 (N : Nat) : (Bool × ByteArray × Int) → Option (((ByteArray) ⊕ (ByteArray × Int)))
  | (x0, x1, x2) =>
  iteP (x0) (
    iteP (decide (x2 ≤ (128 : Int))) (
      Option.bind (F114 N (ByteArray.mk #[(32 : UInt8), (32 : UInt8), (32 : UInt8), (32 : UInt8), (32 : UInt8), (32 : UInt8), (32 : UInt8), (32 : UInt8), (32 : UInt8), (32 : UInt8), (32 : UInt8), (32 : UInt8), (32 : UInt8), (32 : UInt8), (32 : UInt8), (32 : UInt8), (32 : UInt8), (32 : UInt8), (32 : UInt8), (32 : UInt8), (32 : UInt8), (32 : UInt8), (32 : UInt8), (32 : UInt8), (32 : UInt8), (32 : UInt8), (32 : UInt8), (32 : UInt8), (32 : UInt8), (32 : UInt8), (32 : UInt8), (32 : UInt8), (32 : UInt8), (32 : UInt8), (32 : UInt8), (32 : UInt8), (32 : UInt8), (32 : UInt8), (32 : UInt8), (32 : UInt8), (32 : UInt8), (32 : UInt8), (32 : UInt8), (32 : UInt8), (32 : UInt8), (32 : UInt8), (32 : UInt8), (32 : UInt8), (32 : UInt8), (32 : UInt8), (32 : UInt8), (32 : UInt8), (32 : UInt8), (32 : UInt8), (32 : UInt8), (32 : UInt8), (32 : UInt8), (32 : UInt8), (32 : UInt8), (32 : UInt8), (32 : UInt8), (32 : UInt8), (32 : UInt8), (32 : UInt8), (32 : UInt8), (32 : UInt8), (32 : UInt8), (32 : UInt8), (32 : UInt8), (32 : UInt8), (32 : UInt8), (32 : UInt8), (32 : UInt8), (32 : UInt8), (32 : UInt8), (32 : UInt8), (32 : UInt8), (32 : UInt8), (32 : UInt8), (32 : UInt8), (32 : UInt8), (32 : UInt8), (32 : UInt8), (32 : UInt8), (32 : UInt8), (32 : UInt8), (32 : UInt8), (32 : UInt8), (32 : UInt8), (32 : UInt8), (32 : UInt8), (32 : UInt8), (32 : UInt8), (32 : UInt8), (32 : UInt8), (32 : UInt8), (32 : UInt8), (32 : UInt8), (32 : UInt8), (32 : UInt8), (32 : UInt8), (32 : UInt8), (32 : UInt8), (32 : UInt8), (32 : UInt8), (32 : UInt8), (32 : UInt8), (32 : UInt8), (32 : UInt8), (32 : UInt8), (32 : UInt8), (32 : UInt8), (32 : UInt8), (32 : UInt8), (32 : UInt8), (32 : UInt8), (32 : UInt8), (32 : UInt8), (32 : UInt8), (32 : UInt8), (32 : UInt8), (32 : UInt8), (32 : UInt8), (32 : UInt8), (32 : UInt8), (32 : UInt8), (32 : UInt8), (32 : UInt8)], x1)) fun y0 =>
      Option.bind (F268_32681 N (y0, x1, x2)) fun y1 =>
      match y1 with
      | .inl y2 =>
        some (.inl (y2))
      | .inr y2 =>
        some (.inr ((y2.1, y2.2)))) (
      Option.bind (F268_32681 N (false, x1, x2)) fun y3 =>
      match y3 with
      | .inl y4 =>
        some (.inl (y4))
      | .inr y4 =>
        some (.inr ((y4.1, y4.2))))) (
    some (.inr ((x1, x2))))
noncomputable def C268_4085 (N : Nat) (_ : Nat) : Cut := L268_4085.cut (F268_4085 N)
theorem C268_4085_ok (N : Nat) (k : Nat) : CutAt Tryz.prog false Tryz.f268 [] 4085 (C268_4085 N k) :=
  L268_4085.pieceT ownT mix (tab268_ok N) Tryz.f268 [] (cuts := [(522911, C268_522911 N N), (130727, C268_130727 N N), (32681, C268_32681 N N)]) ⟨C268_522911_ok N N, C268_130727_ok N N, C268_32681_ok N N, trivial⟩ (by decide +kernel) (by kernel_rfl) (F268_4085 N) (fun x => by kernel_rfl)
@[reducible] def L268_2047 : LD := ⟨2047, [0, 7, 8], [(.ret, [4]), (.normal, [4])], ⟨[.str, .int .i64, .int .i64], []⟩, []⟩
noncomputable def F268_2047 (N : Nat) : (ByteArray × Int × Int) → Option (Unit)
  | (x0, x1, x2) =>
  Option.bind (F308 N (x1, [])) fun y0 =>
  none
noncomputable def C268_2047 (N : Nat) (_ : Nat) : Cut := L268_2047.cut (F268_2047 N)
theorem C268_2047_ok (N : Nat) (k : Nat) : CutAt Tryz.prog false Tryz.f268 [] 2047 (C268_2047 N k) :=
  L268_2047.pieceT ownT mix (tab268_ok N) Tryz.f268 [] (cuts := [(522911, C268_522911 N N), (130727, C268_130727 N N), (32681, C268_32681 N N), (4085, C268_4085 N N)]) ⟨C268_522911_ok N N, C268_130727_ok N N, C268_32681_ok N N, C268_4085_ok N N, trivial⟩ (by decide +kernel) (by kernel_rfl) (F268_2047 N) (fun x => by kernel_rfl)
@[reducible] def L268_511 : LD := ⟨511, [0, 7], [(.ret, [4]), (.normal, [4])], ⟨[.str, .int .i64], []⟩, []⟩
noncomputable def F268_511 (N : Nat) : (ByteArray × Int) → Option (Unit)
  | (x0, x1) =>
  iteP (decide (x1 > (8192 : Int))) (
    iteP (decide ((↑(ByteArray.size x0) : Int) = (0 : Int))) (
      none ) (
      iteP (IntKind.wrap IntKind.i64 (IntKind.wrap IntKind.i64 (Int.tdiv (8192 : Int) (↑(ByteArray.size x0) : Int)) * (↑(ByteArray.size x0) : Int)) == (0 : Int)) (
        Option.bind (F268_2047 N (x0, x1, (↑(ByteArray.size x0) : Int))) fun y0 =>
        none) (
        Option.bind (F268_2047 N (x0, x1, IntKind.wrap IntKind.i64 (IntKind.wrap IntKind.i64 (Int.tdiv (8192 : Int) (↑(ByteArray.size x0) : Int)) * (↑(ByteArray.size x0) : Int)))) fun y1 =>
        none))) (
    Option.bind (F268_2047 N (x0, x1, x1)) fun y2 =>
    none)
noncomputable def C268_511 (N : Nat) (_ : Nat) : Cut := L268_511.cut (F268_511 N)
theorem C268_511_ok (N : Nat) (k : Nat) : CutAt Tryz.prog false Tryz.f268 [] 511 (C268_511 N k) :=
  L268_511.pieceT ownT mix (tab268_ok N) Tryz.f268 [] (cuts := [(522911, C268_522911 N N), (130727, C268_130727 N N), (32681, C268_32681 N N), (4085, C268_4085 N N), (2047, C268_2047 N N)]) ⟨C268_522911_ok N N, C268_130727_ok N N, C268_32681_ok N N, C268_4085_ok N N, C268_2047_ok N N, trivial⟩ (by decide +kernel) (by kernel_rfl) (F268_511 N) (fun x => by kernel_rfl)
@[reducible] def L268_63 : LD := ⟨63, [6, 0], [(.ret, [4]), (.normal, [4])], ⟨[.int .u64, .str], []⟩, [(.ret, ⟨[.str], []⟩)]⟩
noncomputable def F268_63 (N : Nat) : (Int × ByteArray) → Option (ByteArray)
  | (x0, x1) =>
  iteP ((↑(ByteArray.size x1) : Int) == (0 : Int)) (
    some (ByteArray.mk #[])) (
    Option.bind (x1[(0 : Nat)]?) fun y0 =>
    iteP ((↑(UInt8.toNat y0) : Int) == (32 : Int)) (
      Option.bind (F268_4085 N (true, x1, IntKind.wrap IntKind.i64 x0)) fun y1 =>
      match y1 with
      | .inl y2 =>
        some (y2)
      | .inr y2 =>
        Option.bind (F268_511 N (y2.1, y2.2)) fun y3 =>
        none) (
      iteP ((↑(UInt8.toNat y0) : Int) == (45 : Int)) (
        Option.bind (F268_4085 N (true, x1, IntKind.wrap IntKind.i64 x0)) fun y4 =>
        match y4 with
        | .inl y5 =>
          some (y5)
        | .inr y5 =>
          Option.bind (F268_511 N (y5.1, y5.2)) fun y6 =>
          none) (
        iteP ((↑(UInt8.toNat y0) : Int) == (48 : Int)) (
          Option.bind (F268_4085 N (true, x1, IntKind.wrap IntKind.i64 x0)) fun y7 =>
          match y7 with
          | .inl y8 =>
            some (y8)
          | .inr y8 =>
            Option.bind (F268_511 N (y8.1, y8.2)) fun y9 =>
            none) (
          iteP ((↑(UInt8.toNat y0) : Int) == (61 : Int)) (
            Option.bind (F268_4085 N (true, x1, IntKind.wrap IntKind.i64 x0)) fun y10 =>
            match y10 with
            | .inl y11 =>
              some (y11)
            | .inr y11 =>
              Option.bind (F268_511 N (y11.1, y11.2)) fun y12 =>
              none) (
            Option.bind (F268_4085 N ((↑(UInt8.toNat y0) : Int) == (9 : Int), x1, IntKind.wrap IntKind.i64 x0)) fun y13 =>
            match y13 with
            | .inl y14 =>
              some (y14)
            | .inr y14 =>
              Option.bind (F268_511 N (y14.1, y14.2)) fun y15 =>
              none)))))
noncomputable def C268_63 (N : Nat) (_ : Nat) : Cut := L268_63.cut (F268_63 N)
theorem C268_63_ok (N : Nat) (k : Nat) : CutAt Tryz.prog false Tryz.f268 [] 63 (C268_63 N k) :=
  L268_63.pieceT ownT mix (tab268_ok N) Tryz.f268 [] (cuts := [(522911, C268_522911 N N), (130727, C268_130727 N N), (32681, C268_32681 N N), (4085, C268_4085 N N), (2047, C268_2047 N N), (511, C268_511 N N)]) ⟨C268_522911_ok N N, C268_130727_ok N N, C268_32681_ok N N, C268_4085_ok N N, C268_2047_ok N N, C268_511_ok N N, trivial⟩ (by decide +kernel) (by kernel_rfl) (F268_63 N) (fun x => by kernel_rfl)
@[reducible] def L268_15 : LD := ⟨15, [1, 0], [(.ret, [4]), (.normal, [4])], ⟨[.int .i64, .str], []⟩, [(.ret, ⟨[.str], []⟩)]⟩
noncomputable def F268_15 (N : Nat) : (Int × ByteArray) → Option (ByteArray)
  | (x0, x1) =>
  Option.bind (F273 N (IntKind.wrap IntKind.u64 (↑(ByteArray.size x1) : Int), IntKind.wrap IntKind.u64 x0)) fun y0 =>
  iteP (decide (y0.1 > (0 : Int))) (
    none ) (
    iteP (decide (y0.2 > (9223372036854775807 : Int))) (
      none ) (
      Option.bind (F268_63 N (y0.2, x1)) fun y1 =>
      some (y1)))
noncomputable def C268_15 (N : Nat) (_ : Nat) : Cut := L268_15.cut (F268_15 N)
theorem C268_15_ok (N : Nat) (k : Nat) : CutAt Tryz.prog false Tryz.f268 [] 15 (C268_15 N k) :=
  L268_15.pieceT ownT mix (tab268_ok N) Tryz.f268 [] (cuts := [(522911, C268_522911 N N), (130727, C268_130727 N N), (32681, C268_32681 N N), (4085, C268_4085 N N), (2047, C268_2047 N N), (511, C268_511 N N), (63, C268_63 N N)]) ⟨C268_522911_ok N N, C268_130727_ok N N, C268_32681_ok N N, C268_4085_ok N N, C268_2047_ok N N, C268_511_ok N N, C268_63_ok N N, trivial⟩ (by decide +kernel) (by kernel_rfl) (F268_15 N) (fun x => by kernel_rfl)
@[reducible] def w268 : List SP := [⟨[.str], []⟩]
noncomputable def F268 (N : Nat) : (ByteArray × Int) → Option (ByteArray)
  | (x0, x1) =>
  iteP (x1 == (0 : Int)) (
    some (ByteArray.mk #[])) (
    iteP (x1 == (1 : Int)) (
      some (x0)) (
      iteP (decide (x1 < (0 : Int))) (
        none ) (
        Option.bind (F268_15 N (x1, x0)) fun y0 =>
        some (y0))))
noncomputable def T268 (N : Nat) : Pk → Tr Pk := tellS s268 w268 (F268 N)
theorem T268_ok (N : Nat) : FOK Tryz.prog (268) (T268 N) :=
  (fn_ok2 ownT mix (tab268_ok N) Tryz.func268 s268 w268 [] (cuts := [(522911, C268_522911 N N), (130727, C268_130727 N N), (32681, C268_32681 N N), (4085, C268_4085 N N), (2047, C268_2047 N N), (511, C268_511 N N), (63, C268_63 N N), (15, C268_15 N N)]) ⟨C268_522911_ok N N, C268_130727_ok N N, C268_32681_ok N N, C268_4085_ok N N, C268_2047_ok N N, C268_511_ok N N, C268_63_ok N N, C268_15_ok N N, trivial⟩ (fun _ => by kernel_rfl) (by decide +kernel) (F268 N) (fun x => by kernel_rfl))
@[reducible] def s221 : SP := ⟨[.int .i64], []⟩
noncomputable def tab221 (N : Nat) : List (Nat × (Pk → Tr Pk)) := [(268, T268 N), (154, T154 N)]
theorem tab221_ok (N : Nat) : TabOK Tryz.prog (tab221 N) := ⟨T268_ok N, T154_ok N, trivial⟩
@[reducible] def w221 : List SP := [⟨[.str], []⟩]
noncomputable def F221 (N : Nat) : (Int) → Option (ByteArray)
  | x0 =>
  Option.bind (F268 N (ByteArray.mk #[(255 : UInt8)], IntKind.wrap IntKind.i64 (Int.tdiv (IntKind.wrap IntKind.i64 (x0 - (1 : Int))) (255 : Int)))) fun y0 =>
  Option.bind (F154 N (Int.tmod (IntKind.wrap IntKind.i64 (x0 - (1 : Int))) (255 : Int))) fun y1 =>
  iteP (decide ((↑(ByteArray.size y0 + ByteArray.size y1) : Int) > (9223372036854775807 : Int))) (
    none ) (
    some (y0 ++ y1))
noncomputable def T221 (N : Nat) : Pk → Tr Pk := tellS s221 w221 (F221 N)
theorem T221_ok (N : Nat) : FOK Tryz.prog (221) (T221 N) :=
  (fn_ok2 ownT mix (tab221_ok N) Tryz.func221 s221 w221 [] (cuts := []) trivial (fun _ => by kernel_rfl) (by decide +kernel) (F221 N) (fun x => by kernel_rfl))
@[reducible] def s157 : SP := ⟨[.agg [.agg [.int .i64, .int .i64, .bool, .bool, .int .i64, .int .i64, .int .i64, .int .i64, .int .i64, .int .i64]], .ro y0], []⟩
noncomputable def tab157 (N : Nat) : List (Nat × (Pk → Tr Pk)) := [(154, T154 N), (155, T155 N), (221, T221 N)]
theorem tab157_ok (N : Nat) : TabOK Tryz.prog (tab157 N) := ⟨T154_ok N, T155_ok N, T221_ok N, trivial⟩
@[reducible] def L157_58 : LD := ⟨58, [5, 11, 10, 9, 2], [(.ret, [4]), (.exit 0, [5])], ⟨[.str, .int .i64, .int .i64, .ro y0, .adr 0 []], [.var 140 (.agg [.agg [.int .i64, .int .i64, .bool, .bool, .int .i64, .int .i64, .int .i64, .int .i64, .int .i64, .int .i64]])]⟩, [(.exit 0, ⟨[.str], []⟩)]⟩
abbrev P157_58 : Type := ByteArray × Int × Int × (List (Int × (Int × Unit))) × Int × Int × Bool × Bool × Int × Int × Int × Int × Int × Int
abbrev R157_58 : Type := ByteArray
noncomputable def B157_58 (N : Nat) (f : P157_58 → Option R157_58) : P157_58 → Option R157_58
  | (x0, x1, x2, x3, x4, x5, x6, x7, x8, x9, x10, x11, x12, x13) =>
  iteP (decide (x1 < x2)) (
    iteP (within x1 (List.length x3)) (
      Option.bind (x3[Int.toNat x1]?) fun y0 =>
      Option.bind (F155 N (x4, x5, x6, x7, x8, x9, x10, x11, x12, x13, [y0.1])) fun y1 =>
      Option.bind (F221 N y0.2.1) fun y2 =>
      iteP (decide ((↑(ByteArray.size y1 + ByteArray.size y2) : Int) > (9223372036854775807 : Int))) (
        none ) (
        iteP (decide ((↑(ByteArray.size x0 + ByteArray.size (y1 ++ y2)) : Int) > (9223372036854775807 : Int))) (
          none ) (
          Option.bind (f (x0 ++ (y1 ++ y2), IntKind.wrap IntKind.i64 (x1 + (1 : Int)), x2, x3, x4, x5, x6, x7, x8, x9, x10, x11, x12, x13)) fun r => some r))) (
      none )) (
    some (x0))
noncomputable def F157_58 (N : Nat) : Nat → P157_58 → Option R157_58
  | 0, _ => none
  | k + 1, x => B157_58 N (F157_58 N k) x
noncomputable def C157_58 (N : Nat) (k : Nat) : Cut := L157_58.cut (F157_58 N k)
theorem C157_58_ok (N : Nat) (k : Nat) : CutAt Tryz.prog false Tryz.f157 [] 58 (C157_58 N k) :=
  L157_58.loopT ownT mix (tab157_ok N) Tryz.f157 [] (cuts := []) trivial (by decide +kernel) (by kernel_rfl) (B157_58 N) (F157_58 N) (fun _ => rfl) (fun _ _ => rfl) (fun f x => by kernel_rfl) k
@[reducible] def w157 : List SP := [⟨[.str], []⟩]
noncomputable def F157 (N : Nat) : (Int × Int × Bool × Bool × Int × Int × Int × Int × Int × Int × (List (Int × (Int × Unit)))) → Option (ByteArray)
  | (x0, x1, x2, x3, x4, x5, x6, x7, x8, x9, x10) =>
  Option.bind (F154 N (128 : Int)) fun y0 =>
  Option.bind (F157_58 N N (y0, (0 : Int), (↑(List.length x10) : Int), x10, x0, x1, x2, x3, x4, x5, x6, x7, x8, x9)) fun y1 =>
  some (y1)
noncomputable def T157 (N : Nat) : Pk → Tr Pk := tellS s157 w157 (F157 N)
theorem T157_ok (N : Nat) : FOK Tryz.prog (157) (T157 N) :=
  (fn_ok2 ownT mix (tab157_ok N) Tryz.func157 s157 w157 [] (cuts := [(58, C157_58 N N)]) ⟨C157_58_ok N N, trivial⟩ (fun _ => by kernel_rfl) (by decide +kernel) (F157 N) (fun x => by kernel_rfl))
@[reducible] def s211 : SP := ⟨[.int .i64], []⟩
noncomputable def tab211 (N : Nat) : List (Nat × (Pk → Tr Pk)) := []
theorem tab211_ok (N : Nat) : TabOK Tryz.prog (tab211 N) := trivial
@[reducible] def w211 : List SP := [⟨[.int .i64], []⟩]
noncomputable def F211 (N : Nat) : (Int) → Option (Int)
  | x0 =>
  iteP (decide (x0 ≤ (2 : Int))) (
    some ((1 : Int))) (
    iteP (decide (x0 ≤ (4 : Int))) (
      some ((2 : Int))) (
      some ((4 : Int))))
noncomputable def T211 (N : Nat) : Pk → Tr Pk := tellS s211 w211 (F211 N)
theorem T211_ok (N : Nat) : FOK Tryz.prog (211) (T211 N) :=
  (fn_ok2 ownT mix (tab211_ok N) Tryz.func211 s211 w211 [] (cuts := []) trivial (fun _ => by kernel_rfl) (by decide +kernel) (F211 N) (fun x => by kernel_rfl))
@[reducible] def s310 : SP := ⟨[.int .i64], []⟩
noncomputable def tab310 (N : Nat) : List (Nat × (Pk → Tr Pk)) := []
theorem tab310_ok (N : Nat) : TabOK Tryz.prog (tab310 N) := trivial
@[reducible] def w310 : List SP := [⟨[.int .i64], []⟩]
noncomputable def F310 (N : Nat) : (Int) → Option (Int)
  | x0 =>
  some (if (32 : Int) < if (0 : Int) > x0 then (0 : Int) else x0 then (32 : Int) else if (0 : Int) > x0 then (0 : Int) else x0)
noncomputable def T310 (N : Nat) : Pk → Tr Pk := tellS s310 w310 (F310 N)
theorem T310_ok (N : Nat) : FOK Tryz.prog (310) (T310 N) :=
  (fn_ok2 ownT mix (tab310_ok N) Tryz.func310 s310 w310 [] (cuts := []) trivial (fun _ => by kernel_rfl) (by decide +kernel) (F310 N) (fun x => by kernel_rfl))
@[reducible] def s311 : SP := ⟨[.int .i64, .int .i64], []⟩
noncomputable def tab311 (N : Nat) : List (Nat × (Pk → Tr Pk)) := []
theorem tab311_ok (N : Nat) : TabOK Tryz.prog (tab311 N) := trivial
@[reducible] def w311 : List SP := [⟨[.int .i64], []⟩]
noncomputable def F311 (N : Nat) : (Int × Int) → Option (Int)
  | (x0, x1) =>
  iteP (decide (x0 < (0 : Int))) (
    none ) (
    some (IntKind.wrap IntKind.i64 (↑(BitVec.toNat (BitVec.ofInt (64 : Nat) x1 &&& BitVec.ofInt (64 : Nat) (IntKind.wrap IntKind.i64 (IntKind.wrap IntKind.i64 ((1 : Int) * (2 : Int) ^ min (Int.toNat x0) (64 : Nat)) - (1 : Int))))) : Int)))
noncomputable def T311 (N : Nat) : Pk → Tr Pk := tellS s311 w311 (F311 N)
theorem T311_ok (N : Nat) : FOK Tryz.prog (311) (T311 N) :=
  (fn_ok2 ownT mix (tab311_ok N) Tryz.func311 s311 w311 [] (cuts := []) trivial (fun _ => by kernel_rfl) (by decide +kernel) (F311 N) (fun x => by kernel_rfl))
@[reducible] def s334 : SP := ⟨[.int .u64], []⟩
noncomputable def tab334 (N : Nat) : List (Nat × (Pk → Tr Pk)) := []
theorem tab334_ok (N : Nat) : TabOK Tryz.prog (tab334 N) := trivial
@[reducible] def w334 : List SP := [⟨[.int .u64], []⟩]
noncomputable def F334 (N : Nat) : (Int) → Option (Int)
  | x0 =>
  some (IntKind.wrap IntKind.u64 (↑(BitVec.toNat (BitVec.ofInt (64 : Nat) (Int.fdiv (IntKind.wrap IntKind.u64 (↑(BitVec.toNat (BitVec.ofInt (64 : Nat) (IntKind.wrap IntKind.u64 (↑(BitVec.toNat (BitVec.ofInt (64 : Nat) (Int.fdiv (IntKind.wrap IntKind.u64 (↑(BitVec.toNat (BitVec.ofInt (64 : Nat) (IntKind.wrap IntKind.u64 (↑(BitVec.toNat (BitVec.ofInt (64 : Nat) (Int.fdiv x0 (256 : Int)) &&& BitVec.ofInt (64 : Nat) (71777214294589695 : Int))) : Int)) ||| BitVec.ofInt (64 : Nat) (IntKind.wrap IntKind.u64 (IntKind.wrap IntKind.u64 (↑(BitVec.toNat (BitVec.ofInt (64 : Nat) x0 &&& BitVec.ofInt (64 : Nat) (71777214294589695 : Int))) : Int) * (256 : Int))))) : Int)) (65536 : Int)) &&& BitVec.ofInt (64 : Nat) (281470681808895 : Int))) : Int)) ||| BitVec.ofInt (64 : Nat) (IntKind.wrap IntKind.u64 (IntKind.wrap IntKind.u64 (↑(BitVec.toNat (BitVec.ofInt (64 : Nat) (IntKind.wrap IntKind.u64 (↑(BitVec.toNat (BitVec.ofInt (64 : Nat) (IntKind.wrap IntKind.u64 (↑(BitVec.toNat (BitVec.ofInt (64 : Nat) (Int.fdiv x0 (256 : Int)) &&& BitVec.ofInt (64 : Nat) (71777214294589695 : Int))) : Int)) ||| BitVec.ofInt (64 : Nat) (IntKind.wrap IntKind.u64 (IntKind.wrap IntKind.u64 (↑(BitVec.toNat (BitVec.ofInt (64 : Nat) x0 &&& BitVec.ofInt (64 : Nat) (71777214294589695 : Int))) : Int) * (256 : Int))))) : Int)) &&& BitVec.ofInt (64 : Nat) (281470681808895 : Int))) : Int) * (65536 : Int))))) : Int)) (4294967296 : Int)) ||| BitVec.ofInt (64 : Nat) (IntKind.wrap IntKind.u64 (IntKind.wrap IntKind.u64 (↑(BitVec.toNat (BitVec.ofInt (64 : Nat) (IntKind.wrap IntKind.u64 (↑(BitVec.toNat (BitVec.ofInt (64 : Nat) (Int.fdiv (IntKind.wrap IntKind.u64 (↑(BitVec.toNat (BitVec.ofInt (64 : Nat) (IntKind.wrap IntKind.u64 (↑(BitVec.toNat (BitVec.ofInt (64 : Nat) (Int.fdiv x0 (256 : Int)) &&& BitVec.ofInt (64 : Nat) (71777214294589695 : Int))) : Int)) ||| BitVec.ofInt (64 : Nat) (IntKind.wrap IntKind.u64 (IntKind.wrap IntKind.u64 (↑(BitVec.toNat (BitVec.ofInt (64 : Nat) x0 &&& BitVec.ofInt (64 : Nat) (71777214294589695 : Int))) : Int) * (256 : Int))))) : Int)) (65536 : Int)) &&& BitVec.ofInt (64 : Nat) (281470681808895 : Int))) : Int)) ||| BitVec.ofInt (64 : Nat) (IntKind.wrap IntKind.u64 (IntKind.wrap IntKind.u64 (↑(BitVec.toNat (BitVec.ofInt (64 : Nat) (IntKind.wrap IntKind.u64 (↑(BitVec.toNat (BitVec.ofInt (64 : Nat) (IntKind.wrap IntKind.u64 (↑(BitVec.toNat (BitVec.ofInt (64 : Nat) (Int.fdiv x0 (256 : Int)) &&& BitVec.ofInt (64 : Nat) (71777214294589695 : Int))) : Int)) ||| BitVec.ofInt (64 : Nat) (IntKind.wrap IntKind.u64 (IntKind.wrap IntKind.u64 (↑(BitVec.toNat (BitVec.ofInt (64 : Nat) x0 &&& BitVec.ofInt (64 : Nat) (71777214294589695 : Int))) : Int) * (256 : Int))))) : Int)) &&& BitVec.ofInt (64 : Nat) (281470681808895 : Int))) : Int) * (65536 : Int))))) : Int) * (4294967296 : Int))))) : Int))
noncomputable def T334 (N : Nat) : Pk → Tr Pk := tellS s334 w334 (F334 N)
theorem T334_ok (N : Nat) : FOK Tryz.prog (334) (T334 N) :=
  (fn_ok2 ownT mix (tab334_ok N) Tryz.func334 s334 w334 [] (cuts := []) trivial (fun _ => by kernel_rfl) (by decide +kernel) (F334 N) (fun x => by kernel_rfl))
@[reducible] def s312 : SP := ⟨[.int .u64], []⟩
noncomputable def tab312 (N : Nat) : List (Nat × (Pk → Tr Pk)) := [(334, T334 N)]
theorem tab312_ok (N : Nat) : TabOK Tryz.prog (tab312 N) := ⟨T334_ok N, trivial⟩
@[reducible] def w312 : List SP := [⟨[.int .u64], []⟩]
noncomputable def F312 (N : Nat) : (Int) → Option (Int)
  | x0 =>
  Option.bind (F334 N (IntKind.wrap IntKind.u64 (↑(BitVec.toNat (BitVec.ofInt (64 : Nat) (IntKind.wrap IntKind.u64 (↑(BitVec.toNat (BitVec.ofInt (64 : Nat) (Int.fdiv (IntKind.wrap IntKind.u64 (↑(BitVec.toNat (BitVec.ofInt (64 : Nat) (IntKind.wrap IntKind.u64 (↑(BitVec.toNat (BitVec.ofInt (64 : Nat) (Int.fdiv (IntKind.wrap IntKind.u64 (↑(BitVec.toNat (BitVec.ofInt (64 : Nat) (IntKind.wrap IntKind.u64 (↑(BitVec.toNat (BitVec.ofInt (64 : Nat) (Int.fdiv x0 (2 : Int)) &&& BitVec.ofInt (64 : Nat) (6148914691236517205 : Int))) : Int)) ||| BitVec.ofInt (64 : Nat) (IntKind.wrap IntKind.u64 (IntKind.wrap IntKind.u64 (↑(BitVec.toNat (BitVec.ofInt (64 : Nat) x0 &&& BitVec.ofInt (64 : Nat) (6148914691236517205 : Int))) : Int) * (2 : Int))))) : Int)) (4 : Int)) &&& BitVec.ofInt (64 : Nat) (3689348814741910323 : Int))) : Int)) ||| BitVec.ofInt (64 : Nat) (IntKind.wrap IntKind.u64 (IntKind.wrap IntKind.u64 (↑(BitVec.toNat (BitVec.ofInt (64 : Nat) (IntKind.wrap IntKind.u64 (↑(BitVec.toNat (BitVec.ofInt (64 : Nat) (IntKind.wrap IntKind.u64 (↑(BitVec.toNat (BitVec.ofInt (64 : Nat) (Int.fdiv x0 (2 : Int)) &&& BitVec.ofInt (64 : Nat) (6148914691236517205 : Int))) : Int)) ||| BitVec.ofInt (64 : Nat) (IntKind.wrap IntKind.u64 (IntKind.wrap IntKind.u64 (↑(BitVec.toNat (BitVec.ofInt (64 : Nat) x0 &&& BitVec.ofInt (64 : Nat) (6148914691236517205 : Int))) : Int) * (2 : Int))))) : Int)) &&& BitVec.ofInt (64 : Nat) (3689348814741910323 : Int))) : Int) * (4 : Int))))) : Int)) (16 : Int)) &&& BitVec.ofInt (64 : Nat) (1085102592571150095 : Int))) : Int)) ||| BitVec.ofInt (64 : Nat) (IntKind.wrap IntKind.u64 (IntKind.wrap IntKind.u64 (↑(BitVec.toNat (BitVec.ofInt (64 : Nat) (IntKind.wrap IntKind.u64 (↑(BitVec.toNat (BitVec.ofInt (64 : Nat) (IntKind.wrap IntKind.u64 (↑(BitVec.toNat (BitVec.ofInt (64 : Nat) (Int.fdiv (IntKind.wrap IntKind.u64 (↑(BitVec.toNat (BitVec.ofInt (64 : Nat) (IntKind.wrap IntKind.u64 (↑(BitVec.toNat (BitVec.ofInt (64 : Nat) (Int.fdiv x0 (2 : Int)) &&& BitVec.ofInt (64 : Nat) (6148914691236517205 : Int))) : Int)) ||| BitVec.ofInt (64 : Nat) (IntKind.wrap IntKind.u64 (IntKind.wrap IntKind.u64 (↑(BitVec.toNat (BitVec.ofInt (64 : Nat) x0 &&& BitVec.ofInt (64 : Nat) (6148914691236517205 : Int))) : Int) * (2 : Int))))) : Int)) (4 : Int)) &&& BitVec.ofInt (64 : Nat) (3689348814741910323 : Int))) : Int)) ||| BitVec.ofInt (64 : Nat) (IntKind.wrap IntKind.u64 (IntKind.wrap IntKind.u64 (↑(BitVec.toNat (BitVec.ofInt (64 : Nat) (IntKind.wrap IntKind.u64 (↑(BitVec.toNat (BitVec.ofInt (64 : Nat) (IntKind.wrap IntKind.u64 (↑(BitVec.toNat (BitVec.ofInt (64 : Nat) (Int.fdiv x0 (2 : Int)) &&& BitVec.ofInt (64 : Nat) (6148914691236517205 : Int))) : Int)) ||| BitVec.ofInt (64 : Nat) (IntKind.wrap IntKind.u64 (IntKind.wrap IntKind.u64 (↑(BitVec.toNat (BitVec.ofInt (64 : Nat) x0 &&& BitVec.ofInt (64 : Nat) (6148914691236517205 : Int))) : Int) * (2 : Int))))) : Int)) &&& BitVec.ofInt (64 : Nat) (3689348814741910323 : Int))) : Int) * (4 : Int))))) : Int)) &&& BitVec.ofInt (64 : Nat) (1085102592571150095 : Int))) : Int) * (16 : Int))))) : Int))) fun y0 =>
  some (y0)
noncomputable def T312 (N : Nat) : Pk → Tr Pk := tellS s312 w312 (F312 N)
theorem T312_ok (N : Nat) : FOK Tryz.prog (312) (T312 N) :=
  (fn_ok2 ownT mix (tab312_ok N) Tryz.func312 s312 w312 [] (cuts := []) trivial (fun _ => by kernel_rfl) (by decide +kernel) (F312 N) (fun x => by kernel_rfl))
@[reducible] def s270 : SP := ⟨[.agg [.int .i64, .int .i64]], []⟩
noncomputable def tab270 (N : Nat) : List (Nat × (Pk → Tr Pk)) := [(310, T310 N), (311, T311 N), (312, T312 N)]
theorem tab270_ok (N : Nat) : TabOK Tryz.prog (tab270 N) := ⟨T310_ok N, T311_ok N, T312_ok N, trivial⟩
@[reducible] def w270 : List SP := [⟨[.int .i64], []⟩]
noncomputable def F270 (N : Nat) : (Int × Int) → Option (Int)
  | (x0, x1) =>
  Option.bind (F310 N x1) fun y0 =>
  Option.bind (F311 N (y0, x0)) fun y1 =>
  Option.bind (F312 N (IntKind.wrap IntKind.u64 y1)) fun y2 =>
  iteP (decide (IntKind.wrap IntKind.i64 ((64 : Int) - y0) < (0 : Int))) (
    none ) (
    some (IntKind.wrap IntKind.i64 (Int.fdiv y2 ((2 : Int) ^ min (Int.toNat (IntKind.wrap IntKind.i64 ((64 : Int) - y0))) (64 : Nat)))))
noncomputable def T270 (N : Nat) : Pk → Tr Pk := tellS s270 w270 (F270 N)
theorem T270_ok (N : Nat) : FOK Tryz.prog (270) (T270 N) :=
  (fn_ok2 ownT mix (tab270_ok N) Tryz.func270 s270 w270 [] (cuts := []) trivial (fun _ => by kernel_rfl) (by decide +kernel) (F270 N) (fun x => by kernel_rfl))
@[reducible] def s269 : SP := ⟨[.adr 0 [], .int .i64, .int .i64], [.var 221 (.agg [.sl 1, .int .i64, .int .i64]), .row (.int .u8) 5]⟩
noncomputable def tab269 (N : Nat) : List (Nat × (Pk → Tr Pk)) := [(310, T310 N), (311, T311 N)]
theorem tab269_ok (N : Nat) : TabOK Tryz.prog (tab269 N) := ⟨T310_ok N, T311_ok N, trivial⟩
@[reducible] def L269_30 : LD := ⟨30, [0], [(.exit 0, [])], ⟨[.adr 0 []], [.var 221 (.agg [.sl 1, .int .i64, .int .i64]), .row (.int .u8) 5]⟩, [(.exit 0, ⟨[], [.var 221 (.agg [.sl 1, .int .i64, .int .i64]), .row (.int .u8) 5]⟩)]⟩
abbrev P269_30 : Type := Int × Int × (List Int)
abbrev R269_30 : Type := Int × Int × (List Int)
noncomputable def B269_30 (N : Nat) (f : P269_30 → Option R269_30) : P269_30 → Option R269_30
  | (x0, x1, x2) =>
  iteP (decide (x1 ≥ (8 : Int))) (
    iteP (decide ((List.length x2 + List.length [IntKind.wrap IntKind.u8 x0]) * (1 : Nat) ≤ (140737488355328 : Nat) ∧ List.length x2 + List.length [IntKind.wrap IntKind.u8 x0] ≤ (140737488355328 : Nat))) (
      Option.bind (f (Int.fdiv x0 (256 : Int), IntKind.wrap IntKind.i64 (x1 - (8 : Int)), x2 ++ [IntKind.wrap IntKind.u8 x0])) fun r => some r) (
      none )) (
    some ((x0, x1, x2)))
noncomputable def F269_30 (N : Nat) : Nat → P269_30 → Option R269_30
  | 0, _ => none
  | k + 1, x => B269_30 N (F269_30 N k) x
noncomputable def C269_30 (N : Nat) (k : Nat) : Cut := L269_30.cut (F269_30 N k)
theorem C269_30_ok (N : Nat) (k : Nat) : CutAt Tryz.prog false Tryz.f269 [0] 30 (C269_30 N k) :=
  L269_30.loopT ownT mix (tab269_ok N) Tryz.f269 [0] (cuts := []) trivial (by decide +kernel) (by kernel_rfl) (B269_30 N) (F269_30 N) (fun _ => rfl) (fun _ _ => rfl) (fun f x => by kernel_rfl) k
@[reducible] def w269 : List SP := [⟨[.tup []], [.var 221 (.agg [.sl 1, .int .i64, .int .i64]), .row (.int .u8) 5]⟩]
noncomputable def F269 (N : Nat) : (Int × Int × Int × Int × (List Int)) → Option (Int × Int × (List Int))
  | (x0, x1, x2, x3, x4) =>
  Option.bind (F310 N x0) fun y0 =>
  Option.bind (F311 N (y0, x1)) fun y1 =>
  iteP (decide (x3 < (0 : Int))) (
    none ) (
    Option.bind (F269_30 N N (IntKind.wrap IntKind.i64 (↑(BitVec.toNat (BitVec.ofInt (64 : Nat) x2 ||| BitVec.ofInt (64 : Nat) (IntKind.wrap IntKind.i64 (y1 * (2 : Int) ^ min (Int.toNat x3) (64 : Nat))))) : Int), IntKind.wrap IntKind.i64 (x3 + y0), x4)) fun y2 =>
    some ((y2.1, y2.2.1, y2.2.2)))
noncomputable def T269 (N : Nat) : Pk → Tr Pk := tellS s269 w269 (F269 N)
theorem T269_ok (N : Nat) : FOK Tryz.prog (269) (T269 N) :=
  (fn_ok2 ownT mix (tab269_ok N) Tryz.func269 s269 w269 [0] (cuts := [(30, C269_30 N N)]) ⟨C269_30_ok N N, trivial⟩ (fun _ => by kernel_rfl) (by decide +kernel) (F269 N) (fun x => by kernel_rfl))
@[reducible] def s222 : SP := ⟨[.adr 0 [], .agg [.int .i64, .int .i64]], [.var 221 (.agg [.sl 1, .int .i64, .int .i64]), .row (.int .u8) 5]⟩
noncomputable def tab222 (N : Nat) : List (Nat × (Pk → Tr Pk)) := [(270, T270 N), (269, T269 N)]
theorem tab222_ok (N : Nat) : TabOK Tryz.prog (tab222 N) := ⟨T270_ok N, T269_ok N, trivial⟩
@[reducible] def w222 : List SP := [⟨[.tup []], [.var 221 (.agg [.sl 1, .int .i64, .int .i64]), .row (.int .u8) 5]⟩]
noncomputable def F222 (N : Nat) : (Int × Int × Int × Int × (List Int)) → Option (Int × Int × (List Int))
  | (x0, x1, x2, x3, x4) =>
  Option.bind (F270 N (x0, x1)) fun y0 =>
  Option.bind (F269 N (x1, y0, x2, x3, x4)) fun y1 =>
  some ((y1.1, y1.2.1, y1.2.2))
noncomputable def T222 (N : Nat) : Pk → Tr Pk := tellS s222 w222 (F222 N)
theorem T222_ok (N : Nat) : FOK Tryz.prog (222) (T222 N) :=
  (fn_ok2 ownT mix (tab222_ok N) Tryz.func222 s222 w222 [0] (cuts := []) trivial (fun _ => by kernel_rfl) (by decide +kernel) (F222 N) (fun x => by kernel_rfl))
@[reducible] def s223 : SP := ⟨[.adr 0 []], [.var 221 (.agg [.sl 1, .int .i64, .int .i64]), .row (.int .u8) 5]⟩
noncomputable def tab223 (N : Nat) : List (Nat × (Pk → Tr Pk)) := [(269, T269 N)]
theorem tab223_ok (N : Nat) : TabOK Tryz.prog (tab223 N) := ⟨T269_ok N, trivial⟩
@[reducible] def w223 : List SP := [⟨[.tup []], [.var 221 (.agg [.sl 1, .int .i64, .int .i64]), .row (.int .u8) 5]⟩]
noncomputable def F223 (N : Nat) : (Int × Int × (List Int)) → Option (Int × Int × (List Int))
  | (x0, x1, x2) =>
  Option.bind (F269 N (Int.tmod (IntKind.wrap IntKind.i64 ((8 : Int) - x1)) (8 : Int), (0 : Int), x0, x1, x2)) fun y0 =>
  some ((y0.1, y0.2.1, y0.2.2))
noncomputable def T223 (N : Nat) : Pk → Tr Pk := tellS s223 w223 (F223 N)
theorem T223_ok (N : Nat) : FOK Tryz.prog (223) (T223 N) :=
  (fn_ok2 ownT mix (tab223_ok N) Tryz.func223 s223 w223 [0] (cuts := []) trivial (fun _ => by kernel_rfl) (by decide +kernel) (F223 N) (fun x => by kernel_rfl))
@[reducible] def y2 : Ty := (.cons (.sl (.int .u8)) (.cons (.int .i64) (.cons (.int .i64) .unit)))
@[reducible] def s193 : SP := ⟨[.radr y2 [.i 0 3]], []⟩
noncomputable def tab193 (N : Nat) : List (Nat × (Pk → Tr Pk)) := []
theorem tab193_ok (N : Nat) : TabOK Tryz.prog (tab193 N) := trivial
@[reducible] def w193 : List SP := [⟨[.str], []⟩]
noncomputable def F193 (N : Nat) : (((List Int) × (Int × (Int × Unit)))) → Option (ByteArray)
  | x0 =>
  iteP (decide (x0.2.2.1 > (0 : Int))) (
    iteP (decide ((↑(ByteArray.size (stringOf x0.1) + ByteArray.size (stringOf [IntKind.wrap IntKind.u8 x0.2.1])) : Int) > (9223372036854775807 : Int))) (
      none ) (
      some (stringOf x0.1 ++ stringOf [IntKind.wrap IntKind.u8 x0.2.1]))) (
    some (stringOf x0.1))
noncomputable def T193 (N : Nat) : Pk → Tr Pk := tellS s193 w193 (F193 N)
theorem T193_ok (N : Nat) : FOK Tryz.prog (193) (T193 N) :=
  (fn_ok2 ownT mix (tab193_ok N) Tryz.func193 s193 w193 [] (cuts := []) trivial (fun _ => by kernel_rfl) (by decide +kernel) (F193 N) (fun x => by kernel_rfl))
@[reducible] def s224 : SP := ⟨[.str], []⟩
noncomputable def tab224 (N : Nat) : List (Nat × (Pk → Tr Pk)) := [(270, T270 N)]
theorem tab224_ok (N : Nat) : TabOK Tryz.prog (tab224 N) := ⟨T270_ok N, trivial⟩
@[reducible] def L224_58 : LD := ⟨58, [10, 9, 8, 3], [(.ret, [2]), (.exit 0, [3])], ⟨[.int .i64, .int .i64, .sl 0, .sl 0], [.row (.int .u8) 5]⟩, [(.exit 0, ⟨[.sl 0], [.row (.int .u8) 5]⟩)]⟩
abbrev P224_58 : Type := Int × Int × (List Int)
abbrev R224_58 : Type := (List Int)
noncomputable def B224_58 (N : Nat) (f : P224_58 → Option R224_58) : P224_58 → Option R224_58
  | (x0, x1, x2) =>
  iteP (decide (x0 < x1)) (
    iteP (within x0 (List.length x2)) (
      Option.bind (x2[Int.toNat x0]?) fun y0 =>
      Option.bind (F270 N (IntKind.wrap IntKind.i64 y0, (8 : Int))) fun y1 =>
      iteP (within x0 (List.length x2)) (
        Option.bind (x2[Int.toNat x0]?) fun y2 =>
        Option.bind (f (IntKind.wrap IntKind.i64 (x0 + (1 : Int)), x1, List.set x2 (Int.toNat x0) (IntKind.wrap IntKind.u8 y1))) fun r => some r) (
        none )) (
      none )) (
    some (x2))
noncomputable def F224_58 (N : Nat) : Nat → P224_58 → Option R224_58
  | 0, _ => none
  | k + 1, x => B224_58 N (F224_58 N k) x
noncomputable def C224_58 (N : Nat) (k : Nat) : Cut := L224_58.cut (F224_58 N k)
theorem C224_58_ok (N : Nat) (k : Nat) : CutAt Tryz.prog false Tryz.f224 [] 58 (C224_58 N k) :=
  L224_58.loopT ownT mix (tab224_ok N) Tryz.f224 [] (cuts := []) trivial (by decide +kernel) (by kernel_rfl) (B224_58 N) (F224_58 N) (fun _ => rfl) (fun _ _ => rfl) (fun f x => by kernel_rfl) k
@[reducible] def w224 : List SP := [⟨[.str], []⟩]
noncomputable def F224 (N : Nat) : (ByteArray) → Option (ByteArray)
  | x0 =>
  iteP (decide (ByteArray.size x0 ≤ (140737488355328 : Nat))) (
    Option.bind (F224_58 N N ((0 : Int), (↑(List.length (bytesOf x0)) : Int), bytesOf x0)) fun y0 =>
    some (stringOf y0)) (
    none )
noncomputable def T224 (N : Nat) : Pk → Tr Pk := tellS s224 w224 (F224 N)
theorem T224_ok (N : Nat) : FOK Tryz.prog (224) (T224 N) :=
  (fn_ok2 ownT mix (tab224_ok N) Tryz.func224 s224 w224 [] (cuts := [(58, C224_58 N N)]) ⟨C224_58_ok N N, trivial⟩ (fun _ => by kernel_rfl) (by decide +kernel) (F224 N) (fun x => by kernel_rfl))
@[reducible] def s158 : SP := ⟨[.agg [.agg [.int .i64, .int .i64, .bool, .bool, .int .i64, .int .i64, .int .i64, .int .i64, .int .i64, .int .i64]], .ro (.int .i64), .int .i64, .adr 0 []], [.var 200 (.agg [.sl 1, .mp 2]), .row (.int .i64) 3, .map (.int .i64) (.int .i64)]⟩
noncomputable def tab158 (N : Nat) : List (Nat × (Pk → Tr Pk)) := [(211, T211 N), (153, T153 N), (222, T222 N), (223, T223 N), (154, T154 N), (155, T155 N), (193, T193 N), (224, T224 N)]
theorem tab158_ok (N : Nat) : TabOK Tryz.prog (tab158 N) := ⟨T211_ok N, T153_ok N, T222_ok N, T223_ok N, T154_ok N, T155_ok N, T193_ok N, T224_ok N, trivial⟩
@[reducible] def L158_32034 : LD := ⟨32034, [36, 35, 2, 1, 9, 4, 12, 34, 3, 10, 11], [(.ret, [8]), (.exit 2, [12, 4, 9, 1, 2, 3, 10, 11]), (.exit 1, [12, 4, 9, 1, 2, 3, 10, 11]), (.exit 0, [9, 4, 3, 11])], ⟨[.int .i64, .int .i64, .int .i64, .ro (.int .i64), .int .i64, .adr 1 [], .int .i64, .ro (.int .i64), .adr 0 [], .int .i64, .adr 2 []], [.var 200 (.agg [.sl 3, .mp 4]), .var 140 (.agg [.agg [.int .i64, .int .i64, .bool, .bool, .int .i64, .int .i64, .int .i64, .int .i64, .int .i64, .int .i64]]), .var 221 (.agg [.sl 5, .int .i64, .int .i64]), .row (.int .i64) 3, .map (.int .i64) (.int .i64), .row (.int .u8) 5]⟩, [(.exit 2, ⟨[.int .i64, .adr 1 [], .int .i64, .ro (.int .i64), .int .i64, .adr 0 [], .int .i64, .adr 2 []], [.var 200 (.agg [.sl 3, .mp 4]), .var 140 (.agg [.agg [.int .i64, .int .i64, .bool, .bool, .int .i64, .int .i64, .int .i64, .int .i64, .int .i64, .int .i64]]), .var 221 (.agg [.sl 5, .int .i64, .int .i64]), .row (.int .i64) 3, .map (.int .i64) (.int .i64), .row (.int .u8) 5]⟩)]⟩
abbrev P158_32034 : Type := Int × Int × Int × (List Int) × Int × Int × (List Int) × Int × Int × Int × Bool × Bool × Int × Int × Int × Int × Int × Int × Int × Int × (List Int) × (List (Int × Int)) × (List Int)
abbrev R158_32034 : Type := Int × Int × (List Int) × Int × Int × Int × Int × Bool × Bool × Int × Int × Int × Int × Int × Int × Int × Int × (List Int) × (List (Int × Int)) × (List Int)
noncomputable def B158_32034 (N : Nat) (f : P158_32034 → Option R158_32034) : P158_32034 → Option R158_32034
  | (x0, x1, x2, x3, x4, x5, x6, x7, x8, x9, x10, x11, x12, x13, x14, x15, x16, x17, x18, x19, x20, x21, x22) =>
  iteP (decide (x0 < x1)) (
    iteP (within x0 (List.length x6)) (
      Option.bind (x6[Int.toNat x0]?) fun y0 =>
      Option.bind (F153 N (y0, x20, x21)) fun y1 =>
      Option.bind (F222 N (y1.1, x7, x18, x19, x22)) fun y2 =>
      Option.bind (f (IntKind.wrap IntKind.i64 (x0 + (1 : Int)), x1, x2, x3, x4, x5, x6, x7, x8, x9, x10, x11, x12, x13, x14, x15, x16, x17, y2.1, y2.2.1, y1.2.1, y1.2.2, y2.2.2)) fun r => some r) (
      none )) (
    some ((x5, x4, x3, x2, x7, x8, x9, x10, x11, x12, x13, x14, x15, x16, x17, x18, x19, x20, x21, x22)))
noncomputable def F158_32034 (N : Nat) : Nat → P158_32034 → Option R158_32034
  | 0, _ => none
  | k + 1, x => B158_32034 N (F158_32034 N k) x
noncomputable def C158_32034 (N : Nat) (k : Nat) : Cut := L158_32034.cut (F158_32034 N k)
theorem C158_32034_ok (N : Nat) (k : Nat) : CutAt Tryz.prog false Tryz.f158 [0] 32034 (C158_32034 N k) :=
  L158_32034.loopT ownT mix (tab158_ok N) Tryz.f158 [0] (cuts := []) trivial (by decide +kernel) (by kernel_rfl) (B158_32034 N) (F158_32034 N) (fun _ => rfl) (fun _ _ => rfl) (fun f x => by kernel_rfl) k
@[reducible] def L158_250 : LD := ⟨250, [4, 9, 1, 2, 12, 3, 10, 11], [(.ret, [8]), (.exit 0, [9, 4, 3, 11])], ⟨[.adr 1 [], .int .i64, .ro (.int .i64), .int .i64, .int .i64, .adr 0 [], .int .i64, .adr 2 []], [.var 200 (.agg [.sl 3, .mp 4]), .var 140 (.agg [.agg [.int .i64, .int .i64, .bool, .bool, .int .i64, .int .i64, .int .i64, .int .i64, .int .i64, .int .i64]]), .var 221 (.agg [.sl 5, .int .i64, .int .i64]), .row (.int .i64) 3, .map (.int .i64) (.int .i64), .row (.int .u8) 5]⟩, [(.exit 0, ⟨[.int .i64, .adr 1 [], .adr 0 [], .adr 2 []], [.var 200 (.agg [.sl 3, .mp 4]), .var 140 (.agg [.agg [.int .i64, .int .i64, .bool, .bool, .int .i64, .int .i64, .int .i64, .int .i64, .int .i64, .int .i64]]), .var 221 (.agg [.sl 5, .int .i64, .int .i64]), .row (.int .i64) 3, .map (.int .i64) (.int .i64), .row (.int .u8) 5]⟩)]⟩
abbrev P158_250 : Type := Int × (List Int) × Int × Int × Int × Int × Int × Bool × Bool × Int × Int × Int × Int × Int × Int × Int × Int × (List Int) × (List (Int × Int)) × (List Int)
abbrev R158_250 : Type := Int × Int × Int × Bool × Bool × Int × Int × Int × Int × Int × Int × Int × Int × (List Int) × (List (Int × Int)) × (List Int)
noncomputable def B158_250 (N : Nat) (f : P158_250 → Option R158_250) : P158_250 → Option R158_250
  | (x0, x1, x2, x3, x4, x5, x6, x7, x8, x9, x10, x11, x12, x13, x14, x15, x16, x17, x18, x19) =>
  iteP (decide (x3 < (↑(List.length x1) : Int))) (
    iteP (decide ((0 : Int) ≤ IntKind.wrap IntKind.i64 (x3 + x2) ∧ IntKind.wrap IntKind.i64 (x3 + x2) ≤ (↑(List.length x1) : Int))) (
      iteP (decide ((0 : Int) ≤ x3 ∧ x3 ≤ (↑(Int.toNat (IntKind.wrap IntKind.i64 (x3 + x2))) : Int))) (
        Option.bind (F158_32034 N N ((0 : Int), (↑(List.length (List.take (Int.toNat (IntKind.wrap IntKind.i64 (x3 + x2)) - Int.toNat x3) (List.drop (Int.toNat x3) x1))) : Int), x2, x1, x0, x3, List.take (Int.toNat (IntKind.wrap IntKind.i64 (x3 + x2)) - Int.toNat x3) (List.drop (Int.toNat x3) x1), x4, x5, x6, x7, x8, x9, x10, x11, x12, x13, x14, x15, x16, x17, x18, x19)) fun (y0_0, y0_1, y0_2, y0_3, y0_4, y0_5, y0_6, y0_7, y0_8, y0_9, y0_10, y0_11, y0_12, y0_13, y0_14, y0_15, y0_16, y0_17, y0_18, y0_19) =>
        Option.bind (F223 N (y0_15, y0_16, y0_19)) fun y1 =>
        Option.bind (f (y0_1, y0_2, y0_3, IntKind.wrap IntKind.i64 (y0_0 + y0_3), y0_4, y0_5, y0_6, y0_7, y0_8, y0_9, y0_10, y0_11, y0_12, y0_13, y0_14, y1.1, y1.2.1, y0_17, y0_18, y1.2.2)) fun r => some r) (
        none )) (
      none )) (
    some ((x0, x5, x6, x7, x8, x9, x10, x11, x12, x13, x14, x15, x16, x17, x18, x19)))
noncomputable def F158_250 (N : Nat) : Nat → P158_250 → Option R158_250
  | 0, _ => none
  | k + 1, x => B158_250 N (F158_250 N k) x
noncomputable def C158_250 (N : Nat) (k : Nat) : Cut := L158_250.cut (F158_250 N k)
theorem C158_250_ok (N : Nat) (k : Nat) : CutAt Tryz.prog false Tryz.f158 [0] 250 (C158_250 N k) :=
  L158_250.loopT ownT mix (tab158_ok N) Tryz.f158 [0] (cuts := [(32034, C158_32034 N N)]) ⟨C158_32034_ok N N, trivial⟩ (by decide +kernel) (by kernel_rfl) (B158_250 N) (F158_250 N) (fun _ => rfl) (fun _ _ => rfl) (fun f x => by kernel_rfl) k
@[reducible] def w158 : List SP := [⟨[.str], [.var 200 (.agg [.sl 1, .mp 2]), .row (.int .i64) 3, .map (.int .i64) (.int .i64)]⟩]
noncomputable def F158 (N : Nat) : (Int × Int × Bool × Bool × Int × Int × Int × Int × Int × Int × (List Int) × Int × (List Int) × (List (Int × Int))) → Option (ByteArray × (List Int) × (List (Int × Int)))
  | (x0, x1, x2, x3, x4, x5, x6, x7, x8, x9, x10, x11, x12, x13) =>
  Option.bind (F211 N (↑(List.length x12) : Int)) fun y0 =>
  Option.bind (F158_250 N N ((↑(List.length x12) : Int), x10, x11, (0 : Int), y0, x0, x1, x2, x3, x4, x5, x6, x7, x8, x9, (0 : Int), (0 : Int), x12, x13, [])) fun (y1_0, y1_1, y1_2, y1_3, y1_4, y1_5, y1_6, y1_7, y1_8, y1_9, y1_10, y1_11, y1_12, y1_13, y1_14, y1_15) =>
  Option.bind (F154 N y1_0) fun y2 =>
  Option.bind (F155 N (y1_1, y1_2, y1_3, y1_4, y1_5, y1_6, y1_7, y1_8, y1_9, y1_10, y1_13)) fun y3 =>
  iteP (decide ((↑(ByteArray.size y2 + ByteArray.size y3) : Int) > (9223372036854775807 : Int))) (
    none ) (
    Option.bind (F193 N (y1_15, y1_11, y1_12, ())) fun y4 =>
    Option.bind (F224 N y4) fun y5 =>
    iteP (decide ((↑(ByteArray.size (y2 ++ y3) + ByteArray.size y5) : Int) > (9223372036854775807 : Int))) (
      none ) (
      some ((y2 ++ y3 ++ y5, y1_13, y1_14))))
noncomputable def T158 (N : Nat) : Pk → Tr Pk := tellS s158 w158 (F158 N)
theorem T158_ok (N : Nat) : FOK Tryz.prog (158) (T158 N) :=
  (fn_ok2 ownT mix (tab158_ok N) Tryz.func158 s158 w158 [0] (cuts := [(32034, C158_32034 N N), (250, C158_250 N N)]) ⟨C158_32034_ok N N, C158_250_ok N N, trivial⟩ (fun _ => by kernel_rfl) (by decide +kernel) (F158 N) (fun x => by kernel_rfl))
@[reducible] def s159 : SP := ⟨[.agg [.agg [.int .i64, .int .i64, .bool, .bool, .int .i64, .int .i64, .int .i64, .int .i64, .int .i64, .int .i64]], .ro y0, .adr 0 []], [.var 200 (.agg [.sl 1, .mp 2]), .row (.int .i64) 3, .map (.int .i64) (.int .i64)]⟩
noncomputable def tab159 (N : Nat) : List (Nat × (Pk → Tr Pk)) := [(154, T154 N), (155, T155 N), (153, T153 N), (221, T221 N)]
theorem tab159_ok (N : Nat) : TabOK Tryz.prog (tab159 N) := ⟨T154_ok N, T155_ok N, T153_ok N, T221_ok N, trivial⟩
@[reducible] def L159_58 : LD := ⟨58, [7, 27, 26, 25, 2], [(.ret, [6]), (.exit 0, [7])], ⟨[.str, .int .i64, .int .i64, .ro y0, .adr 0 []], [.var 200 (.agg [.sl 1, .mp 2]), .row (.int .i64) 3, .map (.int .i64) (.int .i64)]⟩, [(.exit 0, ⟨[.str], [.var 200 (.agg [.sl 1, .mp 2]), .row (.int .i64) 3, .map (.int .i64) (.int .i64)]⟩)]⟩
abbrev P159_58 : Type := ByteArray × Int × Int × (List (Int × (Int × Unit))) × (List Int) × (List (Int × Int))
abbrev R159_58 : Type := ByteArray × (List Int) × (List (Int × Int))
noncomputable def B159_58 (N : Nat) (f : P159_58 → Option R159_58) : P159_58 → Option R159_58
  | (x0, x1, x2, x3, x4, x5) =>
  iteP (decide (x1 < x2)) (
    iteP (within x1 (List.length x3)) (
      Option.bind (x3[Int.toNat x1]?) fun y0 =>
      Option.bind (F153 N (y0.1, x4, x5)) fun y1 =>
      iteP (y0.2.1 == (1 : Int)) (
        Option.bind (F154 N y1.1) fun y2 =>
        iteP (decide ((↑(ByteArray.size x0 + ByteArray.size y2) : Int) > (9223372036854775807 : Int))) (
          none ) (
          Option.bind (f (x0 ++ y2, IntKind.wrap IntKind.i64 (x1 + (1 : Int)), x2, x3, y1.2.1, y1.2.2)) fun r => some r)) (
        Option.bind (F154 N (IntKind.wrap IntKind.i64 (↑(BitVec.toNat (BitVec.ofInt (64 : Nat) (128 : Int) ||| BitVec.ofInt (64 : Nat) y1.1)) : Int))) fun y3 =>
        Option.bind (F221 N y0.2.1) fun y4 =>
        iteP (decide ((↑(ByteArray.size y3 + ByteArray.size y4) : Int) > (9223372036854775807 : Int))) (
          none ) (
          iteP (decide ((↑(ByteArray.size x0 + ByteArray.size (y3 ++ y4)) : Int) > (9223372036854775807 : Int))) (
            none ) (
            Option.bind (f (x0 ++ (y3 ++ y4), IntKind.wrap IntKind.i64 (x1 + (1 : Int)), x2, x3, y1.2.1, y1.2.2)) fun r => some r)))) (
      none )) (
    some ((x0, x4, x5)))
noncomputable def F159_58 (N : Nat) : Nat → P159_58 → Option R159_58
  | 0, _ => none
  | k + 1, x => B159_58 N (F159_58 N k) x
noncomputable def C159_58 (N : Nat) (k : Nat) : Cut := L159_58.cut (F159_58 N k)
theorem C159_58_ok (N : Nat) (k : Nat) : CutAt Tryz.prog false Tryz.f159 [0] 58 (C159_58 N k) :=
  L159_58.loopT ownT mix (tab159_ok N) Tryz.f159 [0] (cuts := []) trivial (by decide +kernel) (by kernel_rfl) (B159_58 N) (F159_58 N) (fun _ => rfl) (fun _ _ => rfl) (fun f x => by kernel_rfl) k
@[reducible] def w159 : List SP := [⟨[.str], [.var 200 (.agg [.sl 1, .mp 2]), .row (.int .i64) 3, .map (.int .i64) (.int .i64)]⟩]
noncomputable def F159 (N : Nat) : (Int × Int × Bool × Bool × Int × Int × Int × Int × Int × Int × (List (Int × (Int × Unit))) × (List Int) × (List (Int × Int))) → Option (ByteArray × (List Int) × (List (Int × Int)))
  | (x0, x1, x2, x3, x4, x5, x6, x7, x8, x9, x10, x11, x12) =>
  Option.bind (F154 N (IntKind.wrap IntKind.i64 ((128 : Int) + (↑(List.length x11) : Int)))) fun y0 =>
  Option.bind (F155 N (x0, x1, x2, x3, x4, x5, x6, x7, x8, x9, x11)) fun y1 =>
  iteP (decide ((↑(ByteArray.size y0 + ByteArray.size y1) : Int) > (9223372036854775807 : Int))) (
    none ) (
    Option.bind (F159_58 N N (y0 ++ y1, (0 : Int), (↑(List.length x10) : Int), x10, x11, x12)) fun y2 =>
    some ((y2.1, y2.2.1, y2.2.2)))
noncomputable def T159 (N : Nat) : Pk → Tr Pk := tellS s159 w159 (F159 N)
theorem T159_ok (N : Nat) : FOK Tryz.prog (159) (T159 N) :=
  (fn_ok2 ownT mix (tab159_ok N) Tryz.func159 s159 w159 [0] (cuts := [(58, C159_58 N N)]) ⟨C159_58_ok N N, trivial⟩ (fun _ => by kernel_rfl) (by decide +kernel) (F159 N) (fun x => by kernel_rfl))
@[reducible] def s92 : SP := ⟨[.agg [.agg [.int .i64, .int .i64, .bool, .bool, .int .i64, .int .i64, .int .i64, .int .i64, .int .i64, .int .i64]], .ro (.int .i64), .int .i64], []⟩
noncomputable def tab92 (N : Nat) : List (Nat × (Pk → Tr Pk)) := [(153, T153 N), (154, T154 N), (155, T155 N), (156, T156 N), (157, T157 N), (158, T158 N), (159, T159 N)]
theorem tab92_ok (N : Nat) : TabOK Tryz.prog (tab92 N) := ⟨T153_ok N, T154_ok N, T155_ok N, T156_ok N, T157_ok N, T158_ok N, T159_ok N, trivial⟩
@[reducible] def L92_58 : LD := ⟨58, [21, 20, 3, 1, 2, 19, 7], [(.ret, [6]), (.exit 0, [2, 1, 3, 7])], ⟨[.int .i64, .int .i64, .adr 0 [], .ro (.int .i64), .int .i64, .ro (.int .i64), .adr 1 []], [.var 140 (.agg [.agg [.int .i64, .int .i64, .bool, .bool, .int .i64, .int .i64, .int .i64, .int .i64, .int .i64, .int .i64]]), .var 200 (.agg [.sl 2, .mp 3]), .row (.int .i64) 3, .map (.int .i64) (.int .i64)]⟩, [(.exit 0, ⟨[.int .i64, .ro (.int .i64), .adr 0 [], .adr 1 []], [.var 140 (.agg [.agg [.int .i64, .int .i64, .bool, .bool, .int .i64, .int .i64, .int .i64, .int .i64, .int .i64, .int .i64]]), .var 200 (.agg [.sl 2, .mp 3]), .row (.int .i64) 3, .map (.int .i64) (.int .i64)]⟩)]⟩
abbrev P92_58 : Type := Int × Int × (List Int) × Int × (List Int) × Int × Int × Bool × Bool × Int × Int × Int × Int × Int × Int × (List Int) × (List (Int × Int))
abbrev R92_58 : Type := Int × (List Int) × Int × Int × Bool × Bool × Int × Int × Int × Int × Int × Int × (List Int) × (List (Int × Int))
noncomputable def B92_58 (N : Nat) (f : P92_58 → Option R92_58) : P92_58 → Option R92_58
  | (x0, x1, x2, x3, x4, x5, x6, x7, x8, x9, x10, x11, x12, x13, x14, x15, x16) =>
  iteP (decide (x0 < x1)) (
    iteP (within x0 (List.length x4)) (
      Option.bind (x4[Int.toNat x0]?) fun y0 =>
      Option.bind (F153 N (y0, x15, x16)) fun y1 =>
      Option.bind (f (IntKind.wrap IntKind.i64 (x0 + (1 : Int)), x1, x2, x3, x4, x5, x6, x7, x8, x9, x10, x11, x12, x13, x14, y1.2.1, y1.2.2)) fun r => some r) (
      none )) (
    some ((x3, x2, x5, x6, x7, x8, x9, x10, x11, x12, x13, x14, x15, x16)))
noncomputable def F92_58 (N : Nat) : Nat → P92_58 → Option R92_58
  | 0, _ => none
  | k + 1, x => B92_58 N (F92_58 N k) x
noncomputable def C92_58 (N : Nat) (k : Nat) : Cut := L92_58.cut (F92_58 N k)
theorem C92_58_ok (N : Nat) (k : Nat) : CutAt Tryz.prog false Tryz.f92 [] 58 (C92_58 N k) :=
  L92_58.loopT ownT mix (tab92_ok N) Tryz.f92 [] (cuts := []) trivial (by decide +kernel) (by kernel_rfl) (B92_58 N) (F92_58 N) (fun _ => rfl) (fun _ _ => rfl) (fun f x => by kernel_rfl) k
@[reducible] def L92_16378 : LD := ⟨16378, [13, 79, 78, 77], [(.ret, [6]), (.exit 2, [13])], ⟨[.str, .int .i64, .int .i64, .sl 0], [.row (.str) 9]⟩, [(.exit 2, ⟨[.str], []⟩)]⟩
abbrev P92_16378 : Type := ByteArray × Int × Int × (List ByteArray)
abbrev R92_16378 : Type := ByteArray
noncomputable def B92_16378 (N : Nat) (f : P92_16378 → Option R92_16378) : P92_16378 → Option R92_16378
  | (x0, x1, x2, x3) =>
  iteP (decide (x1 < x2)) (
    iteP (within x1 (List.length x3)) (
      Option.bind (x3[Int.toNat x1]?) fun y0 =>
      iteP (decide ((↑(ByteArray.size y0) : Int) < (↑(ByteArray.size x0) : Int))) (
        Option.bind (f (y0, IntKind.wrap IntKind.i64 (x1 + (1 : Int)), x2, x3)) fun r => some r) (
        Option.bind (f (x0, IntKind.wrap IntKind.i64 (x1 + (1 : Int)), x2, x3)) fun r => some r)) (
      none )) (
    some (x0))
noncomputable def F92_16378 (N : Nat) : Nat → P92_16378 → Option R92_16378
  | 0, _ => none
  | k + 1, x => B92_16378 N (F92_16378 N k) x
noncomputable def C92_16378 (N : Nat) (k : Nat) : Cut := L92_16378.cut (F92_16378 N k)
theorem C92_16378_ok (N : Nat) (k : Nat) : CutAt Tryz.prog false Tryz.f92 [] 16378 (C92_16378 N k) :=
  L92_16378.loopT ownT mix (tab92_ok N) Tryz.f92 [] (cuts := [(58, C92_58 N N)]) ⟨C92_58_ok N N, trivial⟩ (by decide +kernel) (by kernel_rfl) (B92_16378 N) (F92_16378 N) (fun _ => rfl) (fun _ _ => rfl) (fun f x => by kernel_rfl) k
@[reducible] def w92 : List SP := [⟨[.str], []⟩]
noncomputable def F92 (N : Nat) : (Int × Int × Bool × Bool × Int × Int × Int × Int × Int × Int × (List Int) × Int) → Option (ByteArray)
  | (x0, x1, x2, x3, x4, x5, x6, x7, x8, x9, x10, x11) =>
  Option.bind (F92_58 N N ((0 : Int), (↑(List.length x10) : Int), x10, x11, x10, x0, x1, x2, x3, x4, x5, x6, x7, x8, x9, [], [])) fun (y0_0, y0_1, y0_2, y0_3, y0_4, y0_5, y0_6, y0_7, y0_8, y0_9, y0_10, y0_11, y0_12, y0_13) =>
  iteP ((↑(List.length y0_12) : Int) == (1 : Int)) (
    Option.bind (F154 N (1 : Int)) fun y1 =>
    Option.bind (F155 N (y0_2, y0_3, y0_4, y0_5, y0_6, y0_7, y0_8, y0_9, y0_10, y0_11, y0_12)) fun y2 =>
    iteP (decide ((↑(ByteArray.size y1 + ByteArray.size y2) : Int) > (9223372036854775807 : Int))) (
      none ) (
      some (y1 ++ y2))) (
    Option.bind (F156 N y0_1) fun y3 =>
    Option.bind (F154 N (0 : Int)) fun y4 =>
    Option.bind (F155 N (y0_2, y0_3, y0_4, y0_5, y0_6, y0_7, y0_8, y0_9, y0_10, y0_11, y0_1)) fun y5 =>
    iteP (decide ((↑(ByteArray.size y4 + ByteArray.size y5) : Int) > (9223372036854775807 : Int))) (
      none ) (
      Option.bind (F157 N (y0_2, y0_3, y0_4, y0_5, y0_6, y0_7, y0_8, y0_9, y0_10, y0_11, y3)) fun y6 =>
      iteP (decide ((↑(List.length y0_12) : Int) ≤ (16 : Int))) (
        Option.bind (F158 N (y0_2, y0_3, y0_4, y0_5, y0_6, y0_7, y0_8, y0_9, y0_10, y0_11, y0_1, y0_0, y0_12, y0_13)) fun y7 =>
        iteP (decide ((List.length [y4 ++ y5, y6] + List.length [y7.1]) * (16 : Nat) ≤ (140737488355328 : Nat) ∧ List.length [y4 ++ y5, y6] + List.length [y7.1] ≤ (140737488355328 : Nat))) (
          iteP (decide ((↑(List.length y0_12) : Int) < (128 : Int))) (
            Option.bind (F159 N (y0_2, y0_3, y0_4, y0_5, y0_6, y0_7, y0_8, y0_9, y0_10, y0_11, y3, y7.2.1, y7.2.2)) fun y8 =>
            iteP (decide ((List.length [y4 ++ y5, y6, y7.1] + List.length [y8.1]) * (16 : Nat) ≤ (140737488355328 : Nat) ∧ List.length [y4 ++ y5, y6, y7.1] + List.length [y8.1] ≤ (140737488355328 : Nat))) (
              iteP (within (0 : Int) (List.length [y4 ++ y5, y6, y7.1, y8.1])) (
                Option.bind (F92_16378 N N (y4 ++ y5, (0 : Int), (↑(List.length [y4 ++ y5, y6, y7.1, y8.1]) : Int), [y4 ++ y5, y6, y7.1, y8.1])) fun y9 =>
                some (y9)) (
                none )) (
              none )) (
            iteP (within (0 : Int) (List.length [y4 ++ y5, y6, y7.1])) (
              Option.bind (F92_16378 N N (y4 ++ y5, (0 : Int), (↑(List.length [y4 ++ y5, y6, y7.1]) : Int), [y4 ++ y5, y6, y7.1])) fun y10 =>
              some (y10)) (
              none ))) (
          none )) (
        iteP (decide ((↑(List.length y0_12) : Int) < (128 : Int))) (
          Option.bind (F159 N (y0_2, y0_3, y0_4, y0_5, y0_6, y0_7, y0_8, y0_9, y0_10, y0_11, y3, y0_12, y0_13)) fun y11 =>
          iteP (decide ((List.length [y4 ++ y5, y6] + List.length [y11.1]) * (16 : Nat) ≤ (140737488355328 : Nat) ∧ List.length [y4 ++ y5, y6] + List.length [y11.1] ≤ (140737488355328 : Nat))) (
            iteP (within (0 : Int) (List.length [y4 ++ y5, y6, y11.1])) (
              Option.bind (F92_16378 N N (y4 ++ y5, (0 : Int), (↑(List.length [y4 ++ y5, y6, y11.1]) : Int), [y4 ++ y5, y6, y11.1])) fun y12 =>
              some (y12)) (
              none )) (
            none )) (
          iteP (within (0 : Int) (List.length [y4 ++ y5, y6])) (
            Option.bind (F92_16378 N N (y4 ++ y5, (0 : Int), (↑(List.length [y4 ++ y5, y6]) : Int), [y4 ++ y5, y6])) fun y13 =>
            some (y13)) (
            none )))))
noncomputable def T92 (N : Nat) : Pk → Tr Pk := tellS s92 w92 (F92 N)
theorem T92_ok (N : Nat) : FOK Tryz.prog (92) (T92 N) :=
  (fn_ok2 ownT mix (tab92_ok N) Tryz.func92 s92 w92 [] (cuts := [(58, C92_58 N N), (16378, C92_16378 N N)]) ⟨C92_58_ok N N, C92_16378_ok N N, trivial⟩ (fun _ => by kernel_rfl) (by decide +kernel) (F92 N) (fun x => by kernel_rfl))
@[reducible] def s34 : SP := ⟨[.agg [.int .i64, .int .i64, .bool, .bool, .int .i64, .int .i64, .int .i64, .int .i64, .int .i64, .int .i64], .int .i64, .int .i64, .sl 0], [.row (.int .i64) 3]⟩
noncomputable def tab34 (N : Nat) : List (Nat × (Pk → Tr Pk)) := [(35, T35 N), (91, T91 N), (82, T82 N), (92, T92 N), (62, orT s62.I (T62 N) (T62a N))]
theorem tab34_ok (N : Nat) : TabOK Tryz.prog (tab34 N) := ⟨T35_ok N, T91_ok N, T82_ok N, T92_ok N, orT_ok (T62_ok N) (T62a_ok N), trivial⟩
@[reducible] def L34_518554 : LD := ⟨518554, [15, 46, 45, 11, 12, 38, 39, 40, 1, 10, 14], [(.ret, [8, 9]), (.exit 2, [15, 14, 40, 39, 38, 12, 11, 1, 10]), (.exit 1, [40, 39, 38, 12, 11, 1, 10]), (.exit 0, [12])], ⟨[.sl 0, .int .i64, .int .i64, .adr 1 [], .adr 2 [], .sl 3, .int .i64, .int .i64, .int .i64, .sl 4, .adr 5 []], [.row (.int .i64) 3, .var 140 (.agg [.agg [.int .i64, .int .i64, .bool, .bool, .int .i64, .int .i64, .int .i64, .int .i64, .int .i64, .int .i64]]), .var 95 (.agg [.nilp, .sl 6]), .row y1 126, .row (.int .i64) 3, .var 126 (.agg [.int .i64, .int .i64, .int .i64, .int .i64]), .row (.int .u8) 5]⟩, [(.exit 2, ⟨[.sl 0, .adr 1 [], .int .i64, .int .i64, .sl 2, .adr 3 [], .adr 4 [], .int .i64, .sl 5], [.row (.int .i64) 3, .var 126 (.agg [.int .i64, .int .i64, .int .i64, .int .i64]), .row y1 126, .var 95 (.agg [.nilp, .sl 6]), .var 140 (.agg [.agg [.int .i64, .int .i64, .bool, .bool, .int .i64, .int .i64, .int .i64, .int .i64, .int .i64, .int .i64]]), .row (.int .i64) 3, .row (.int .u8) 5]⟩)]⟩
abbrev P34_518554 : Type := Int × Int × Int × Int × Int × (List Int) × Int × Int × Bool × Bool × Int × Int × Int × Int × Int × Int × (List (Int × (Int × (Int × (Int × Unit))))) × (List Int) × Int × Int × Int × Int × (List Int)
abbrev R34_518554 : Type := Int × Int × Int × (List Int) × Int × Int × Int × Int × (List (Int × (Int × (Int × (Int × Unit))))) × Int × Int × Bool × Bool × Int × Int × Int × Int × Int × Int × (List Int) × (List Int)
noncomputable def B34_518554 (N : Nat) (f : P34_518554 → Option R34_518554) : P34_518554 → Option R34_518554
  | (x0, x1, x2, x3, x4, x5, x6, x7, x8, x9, x10, x11, x12, x13, x14, x15, x16, x17, x18, x19, x20, x21, x22) =>
  iteP (decide (x0 < x1)) (
    iteP (decide ((0 : Int) ≤ IntKind.wrap IntKind.i64 (IntKind.wrap IntKind.i64 (IntKind.wrap IntKind.i64 (IntKind.wrap IntKind.i64 (x19 + x0) * x4) + x18) + x20) ∧ IntKind.wrap IntKind.i64 (IntKind.wrap IntKind.i64 (IntKind.wrap IntKind.i64 (IntKind.wrap IntKind.i64 (x19 + x0) * x4) + x18) + x20) ≤ (↑(List.length x17) : Int))) (
      iteP (decide ((0 : Int) ≤ IntKind.wrap IntKind.i64 (IntKind.wrap IntKind.i64 (IntKind.wrap IntKind.i64 (x19 + x0) * x4) + x18) ∧ IntKind.wrap IntKind.i64 (IntKind.wrap IntKind.i64 (IntKind.wrap IntKind.i64 (x19 + x0) * x4) + x18) ≤ (↑(Int.toNat (IntKind.wrap IntKind.i64 (IntKind.wrap IntKind.i64 (IntKind.wrap IntKind.i64 (IntKind.wrap IntKind.i64 (x19 + x0) * x4) + x18) + x20))) : Int))) (
        iteP (decide ((List.length x5 + List.length (List.take (Int.toNat (IntKind.wrap IntKind.i64 (IntKind.wrap IntKind.i64 (IntKind.wrap IntKind.i64 (IntKind.wrap IntKind.i64 (x19 + x0) * x4) + x18) + x20)) - Int.toNat (IntKind.wrap IntKind.i64 (IntKind.wrap IntKind.i64 (IntKind.wrap IntKind.i64 (x19 + x0) * x4) + x18))) (List.drop (Int.toNat (IntKind.wrap IntKind.i64 (IntKind.wrap IntKind.i64 (IntKind.wrap IntKind.i64 (x19 + x0) * x4) + x18))) x17))) * (8 : Nat) ≤ (140737488355328 : Nat) ∧ List.length x5 + List.length (List.take (Int.toNat (IntKind.wrap IntKind.i64 (IntKind.wrap IntKind.i64 (IntKind.wrap IntKind.i64 (IntKind.wrap IntKind.i64 (x19 + x0) * x4) + x18) + x20)) - Int.toNat (IntKind.wrap IntKind.i64 (IntKind.wrap IntKind.i64 (IntKind.wrap IntKind.i64 (x19 + x0) * x4) + x18))) (List.drop (Int.toNat (IntKind.wrap IntKind.i64 (IntKind.wrap IntKind.i64 (IntKind.wrap IntKind.i64 (x19 + x0) * x4) + x18))) x17)) ≤ (140737488355328 : Nat))) (
          Option.bind (f (IntKind.wrap IntKind.i64 (x0 + (1 : Int)), x1, x2, x3, x4, x5 ++ List.take (Int.toNat (IntKind.wrap IntKind.i64 (IntKind.wrap IntKind.i64 (IntKind.wrap IntKind.i64 (IntKind.wrap IntKind.i64 (x19 + x0) * x4) + x18) + x20)) - Int.toNat (IntKind.wrap IntKind.i64 (IntKind.wrap IntKind.i64 (IntKind.wrap IntKind.i64 (x19 + x0) * x4) + x18))) (List.drop (Int.toNat (IntKind.wrap IntKind.i64 (IntKind.wrap IntKind.i64 (IntKind.wrap IntKind.i64 (x19 + x0) * x4) + x18))) x17), x6, x7, x8, x9, x10, x11, x12, x13, x14, x15, x16, x17, x18, x19, x20, x21, x22)) fun r => some r) (
          none )) (
        none )) (
      none )) (
    some ((x3, x2, x4, x5, x18, x19, x20, x21, x16, x6, x7, x8, x9, x10, x11, x12, x13, x14, x15, x17, x22)))
noncomputable def F34_518554 (N : Nat) : Nat → P34_518554 → Option R34_518554
  | 0, _ => none
  | k + 1, x => B34_518554 N (F34_518554 N k) x
noncomputable def C34_518554 (N : Nat) (k : Nat) : Cut := L34_518554.cut (F34_518554 N k)
theorem C34_518554_ok (N : Nat) (k : Nat) : CutAt Tryz.prog false Tryz.f34 [] 518554 (C34_518554 N k) :=
  L34_518554.loopT ownT mix (tab34_ok N) Tryz.f34 [] (cuts := []) trivial (by decide +kernel) (by kernel_rfl) (B34_518554 N) (F34_518554 N) (fun _ => rfl) (fun _ _ => rfl) (fun f x => by kernel_rfl) k
@[reducible] def L34_518554b : LD := ⟨518554, [15, 46, 45, 11, 12, 38, 39, 40, 1, 10, 14], [(.ret, [8, 9]), (.exit 2, [15, 14, 40, 39, 38, 12, 11, 1, 10]), (.exit 1, [40, 39, 38, 12, 11, 1, 10]), (.exit 0, [12])], ⟨[.sl 0, .int .i64, .int .i64, .adr 1 [], .adr 2 [], .sl 3, .int .i64, .int .i64, .int .i64, .sl 4, .adr 5 []], [.row (.int .i64) 3, .var 140 (.agg [.agg [.int .i64, .int .i64, .bool, .bool, .int .i64, .int .i64, .int .i64, .int .i64, .int .i64, .int .i64]]), .var 95 (.agg [.adr 2 [], .sl 6]), .row y1 126, .row (.int .i64) 3, .var 126 (.agg [.int .i64, .int .i64, .int .i64, .int .i64]), .row (.int .u8) 5]⟩, [(.exit 2, ⟨[.sl 0, .adr 1 [], .int .i64, .int .i64, .sl 2, .adr 3 [], .adr 4 [], .int .i64, .sl 5], [.row (.int .i64) 3, .var 126 (.agg [.int .i64, .int .i64, .int .i64, .int .i64]), .row y1 126, .var 95 (.agg [.adr 3 [], .sl 6]), .var 140 (.agg [.agg [.int .i64, .int .i64, .bool, .bool, .int .i64, .int .i64, .int .i64, .int .i64, .int .i64, .int .i64]]), .row (.int .i64) 3, .row (.int .u8) 5]⟩)]⟩
abbrev P34_518554b : Type := Int × Int × Int × Int × Int × (List Int) × Int × Int × Bool × Bool × Int × Int × Int × Int × Int × Int × (List (Int × (Int × (Int × (Int × Unit))))) × (List Int) × Int × Int × Int × Int × (List Int)
abbrev R34_518554b : Type := Int × Int × Int × (List Int) × Int × Int × Int × Int × (List (Int × (Int × (Int × (Int × Unit))))) × Int × Int × Bool × Bool × Int × Int × Int × Int × Int × Int × (List Int) × (List Int)
noncomputable def B34_518554b (N : Nat) (f : P34_518554b → Option R34_518554b) : P34_518554b → Option R34_518554b
  | (x0, x1, x2, x3, x4, x5, x6, x7, x8, x9, x10, x11, x12, x13, x14, x15, x16, x17, x18, x19, x20, x21, x22) =>
  iteP (decide (x0 < x1)) (
    iteP (decide ((0 : Int) ≤ IntKind.wrap IntKind.i64 (IntKind.wrap IntKind.i64 (IntKind.wrap IntKind.i64 (IntKind.wrap IntKind.i64 (x19 + x0) * x4) + x18) + x20) ∧ IntKind.wrap IntKind.i64 (IntKind.wrap IntKind.i64 (IntKind.wrap IntKind.i64 (IntKind.wrap IntKind.i64 (x19 + x0) * x4) + x18) + x20) ≤ (↑(List.length x17) : Int))) (
      iteP (decide ((0 : Int) ≤ IntKind.wrap IntKind.i64 (IntKind.wrap IntKind.i64 (IntKind.wrap IntKind.i64 (x19 + x0) * x4) + x18) ∧ IntKind.wrap IntKind.i64 (IntKind.wrap IntKind.i64 (IntKind.wrap IntKind.i64 (x19 + x0) * x4) + x18) ≤ (↑(Int.toNat (IntKind.wrap IntKind.i64 (IntKind.wrap IntKind.i64 (IntKind.wrap IntKind.i64 (IntKind.wrap IntKind.i64 (x19 + x0) * x4) + x18) + x20))) : Int))) (
        iteP (decide ((List.length x5 + List.length (List.take (Int.toNat (IntKind.wrap IntKind.i64 (IntKind.wrap IntKind.i64 (IntKind.wrap IntKind.i64 (IntKind.wrap IntKind.i64 (x19 + x0) * x4) + x18) + x20)) - Int.toNat (IntKind.wrap IntKind.i64 (IntKind.wrap IntKind.i64 (IntKind.wrap IntKind.i64 (x19 + x0) * x4) + x18))) (List.drop (Int.toNat (IntKind.wrap IntKind.i64 (IntKind.wrap IntKind.i64 (IntKind.wrap IntKind.i64 (x19 + x0) * x4) + x18))) x17))) * (8 : Nat) ≤ (140737488355328 : Nat) ∧ List.length x5 + List.length (List.take (Int.toNat (IntKind.wrap IntKind.i64 (IntKind.wrap IntKind.i64 (IntKind.wrap IntKind.i64 (IntKind.wrap IntKind.i64 (x19 + x0) * x4) + x18) + x20)) - Int.toNat (IntKind.wrap IntKind.i64 (IntKind.wrap IntKind.i64 (IntKind.wrap IntKind.i64 (x19 + x0) * x4) + x18))) (List.drop (Int.toNat (IntKind.wrap IntKind.i64 (IntKind.wrap IntKind.i64 (IntKind.wrap IntKind.i64 (x19 + x0) * x4) + x18))) x17)) ≤ (140737488355328 : Nat))) (
          Option.bind (f (IntKind.wrap IntKind.i64 (x0 + (1 : Int)), x1, x2, x3, x4, x5 ++ List.take (Int.toNat (IntKind.wrap IntKind.i64 (IntKind.wrap IntKind.i64 (IntKind.wrap IntKind.i64 (IntKind.wrap IntKind.i64 (x19 + x0) * x4) + x18) + x20)) - Int.toNat (IntKind.wrap IntKind.i64 (IntKind.wrap IntKind.i64 (IntKind.wrap IntKind.i64 (x19 + x0) * x4) + x18))) (List.drop (Int.toNat (IntKind.wrap IntKind.i64 (IntKind.wrap IntKind.i64 (IntKind.wrap IntKind.i64 (x19 + x0) * x4) + x18))) x17), x6, x7, x8, x9, x10, x11, x12, x13, x14, x15, x16, x17, x18, x19, x20, x21, x22)) fun r => some r) (
          none )) (
        none )) (
      none )) (
    some ((x3, x2, x4, x5, x18, x19, x20, x21, x16, x6, x7, x8, x9, x10, x11, x12, x13, x14, x15, x17, x22)))
noncomputable def F34_518554b (N : Nat) : Nat → P34_518554b → Option R34_518554b
  | 0, _ => none
  | k + 1, x => B34_518554b N (F34_518554b N k) x
noncomputable def C34_518554b (N : Nat) (k : Nat) : Cut := L34_518554b.cut (F34_518554b N k)
theorem C34_518554b_ok (N : Nat) (k : Nat) : CutAt Tryz.prog false Tryz.f34 [] 518554 (C34_518554b N k) :=
  L34_518554b.loopT ownT mix (tab34_ok N) Tryz.f34 [] (cuts := [(518554, C34_518554 N N)]) ⟨C34_518554_ok N N, trivial⟩ (by decide +kernel) (by kernel_rfl) (B34_518554b N) (F34_518554b N) (fun _ => rfl) (fun _ _ => rfl) (fun f x => by kernel_rfl) k
@[reducible] def L34_506n : LD := ⟨506, [39, 38, 12, 11, 40, 1, 10], [(.ret, [8, 9]), (.exit 0, [12])], ⟨[.int .i64, .sl 0, .adr 1 [], .adr 2 [], .int .i64, .int .i64, .sl 3], [.row y1 126, .var 95 (.agg [.adr 1 [], .sl 4]), .var 140 (.agg [.agg [.int .i64, .int .i64, .bool, .bool, .int .i64, .int .i64, .int .i64, .int .i64, .int .i64, .int .i64]]), .row (.int .i64) 3, .row (.int .u8) 5]⟩, [(.exit 0, ⟨[.adr 0 []], [.var 95 (.agg [.adr 0 [], .sl 1]), .row (.int .u8) 5]⟩), (.exit 0, ⟨[.adr 0 []], [.var 95 (.agg [.nilp, .sl 1]), .row (.int .u8) 5]⟩)]⟩
abbrev P34_506n : Type := Int × Int × Int × (List (Int × (Int × (Int × (Int × Unit))))) × Int × Int × Bool × Bool × Int × Int × Int × Int × Int × Int × (List Int) × (List Int)
abbrev R34_506n : Type := (((List Int)) ⊕ ((List Int)))
noncomputable def B34_506n (N : Nat) (f : P34_506n → Option R34_506n) : P34_506n → Option R34_506n
  | (x0, x1, x2, x3, x4, x5, x6, x7, x8, x9, x10, x11, x12, x13, x14, x15) =>
  iteP (decide (x1 < x0)) (
    iteP (within x1 (List.length x3)) (
      Option.bind (x3[Int.toNat x1]?) fun y0 =>
      Option.bind (F34_518554b N N ((0 : Int), y0.2.2.2.1, x0, x1, x2, [], x4, x5, x6, x7, x8, x9, x10, x11, x12, x13, x3, x14, y0.1, y0.2.1, y0.2.2.1, y0.2.2.2.1, x15)) fun (y1_0, y1_1, y1_2, y1_3, y1_4, y1_5, y1_6, y1_7, y1_8, y1_9, y1_10, y1_11, y1_12, y1_13, y1_14, y1_15, y1_16, y1_17, y1_18, y1_19, y1_20) =>
      Option.bind (F92 N (y1_9, y1_10, y1_11, y1_12, y1_13, y1_14, y1_15, y1_16, y1_17, y1_18, y1_3, y1_6)) fun y2 =>
      Option.bind (F62a N (y2, y1_20)) fun y3 =>
      Option.bind (f (y1_1, IntKind.wrap IntKind.i64 (y1_0 + (1 : Int)), y1_2, y1_8, y1_9, y1_10, y1_11, y1_12, y1_13, y1_14, y1_15, y1_16, y1_17, y1_18, y1_19, y3.2)) fun r => match r with | .inl y => some (.inl y) | .inr y => some (.inr y)) (
      none )) (
    some (.inl (x15)))
noncomputable def F34_506n (N : Nat) : Nat → P34_506n → Option R34_506n
  | 0, _ => none
  | k + 1, x => B34_506n N (F34_506n N k) x
noncomputable def C34_506n (N : Nat) (k : Nat) : Cut := L34_506n.cut (F34_506n N k)
theorem C34_506n_ok (N : Nat) (k : Nat) : CutAt Tryz.prog false Tryz.f34 [] 506 (C34_506n N k) :=
  L34_506n.loopT ownT mix (tab34_ok N) Tryz.f34 [] (cuts := [(518554, orC L34_518554.s.I (C34_518554 N N) (C34_518554b N N))]) ⟨fun c' h => orC_ok (C34_518554_ok N N c' h) (C34_518554b_ok N N c' h) rfl rfl, trivial⟩ (by decide +kernel) (by kernel_rfl) (B34_506n N) (F34_506n N) (fun _ => rfl) (fun _ _ => rfl) (fun f x => by kernel_rfl) k
@[reducible] def L34_506 : LD := ⟨506, L34_506n.live, L34_506n.out, ⟨[.int .i64, .sl 0, .adr 1 [], .adr 2 [], .int .i64, .int .i64, .sl 3], [.row y1 126, .var 95 (.agg [.nilp, .sl 4]), .var 140 (.agg [.agg [.int .i64, .int .i64, .bool, .bool, .int .i64, .int .i64, .int .i64, .int .i64, .int .i64, .int .i64]]), .row (.int .i64) 3, .row (.int .u8) 5]⟩, L34_506n.w⟩
noncomputable def B34_506 (N : Nat) (f : (Int × Int × Int × (List (Int × (Int × (Int × (Int × Unit))))) × Int × Int × Bool × Bool × Int × Int × Int × Int × Int × Int × (List Int) × (List Int)) → Option ((((List Int)) ⊕ ((List Int))))) : (Int × Int × Int × (List (Int × (Int × (Int × (Int × Unit))))) × Int × Int × Bool × Bool × Int × Int × Int × Int × Int × Int × (List Int) × (List Int)) → Option ((((List Int)) ⊕ ((List Int))))
  | (x0, x1, x2, x3, x4, x5, x6, x7, x8, x9, x10, x11, x12, x13, x14, x15) =>
  iteP (decide (x1 < x0)) (
    iteP (within x1 (List.length x3)) (
      Option.bind (x3[Int.toNat x1]?) fun y0 =>
      Option.bind (F34_518554 N N ((0 : Int), y0.2.2.2.1, x0, x1, x2, [], x4, x5, x6, x7, x8, x9, x10, x11, x12, x13, x3, x14, y0.1, y0.2.1, y0.2.2.1, y0.2.2.2.1, x15)) fun (y1_0, y1_1, y1_2, y1_3, y1_4, y1_5, y1_6, y1_7, y1_8, y1_9, y1_10, y1_11, y1_12, y1_13, y1_14, y1_15, y1_16, y1_17, y1_18, y1_19, y1_20) =>
      Option.bind (F92 N (y1_9, y1_10, y1_11, y1_12, y1_13, y1_14, y1_15, y1_16, y1_17, y1_18, y1_3, y1_6)) fun y2 =>
      Option.bind (F62 N (y2, y1_20)) fun y3 =>
      Option.bind (f (y1_1, IntKind.wrap IntKind.i64 (y1_0 + (1 : Int)), y1_2, y1_8, y1_9, y1_10, y1_11, y1_12, y1_13, y1_14, y1_15, y1_16, y1_17, y1_18, y1_19, y3.2)) fun r => match r with | .inl y => some (.inl y) | .inr y => some (.inr y)) (
      none )) (
    some (.inr (x15)))
noncomputable def F34_506 (N : Nat) (k : Nat) : (Int × Int × Int × (List (Int × (Int × (Int × (Int × Unit))))) × Int × Int × Bool × Bool × Int × Int × Int × Int × Int × Int × (List Int) × (List Int)) → Option ((((List Int)) ⊕ ((List Int)))) := B34_506 N (F34_506n N k)
noncomputable def C34_506 (N : Nat) (k : Nat) : Cut := L34_506.cut (F34_506 N k)
theorem C34_506_ok (N : Nat) (k : Nat) : CutAt Tryz.prog false Tryz.f34 [] 506 (C34_506 N k) :=
  L34_506.loop2T ownT mix (tab34_ok N) L34_506n.s Tryz.f34 [] (cuts := [(518554, orC L34_518554.s.I (C34_518554 N N) (C34_518554b N N)), (506, C34_506n N N)]) ⟨fun c' h => orC_ok (C34_518554_ok N N c' h) (C34_518554b_ok N N c' h) rfl rfl, C34_506n_ok N N, trivial⟩ (by decide +kernel) (by kernel_rfl) (B34_506 N) (B34_506n N) (F34_506n N) (fun _ => rfl) (fun _ _ => rfl) (fun f g x => by kernel_rfl) (fun f g x => by kernel_rfl) k
@[reducible] def w34 : List SP := [⟨[.tup [.str, .int .i64]], []⟩]
noncomputable def F34 (N : Nat) : (Int × Int × Bool × Bool × Int × Int × Int × Int × Int × Int × Int × Int × (List Int)) → Option (ByteArray × Int)
  | (x0, x1, x2, x3, x4, x5, x6, x7, x8, x9, x10, x11, x12) =>
  Option.bind (F35 N (x0, x1, x2, x3, x4, x5, x6, x7, x8, x9, x10, x11)) fun y0 =>
  iteP (!y0) (
    some ((ByteArray.mk #[], (1 : Int)))) (
    iteP ((↑(List.length x12) : Int) != IntKind.wrap IntKind.i64 (x10 * x11)) (
      some ((ByteArray.mk #[], (1 : Int)))) (
      Option.bind (F91 N (x0, x1, x2, x3, x4, x5, x6, x7, x8, x9, x12)) fun y1 =>
      Option.bind (F82 N (x10, x11, (64 : Int))) fun y2 =>
      Option.bind (F34_506 N N ((↑(List.length y2) : Int), (0 : Int), x10, y2, x0, x1, x2, x3, x4, x5, x6, x7, x8, x9, y1, [])) fun y3 =>
      match y3 with
      | .inl y4 =>
        iteP (decide ((0 : Nat) < List.length y4 ∧ List.length y4 ≤ (140737488355328 : Nat))) (
          some ((stringOf y4, (0 : Int)))) (
          none )
      | .inr y4 =>
        iteP (decide ((0 : Nat) < List.length y4 ∧ List.length y4 ≤ (140737488355328 : Nat))) (
          some ((stringOf y4, (0 : Int)))) (
          none )))
noncomputable def T34 (N : Nat) : Pk → Tr Pk := tellS s34 w34 (F34 N)
theorem T34_ok (N : Nat) : FOK Tryz.prog (34) (T34 N) :=
  (fn_ok2 ownT mix (tab34_ok N) Tryz.func34 s34 w34 [] (cuts := [(518554, orC L34_518554.s.I (C34_518554 N N) (C34_518554b N N)), (506, orC L34_506n.s.I (C34_506n N N) (C34_506 N N))]) ⟨fun c' h => orC_ok (C34_518554_ok N N c' h) (C34_518554b_ok N N c' h) rfl rfl, fun c' h => orC_ok (C34_506n_ok N N c' h) (C34_506_ok N N c' h) rfl rfl, trivial⟩ (fun _ => by kernel_rfl) (by decide +kernel) (F34 N) (fun x => by kernel_rfl))
@[reducible] def s229 : SP := ⟨[.str], []⟩
noncomputable def tab229 (N : Nat) : List (Nat × (Pk → Tr Pk)) := []
theorem tab229_ok (N : Nat) : TabOK Tryz.prog (tab229 N) := trivial
@[reducible] def w229 : List SP := [⟨[.str], []⟩]
noncomputable def F229 (N : Nat) : (ByteArray) → Option (ByteArray)
  | x0 =>
  iteP (decide (((0 : Int) ≤ if (0 : Int) > IntKind.wrap IntKind.i64 ((↑(ByteArray.size x0) : Int) - (32768 : Int)) then (0 : Int) else IntKind.wrap IntKind.i64 ((↑(ByteArray.size x0) : Int) - (32768 : Int))) ∧ (if (0 : Int) > IntKind.wrap IntKind.i64 ((↑(ByteArray.size x0) : Int) - (32768 : Int)) then (0 : Int) else IntKind.wrap IntKind.i64 ((↑(ByteArray.size x0) : Int) - (32768 : Int))) ≤ (↑(ByteArray.size x0) : Int))) (
    some (ByteArray.extract x0 (Int.toNat (if (0 : Int) > IntKind.wrap IntKind.i64 ((↑(ByteArray.size x0) : Int) - (32768 : Int)) then (0 : Int) else IntKind.wrap IntKind.i64 ((↑(ByteArray.size x0) : Int) - (32768 : Int)))) (ByteArray.size x0))) (
    none )
noncomputable def T229 (N : Nat) : Pk → Tr Pk := tellS s229 w229 (F229 N)
theorem T229_ok (N : Nat) : FOK Tryz.prog (229) (T229 N) :=
  (fn_ok2 ownT mix (tab229_ok N) Tryz.func229 s229 w229 [] (cuts := []) trivial (fun _ => by kernel_rfl) (by decide +kernel) (F229 N) (fun x => by kernel_rfl))
@[reducible] def s286 : SP := ⟨[.adr 0 [], .int .i64], [.var 318 (.agg [.str, .mp 1, .sl 2]), .map (.str) (.int .i64), .row (.int .i64) 3]⟩
noncomputable def tab286 (N : Nat) : List (Nat × (Pk → Tr Pk)) := []
theorem tab286_ok (N : Nat) : TabOK Tryz.prog (tab286 N) := trivial
@[reducible] def w286 : List SP := [⟨[.tup []], [.var 318 (.agg [.str, .mp 1, .sl 2]), .map (.str) (.int .i64), .row (.int .i64) 3]⟩]
noncomputable def F286 (N : Nat) : (Int × ByteArray × (List (ByteArray × Int)) × (List Int)) → Option (ByteArray × (List (ByteArray × Int)) × (List Int))
  | (x0, x1, x2, x3) =>
  iteP (decide (IntKind.wrap IntKind.i64 (x0 + (3 : Int)) ≤ (↑(ByteArray.size x1) : Int))) (
    iteP (decide ((0 : Int) ≤ IntKind.wrap IntKind.i64 (x0 + (3 : Int)) ∧ IntKind.wrap IntKind.i64 (x0 + (3 : Int)) ≤ (↑(ByteArray.size x1) : Int))) (
      iteP (decide ((0 : Int) ≤ x0 ∧ x0 ≤ (↑(Int.toNat (IntKind.wrap IntKind.i64 (x0 + (3 : Int)))) : Int))) (
        iteP (mapHas Ty.str (ByteArray.extract x1 (Int.toNat x0) (Int.toNat (IntKind.wrap IntKind.i64 (x0 + (3 : Int))))) x2) (
          iteP (decide ((List.length x3 + List.length [mapGet Ty.str (ByteArray.extract x1 (Int.toNat x0) (Int.toNat (IntKind.wrap IntKind.i64 (x0 + (3 : Int))))) (0 : Int) x2]) * (8 : Nat) ≤ (140737488355328 : Nat) ∧ List.length x3 + List.length [mapGet Ty.str (ByteArray.extract x1 (Int.toNat x0) (Int.toNat (IntKind.wrap IntKind.i64 (x0 + (3 : Int))))) (0 : Int) x2] ≤ (140737488355328 : Nat))) (
            some ((x1, mapPut Ty.str (ByteArray.extract x1 (Int.toNat x0) (Int.toNat (IntKind.wrap IntKind.i64 (x0 + (3 : Int))))) x0 x2, x3 ++ [mapGet Ty.str (ByteArray.extract x1 (Int.toNat x0) (Int.toNat (IntKind.wrap IntKind.i64 (x0 + (3 : Int))))) (0 : Int) x2]))) (
            none )) (
          iteP (decide ((List.length x3 + (1 : Nat)) * (8 : Nat) ≤ (140737488355328 : Nat) ∧ List.length x3 + (1 : Nat) ≤ (140737488355328 : Nat))) (
            some ((x1, mapPut Ty.str (ByteArray.extract x1 (Int.toNat x0) (Int.toNat (IntKind.wrap IntKind.i64 (x0 + (3 : Int))))) x0 x2, x3 ++ [(-1 : Int)]))) (
            none ))) (
        none )) (
      none )) (
    iteP (decide ((List.length x3 + (1 : Nat)) * (8 : Nat) ≤ (140737488355328 : Nat) ∧ List.length x3 + (1 : Nat) ≤ (140737488355328 : Nat))) (
      some ((x1, x2, x3 ++ [(-1 : Int)]))) (
      none ))
noncomputable def T286 (N : Nat) : Pk → Tr Pk := tellS s286 w286 (F286 N)
theorem T286_ok (N : Nat) : FOK Tryz.prog (286) (T286 N) :=
  (fn_ok2 ownT mix (tab286_ok N) Tryz.func286 s286 w286 [0] (cuts := []) trivial (fun _ => by kernel_rfl) (by decide +kernel) (F286 N) (fun x => by kernel_rfl))
@[reducible] def y3 : Ty := (.cons (.int .i64) (.cons (.int .i64) (.cons (.int .i64) .unit)))
@[reducible] def s321 : SP := ⟨[.adr 0 [], .int .i64, .int .i64], [.var 318 (.agg [.str, .mp 1, .sl 2]), .map (.str) (.int .i64), .row (.int .i64) 3]⟩
noncomputable def tab321 (N : Nat) : List (Nat × (Pk → Tr Pk)) := []
theorem tab321_ok (N : Nat) : TabOK Tryz.prog (tab321 N) := trivial
@[reducible] def L321_28 : LD := ⟨28, [7, 1, 0, 2], [(.ret, [6]), (.exit 0, [7])], ⟨[.int .i64, .int .i64, .adr 0 [], .int .i64], [.var 318 (.agg [.str, .mp 1, .sl 2]), .map (.str) (.int .i64), .row (.int .i64) 3]⟩, [(.exit 0, ⟨[.int .i64], [.var 318 (.agg [.str, .mp 1, .sl 2]), .map (.str) (.int .i64), .row (.int .i64) 3]⟩)]⟩
abbrev P321_28 : Type := Int × Int × Int × ByteArray × (List (ByteArray × Int)) × (List Int)
abbrev R321_28 : Type := Int × ByteArray × (List (ByteArray × Int)) × (List Int)
noncomputable def B321_28 (N : Nat) (f : P321_28 → Option R321_28) : P321_28 → Option R321_28
  | (x0, x1, x2, x3, x4, x5) =>
  iteP (decide (x0 < (258 : Int))) (
    iteP (decide (IntKind.wrap IntKind.i64 (x2 + x0) < (↑(ByteArray.size x3) : Int))) (
      iteP (decide ((0 : Int) ≤ IntKind.wrap IntKind.i64 (x1 + x0))) (
        Option.bind (x3[Int.toNat (IntKind.wrap IntKind.i64 (x1 + x0))]?) fun y0 =>
        iteP (decide ((0 : Int) ≤ IntKind.wrap IntKind.i64 (x2 + x0))) (
          Option.bind (x3[Int.toNat (IntKind.wrap IntKind.i64 (x2 + x0))]?) fun y1 =>
          iteP ((↑(UInt8.toNat y0) : Int) == (↑(UInt8.toNat y1) : Int)) (
            Option.bind (f (IntKind.wrap IntKind.i64 (x0 + (1 : Int)), x1, x2, x3, x4, x5)) fun r => some r) (
            some ((x0, x3, x4, x5)))) (
          none )) (
        none )) (
      some ((x0, x3, x4, x5)))) (
    some ((x0, x3, x4, x5)))
noncomputable def F321_28 (N : Nat) : Nat → P321_28 → Option R321_28
  | 0, _ => none
  | k + 1, x => B321_28 N (F321_28 N k) x
noncomputable def C321_28 (N : Nat) (k : Nat) : Cut := L321_28.cut (F321_28 N k)
theorem C321_28_ok (N : Nat) (k : Nat) : CutAt Tryz.prog false Tryz.f321 [0] 28 (C321_28 N k) :=
  L321_28.loopT ownT mix (tab321_ok N) Tryz.f321 [0] (cuts := []) trivial (by decide +kernel) (by kernel_rfl) (B321_28 N) (F321_28 N) (fun _ => rfl) (fun _ _ => rfl) (fun f x => by kernel_rfl) k
@[reducible] def w321 : List SP := [⟨[.int .i64], [.var 318 (.agg [.str, .mp 1, .sl 2]), .map (.str) (.int .i64), .row (.int .i64) 3]⟩]
noncomputable def F321 (N : Nat) : (Int × Int × ByteArray × (List (ByteArray × Int)) × (List Int)) → Option (Int × ByteArray × (List (ByteArray × Int)) × (List Int))
  | (x0, x1, x2, x3, x4) =>
  Option.bind (F321_28 N N ((0 : Int), x0, x1, x2, x3, x4)) fun y0 =>
  some ((y0.1, y0.2.1, y0.2.2.1, y0.2.2.2))
noncomputable def T321 (N : Nat) : Pk → Tr Pk := tellS s321 w321 (F321 N)
theorem T321_ok (N : Nat) : FOK Tryz.prog (321) (T321 N) :=
  (fn_ok2 ownT mix (tab321_ok N) Tryz.func321 s321 w321 [0] (cuts := [(28, C321_28 N N)]) ⟨C321_28_ok N N, trivial⟩ (fun _ => by kernel_rfl) (by decide +kernel) (F321 N) (fun x => by kernel_rfl))
@[reducible] def s287 : SP := ⟨[.adr 0 [], .int .i64], [.var 318 (.agg [.str, .mp 1, .sl 2]), .map (.str) (.int .i64), .row (.int .i64) 3]⟩
noncomputable def tab287 (N : Nat) : List (Nat × (Pk → Tr Pk)) := [(321, T321 N)]
theorem tab287_ok (N : Nat) : TabOK Tryz.prog (tab287 N) := ⟨T321_ok N, trivial⟩
@[reducible] def L287_1001 : LD := ⟨1001, [7, 9, 8, 4, 1, 6, 0], [(.ret, [4, 5]), (.exit 0, [6, 4]), (.normal, [7, 9, 8, 4, 1, 6, 0])], ⟨[.int .i64, .int .i64, .bool, .adr 1 [], .int .i64, .adr 2 [], .adr 0 []], [.var 318 (.agg [.str, .mp 3, .sl 4]), .var 281 (.agg [.int .i64, .int .i64, .int .i64]), .var 281 (.agg [.int .i64, .int .i64, .int .i64]), .map (.str) (.int .i64), .row (.int .i64) 3]⟩, [(.normal, ⟨[.int .i64, .int .i64, .bool, .adr 1 [], .int .i64, .adr 2 [], .adr 0 []], [.var 318 (.agg [.str, .mp 3, .sl 4]), .var 281 (.agg [.int .i64, .int .i64, .int .i64]), .var 281 (.agg [.int .i64, .int .i64, .int .i64]), .map (.str) (.int .i64), .row (.int .i64) 3]⟩)]⟩
noncomputable def F287_1001 (N : Nat) : (Int × Int × Bool × Int × ByteArray × Int × Int × Int × Int × Int × Int × (List (ByteArray × Int)) × (List Int)) → Option (Int × Int × Bool × Int × ByteArray × Int × Int × Int × Int × Int × Int × (List (ByteArray × Int)) × (List Int))
  | (x0, x1, x2, x3, x4, x5, x6, x7, x8, x9, x10, x11, x12) =>
  Option.bind (F321 N (x0, x3, x4, x11, x12)) fun y0 =>
  iteP (decide (y0.1 > x9)) (
    iteP (within x0 (List.length y0.2.2.2)) (
      Option.bind (y0.2.2.2[Int.toNat x0]?) fun y1 =>
      some ((y1, IntKind.wrap IntKind.i64 (x1 + (1 : Int)), x2, x3, y0.2.1, x5, x6, x7, (0 : Int), y0.1, IntKind.wrap IntKind.i64 (x3 - x0), y0.2.2.1, y0.2.2.2))) (
      none )) (
    iteP (within x0 (List.length y0.2.2.2)) (
      Option.bind (y0.2.2.2[Int.toNat x0]?) fun y2 =>
      some ((y2, IntKind.wrap IntKind.i64 (x1 + (1 : Int)), x2, x3, y0.2.1, x5, x6, x7, x8, x9, x10, y0.2.2.1, y0.2.2.2))) (
      none ))
noncomputable def C287_1001 (N : Nat) (_ : Nat) : Cut := L287_1001.cut (F287_1001 N)
theorem C287_1001_ok (N : Nat) (k : Nat) : CutAt Tryz.prog false Tryz.f287 [0] 1001 (C287_1001 N k) :=
  L287_1001.pieceT ownT mix (tab287_ok N) Tryz.f287 [0] (cuts := []) trivial (by decide +kernel) (by kernel_rfl) (F287_1001 N) (fun x => by kernel_rfl)
@[reducible] def L287_250 : LD := ⟨250, [7, 9, 8, 4, 1, 6, 0], [(.ret, [4, 5]), (.exit 0, [6, 4])], ⟨[.int .i64, .int .i64, .bool, .adr 1 [], .int .i64, .adr 2 [], .adr 0 []], [.var 318 (.agg [.str, .mp 3, .sl 4]), .var 281 (.agg [.int .i64, .int .i64, .int .i64]), .var 281 (.agg [.int .i64, .int .i64, .int .i64]), .map (.str) (.int .i64), .row (.int .i64) 3]⟩, [(.exit 0, ⟨[.adr 1 [], .adr 2 []], [.var 318 (.agg [.str, .mp 3, .sl 4]), .var 281 (.agg [.int .i64, .int .i64, .int .i64]), .var 281 (.agg [.int .i64, .int .i64, .int .i64]), .map (.str) (.int .i64), .row (.int .i64) 3]⟩)]⟩
abbrev P287_250 : Type := Int × Int × Bool × Int × ByteArray × Int × Int × Int × Int × Int × Int × (List (ByteArray × Int)) × (List Int)
abbrev R287_250 : Type := ByteArray × Int × Int × Int × Int × Int × Int × (List (ByteArray × Int)) × (List Int)
noncomputable def B287_250 (N : Nat) (f : P287_250 → Option R287_250) : P287_250 → Option R287_250
  | (x0, x1, x2, x3, x4, x5, x6, x7, x8, x9, x10, x11, x12) =>
  iteP (x2) (
    iteP (decide (x1 < (64 : Int))) (
      iteP (decide (x0 ≥ (0 : Int))) (
        iteP (decide (IntKind.wrap IntKind.i64 (x3 - x0) ≤ (32768 : Int))) (
          Option.bind (F287_1001 N (x0, x1, x2, x3, x4, x5, x6, x7, x8, x9, x10, x11, x12)) fun (y0_0, y0_1, y0_2, y0_3, y0_4, y0_5, y0_6, y0_7, y0_8, y0_9, y0_10, y0_11, y0_12) =>
          Option.bind (f (y0_0, y0_1, y0_2, y0_3, y0_4, y0_5, y0_6, y0_7, y0_8, y0_9, y0_10, y0_11, y0_12)) fun r => some r) (
          some ((x4, x8, x9, x10, x5, x6, x7, x11, x12)))) (
        some ((x4, x8, x9, x10, x5, x6, x7, x11, x12)))) (
      some ((x4, x8, x9, x10, x5, x6, x7, x11, x12)))) (
    some ((x4, x8, x9, x10, x5, x6, x7, x11, x12)))
noncomputable def F287_250 (N : Nat) : Nat → P287_250 → Option R287_250
  | 0, _ => none
  | k + 1, x => B287_250 N (F287_250 N k) x
noncomputable def C287_250 (N : Nat) (k : Nat) : Cut := L287_250.cut (F287_250 N k)
theorem C287_250_ok (N : Nat) (k : Nat) : CutAt Tryz.prog false Tryz.f287 [0] 250 (C287_250 N k) :=
  L287_250.loopT ownT mix (tab287_ok N) Tryz.f287 [0] (cuts := [(1001, C287_1001 N N)]) ⟨C287_1001_ok N N, trivial⟩ (by decide +kernel) (by kernel_rfl) (B287_250 N) (F287_250 N) (fun _ => rfl) (fun _ _ => rfl) (fun f x => by kernel_rfl) k
@[reducible] def w287 : List SP := [⟨[.tup [.agg [.int .i64, .int .i64, .int .i64], .bool]], [.var 318 (.agg [.str, .mp 1, .sl 2]), .map (.str) (.int .i64), .row (.int .i64) 3]⟩]
noncomputable def F287 (N : Nat) : (Int × ByteArray × (List (ByteArray × Int)) × (List Int)) → Option (Int × Int × Int × Bool × ByteArray × (List (ByteArray × Int)) × (List Int))
  | (x0, x1, x2, x3) =>
  iteP (decide (IntKind.wrap IntKind.i64 (x0 + (3 : Int)) > (↑(ByteArray.size x1) : Int))) (
    some (((0 : Int), (0 : Int), (0 : Int), false, x1, x2, x3))) (
    iteP (decide ((0 : Int) ≤ IntKind.wrap IntKind.i64 (x0 + (3 : Int)) ∧ IntKind.wrap IntKind.i64 (x0 + (3 : Int)) ≤ (↑(ByteArray.size x1) : Int))) (
      iteP (decide ((0 : Int) ≤ x0 ∧ x0 ≤ (↑(Int.toNat (IntKind.wrap IntKind.i64 (x0 + (3 : Int)))) : Int))) (
        Option.bind (F287_250 N N (mapGet Ty.str (ByteArray.extract x1 (Int.toNat x0) (Int.toNat (IntKind.wrap IntKind.i64 (x0 + (3 : Int))))) (0 : Int) x2, (0 : Int), mapHas Ty.str (ByteArray.extract x1 (Int.toNat x0) (Int.toNat (IntKind.wrap IntKind.i64 (x0 + (3 : Int))))) x2, x0, x1, (0 : Int), (0 : Int), (0 : Int), (0 : Int), (0 : Int), (0 : Int), x2, x3)) fun (y0_0, y0_1, y0_2, y0_3, y0_4, y0_5, y0_6, y0_7, y0_8) =>
        some ((y0_1, y0_2, y0_3, decide (y0_2 ≥ (3 : Int)), y0_0, y0_7, y0_8))) (
        none )) (
      none ))
noncomputable def T287 (N : Nat) : Pk → Tr Pk := tellS s287 w287 (F287 N)
theorem T287_ok (N : Nat) : FOK Tryz.prog (287) (T287 N) :=
  (fn_ok2 ownT mix (tab287_ok N) Tryz.func287 s287 w287 [0] (cuts := [(1001, C287_1001 N N), (250, C287_250 N N)]) ⟨C287_1001_ok N N, C287_250_ok N N, trivial⟩ (fun _ => by kernel_rfl) (by decide +kernel) (F287 N) (fun x => by kernel_rfl))
@[reducible] def s251 : SP := ⟨[.str, .str], []⟩
noncomputable def tab251 (N : Nat) : List (Nat × (Pk → Tr Pk)) := [(229, T229 N), (286, T286 N), (287, T287 N)]
theorem tab251_ok (N : Nat) : TabOK Tryz.prog (tab251 N) := ⟨T229_ok N, T286_ok N, T287_ok N, trivial⟩
@[reducible] def L251_122 : LD := ⟨122, [22, 21, 5, 6], [(.ret, [4]), (.exit 0, [5, 6])], ⟨[.int .i64, .int .i64, .str, .adr 0 []], [.var 318 (.agg [.str, .mp 1, .sl 2]), .map (.str) (.int .i64), .row (.int .i64) 3]⟩, [(.exit 0, ⟨[.str, .adr 0 []], [.var 318 (.agg [.str, .mp 1, .sl 2]), .map (.str) (.int .i64), .row (.int .i64) 3]⟩)]⟩
abbrev P251_122 : Type := Int × Int × ByteArray × ByteArray × (List (ByteArray × Int)) × (List Int)
abbrev R251_122 : Type := ByteArray × ByteArray × (List (ByteArray × Int)) × (List Int)
noncomputable def B251_122 (N : Nat) (f : P251_122 → Option R251_122) : P251_122 → Option R251_122
  | (x0, x1, x2, x3, x4, x5) =>
  iteP (decide (x0 < x1)) (
    Option.bind (F286 N (x0, x3, x4, x5)) fun y0 =>
    Option.bind (f (IntKind.wrap IntKind.i64 (x0 + (1 : Int)), x1, x2, y0.1, y0.2.1, y0.2.2)) fun r => some r) (
    some ((x2, x3, x4, x5)))
noncomputable def F251_122 (N : Nat) : Nat → P251_122 → Option R251_122
  | 0, _ => none
  | k + 1, x => B251_122 N (F251_122 N k) x
noncomputable def C251_122 (N : Nat) (k : Nat) : Cut := L251_122.cut (F251_122 N k)
theorem C251_122_ok (N : Nat) (k : Nat) : CutAt Tryz.prog false Tryz.f251 [] 122 (C251_122 N k) :=
  L251_122.loopT ownT mix (tab251_ok N) Tryz.f251 [] (cuts := []) trivial (by decide +kernel) (by kernel_rfl) (B251_122 N) (F251_122 N) (fun _ => rfl) (fun _ _ => rfl) (fun f x => by kernel_rfl) k
@[reducible] def L251_129630 : LD := ⟨129630, [9, 61, 60, 8, 6], [(.ret, [4]), (.exit 4, [8, 9, 6]), (.exit 3, [8, 9, 6]), (.exit 2, [8])], ⟨[.int .i64, .int .i64, .int .i64, .sl 0, .adr 1 []], [.row y3 281, .var 318 (.agg [.str, .mp 2, .sl 3]), .map (.str) (.int .i64), .row (.int .i64) 3]⟩, [(.exit 4, ⟨[.sl 0, .int .i64, .adr 1 []], [.row y3 281, .var 318 (.agg [.str, .mp 2, .sl 3]), .map (.str) (.int .i64), .row (.int .i64) 3]⟩)]⟩
abbrev P251_129630 : Type := Int × Int × Int × (List (Int × (Int × (Int × Unit)))) × ByteArray × (List (ByteArray × Int)) × (List Int)
abbrev R251_129630 : Type := Int × (List (Int × (Int × (Int × Unit)))) × ByteArray × (List (ByteArray × Int)) × (List Int)
noncomputable def B251_129630 (N : Nat) (f : P251_129630 → Option R251_129630) : P251_129630 → Option R251_129630
  | (x0, x1, x2, x3, x4, x5, x6) =>
  iteP (decide (x1 < x2)) (
    Option.bind (F286 N (x0, x4, x5, x6)) fun y0 =>
    Option.bind (f (IntKind.wrap IntKind.i64 (x0 + (1 : Int)), IntKind.wrap IntKind.i64 (x1 + (1 : Int)), x2, x3, y0.1, y0.2.1, y0.2.2)) fun r => some r) (
    some ((x0, x3, x4, x5, x6)))
noncomputable def F251_129630 (N : Nat) : Nat → P251_129630 → Option R251_129630
  | 0, _ => none
  | k + 1, x => B251_129630 N (F251_129630 N k) x
noncomputable def C251_129630 (N : Nat) (k : Nat) : Cut := L251_129630.cut (F251_129630 N k)
theorem C251_129630_ok (N : Nat) (k : Nat) : CutAt Tryz.prog false Tryz.f251 [] 129630 (C251_129630 N k) :=
  L251_129630.loopT ownT mix (tab251_ok N) Tryz.f251 [] (cuts := [(122, C251_122 N N)]) ⟨C251_122_ok N N, trivial⟩ (by decide +kernel) (by kernel_rfl) (B251_129630 N) (F251_129630 N) (fun _ => rfl) (fun _ _ => rfl) (fun f x => by kernel_rfl) k
@[reducible] def L251_506 : LD := ⟨506, [8, 9, 6], [(.ret, [4]), (.exit 2, [8])], ⟨[.sl 0, .int .i64, .adr 1 []], [.row y3 281, .var 318 (.agg [.str, .mp 2, .sl 3]), .map (.str) (.int .i64), .row (.int .i64) 3]⟩, [(.exit 2, ⟨[.sl 0], [.row y3 281]⟩)]⟩
abbrev P251_506 : Type := Int × (List (Int × (Int × (Int × Unit)))) × ByteArray × (List (ByteArray × Int)) × (List Int)
abbrev R251_506 : Type := (List (Int × (Int × (Int × Unit))))
noncomputable def B251_506 (N : Nat) (f : P251_506 → Option R251_506) : P251_506 → Option R251_506
  | (x0, x1, x2, x3, x4) =>
  iteP (decide (x0 < (↑(ByteArray.size x2) : Int))) (
    Option.bind (F287 N (x0, x2, x3, x4)) fun (y0_0, y0_1, y0_2, y0_3, y0_4, y0_5, y0_6) =>
    iteP (!y0_3) (
      iteP (decide ((0 : Int) ≤ x0)) (
        Option.bind (y0_4[Int.toNat x0]?) fun y1 =>
        iteP (decide ((List.length x1 + List.length [(IntKind.wrap IntKind.i64 (↑(UInt8.toNat y1) : Int), (0 : Int), (0 : Int), ())]) * (24 : Nat) ≤ (140737488355328 : Nat) ∧ List.length x1 + List.length [(IntKind.wrap IntKind.i64 (↑(UInt8.toNat y1) : Int), (0 : Int), (0 : Int), ())] ≤ (140737488355328 : Nat))) (
          Option.bind (F251_129630 N N (x0, (0 : Int), (1 : Int), x1 ++ [(IntKind.wrap IntKind.i64 (↑(UInt8.toNat y1) : Int), (0 : Int), (0 : Int), ())], y0_4, y0_5, y0_6)) fun y2 =>
          Option.bind (f (y2.1, y2.2.1, y2.2.2.1, y2.2.2.2.1, y2.2.2.2.2)) fun r => some r) (
          none )) (
        none )) (
      iteP (decide ((List.length x1 + List.length [(y0_0, y0_1, y0_2, ())]) * (24 : Nat) ≤ (140737488355328 : Nat) ∧ List.length x1 + List.length [(y0_0, y0_1, y0_2, ())] ≤ (140737488355328 : Nat))) (
        Option.bind (F251_129630 N N (x0, (0 : Int), if (1 : Int) > y0_1 then (1 : Int) else y0_1, x1 ++ [(y0_0, y0_1, y0_2, ())], y0_4, y0_5, y0_6)) fun y3 =>
        Option.bind (f (y3.1, y3.2.1, y3.2.2.1, y3.2.2.2.1, y3.2.2.2.2)) fun r => some r) (
        none ))) (
    some (x1))
noncomputable def F251_506 (N : Nat) : Nat → P251_506 → Option R251_506
  | 0, _ => none
  | k + 1, x => B251_506 N (F251_506 N k) x
noncomputable def C251_506 (N : Nat) (k : Nat) : Cut := L251_506.cut (F251_506 N k)
theorem C251_506_ok (N : Nat) (k : Nat) : CutAt Tryz.prog false Tryz.f251 [] 506 (C251_506 N k) :=
  L251_506.loopT ownT mix (tab251_ok N) Tryz.f251 [] (cuts := [(122, C251_122 N N), (129630, C251_129630 N N)]) ⟨C251_122_ok N N, C251_129630_ok N N, trivial⟩ (by decide +kernel) (by kernel_rfl) (B251_506 N) (F251_506 N) (fun _ => rfl) (fun _ _ => rfl) (fun f x => by kernel_rfl) k
@[reducible] def w251 : List SP := [⟨[.sl 0], [.row y3 281]⟩]
noncomputable def F251 (N : Nat) : (ByteArray × ByteArray) → Option ((List (Int × (Int × (Int × Unit)))))
  | (x0, x1) =>
  Option.bind (F229 N x0) fun y0 =>
  iteP (decide ((↑(ByteArray.size y0 + ByteArray.size x1) : Int) > (9223372036854775807 : Int))) (
    none ) (
    Option.bind (F251_122 N N ((0 : Int), (↑(ByteArray.size y0) : Int), y0, y0 ++ x1, [], [])) fun y1 =>
    Option.bind (F251_506 N N ((↑(ByteArray.size y1.1) : Int), [], y1.2.1, y1.2.2.1, y1.2.2.2)) fun y2 =>
    some (y2))
noncomputable def T251 (N : Nat) : Pk → Tr Pk := tellS s251 w251 (F251 N)
theorem T251_ok (N : Nat) : FOK Tryz.prog (251) (T251 N) :=
  (fn_ok2 ownT mix (tab251_ok N) Tryz.func251 s251 w251 [] (cuts := [(122, C251_122 N N), (129630, C251_129630 N N), (506, C251_506 N N)]) ⟨C251_122_ok N N, C251_129630_ok N N, C251_506_ok N N, trivial⟩ (fun _ => by kernel_rfl) (by decide +kernel) (F251 N) (fun x => by kernel_rfl))
end Go.Proofs.YtfcamlibbfnldaaGreat.Am
