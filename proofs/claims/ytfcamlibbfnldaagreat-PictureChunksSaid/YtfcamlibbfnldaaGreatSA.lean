/- The seat's Go functions come to the Lean functions written here, wherever these give an answer (part A). -/
import Derived.Test.YtfcamlibbfnldaaGreatAmC
import Derived.KernelRfl
import Derived.Test.YtfcamlibbfnldaaGreatChecked
import Derived.Lib.UnsafeStr
import Derived.Shelf.RegionOpenPlain
import Derived.WalkKit
import Derived.Test.YtfcamlibbfnldaaGreatProg
set_option linter.unusedSimpArgs false
set_option linter.unusedVariables false
set_option linter.unusedSectionVars false
set_option maxRecDepth 100000
set_option maxHeartbeats 2000000
namespace Go.Proofs.YtfcamlibbfnldaaGreat.Am
open Go Go.Am
noncomputable instance instP : Inhabited Program := ⟨Tryz.prog⟩
theorem loadInts {P : Program} {w : World} : ∀ (l : List Int) (a : Addr) (acc : ByteArray), (∀ j x, l[j]? = some x → w.cell? (a.add j) = some (.int .u8 x)) →
    (loadBytes a acc l.length).run P w = .ok ⟨acc.data ++ (l.map fun n => UInt8.ofNat n.toNat).toArray⟩ w
  | [], a, acc, _ => by simp [loadBytes]
  | x :: l, a, acc, h => by
    have h0 : w.cell? a = some (.int .u8 x) := by
      have := h 0 x rfl
      simpa [Addr.add] using this
    have ih := loadInts (P := P) l (a.add 1) (acc.push (UInt8.ofNat x.toNat)) (fun j y hy => by
      have := h (j + 1) y (by simpa using hy)
      have e : (a.add 1).add j = a.add (j + 1) := by
        unfold Addr.add
        by_cases hj : j = 0
        · subst hj; simp
        · simp [hj]; omega
      rw [e]; exact this)
    simp only [List.length_cons, loadBytes, Sem.run_bind, run_load, h0, Result.andThen]
    rw [show (x.toNat).toUInt8 = UInt8.ofNat x.toNat from rfl, ih]
    congr 1
    apply ByteArray.ext
    simp [ByteArray.push]
theorem unsafeInts {P : Program} {w : World} (pt it ty e : TypeId) (hp : P.underlying pt = some (.pointer e)) (hc : P.cellsOf e = 1) (g cells : Nat) (hsh : w.shape? g = some (e, cells)) (l : List Int) (h0 : l ≠ []) (hn : l.length ≤ cells) (h63 : l.length ≤ 9223372036854775807)
    (hcell : ∀ j x, l[j]? = some x → w.cell? ((⟨g, 0, none⟩ : Addr).add j) = some (.int .u8 x)) :
    (Builtin.unsafeString_ #[pt, it] ty #[.pointer (some ⟨g, 0, none⟩), .int .i64 l.length]).run P w = .ok (.string (stringOf l)) (w.freeze ⟨g, 0, none⟩ l.length) := by
  have hl : l.length ≠ 0 := by simpa using h0
  have hlb := loadInts (P := P) (w := w) l ⟨g, 0, none⟩ .empty hcell
  have hlies := Lib.liesAt_bytes (P := P) hc (cells / P.cellsOf e) l.length (by rw [hc]; simpa using hn)
  have h63' : ¬ (9223372036854775807 : Int) < (l.length : Int) := by omega
  have hdef : Builtin.unsafeString_ #[pt, it] ty #[.pointer (some ⟨g, 0, none⟩), .int .i64 l.length] =
      (do
        let n ← asInt (.int .i64 l.length)
        if n < 0 then runtimePanic (.error "unsafe.String: len out of range")
        if n > IntKind.i64.max then unsupported (.unsafePointer "String: a length above the largest int")
        if n = 0 then pure (.string .empty)
        else if ← variablesAt ⟨g, 0, none⟩ (← elemOf pt) n.toNat then do
          let s ← loadBytes ⟨g, 0, none⟩ .empty n.toNat
          freeze ⟨g, 0, none⟩ n.toNat
          pure (.string s)
        else unsupported (.unsafePointer "String: not so many bytes at ptr")) := rfl
  rw [hdef]
  have hmax : IntKind.i64.max = 9223372036854775807 := rfl
  have hneg : ¬ (l.length : Int) < 0 := by omega
  simp [asInt, asIntOf, hmax, h63', hneg, hl, variablesAt, hsh, elemOf, run_underlying hp, hlies, hlb, stringOf]
set_option maxHeartbeats 4000000 in
theorem str67 : StrOK Tryz.prog 67 5 := by
  intro b o n c w gk cs fr xs h1 h2 h3 h4 h5 h6 h7
  subst h6
  have c1 : w.drew.cell? ⟨b, o + 1, none⟩ = some (.slice (some ⟨gk, 0, none⟩) xs.length c) := h1
  have hSD : (Builtin.unsafeSliceData_ #[93] 183 #[.slice (some ⟨gk, 0, none⟩) xs.length c]).run Tryz.prog w.drew = .ok (.pointer (some ⟨gk, 0, none⟩)) w.drew :=
    Lib.run_unsafeSliceData_row _ _ _ _ _ _ (by omega)
  have hsz : xs.length ≤ cs.size := by
    have := h7 (xs.length - 1) (.int .u8 (xs[xs.length - 1]'(by omega))) (by simp)
    unfold World.cell? at this
    rw [h5] at this
    simp at this
    have := (Array.getElem?_eq_some_iff.1 this).1
    omega
  have hUS : (Builtin.unsafeString_ #[183, 3] 9 #[.pointer (some ⟨gk, 0, none⟩), .int .i64 xs.length]).run Tryz.prog w.drew = .ok (.string (stringOf xs)) (w.drew.freeze ⟨gk, 0, none⟩ xs.length) := by
    refine unsafeInts 183 3 9 5 Tryz.underlying183 (by kernel_rfl) gk cs.size (by have hg' : w.drew.heap[gk]? = some (.cells cs 5 fr) := h5; simp [World.shape?, hg']) xs (by intro e; rw [e] at h2; simp at h2) hsz (by unfold maxRow at h3; omega) ?_
    intro j x hx
    have := h7 j (.int .u8 x) (by simp [hx])
    by_cases e : j = 0
    · subst e; simpa [Addr.add] using this
    · simpa [Addr.add, e] using this
  have mixed : Tryz.prog.follows .mixedOrders = true := by kernel_rfl
  go_enter Tryz.func67, Tryz.ntmps67
  go_wp2
  go_region_o
  all_goals (go_wp2; go_ret; exact ⟨rfl, rfl⟩)
def ownT : FuncId → List Nat := ownL [(6, [1, 0]), (8, [0, 0, 0, 1]), (10, [0, 0, 0, 1, 1, 0]), (11, [0, 0, 0, 1, 1]), (13, [4, 0, 0]), (14, [4, 4, 0]), (20, [0, 0]), (23, [1]), (24, [0]), (34, [0, 0, 0, 1]), (40, [0, 0, 0, 0, 1]), (48, [4, 0]), (66, [1, 0]), (67, [78, 5]), (71, [2, 0]), (76, [0, 5]), (77, [4, 0]), (83, [1, 0, 0]), (84, [2]), (86, [2]), (91, [0, 1]), (106, [2]), (107, [0, 0, 0, 0, 0, 1]), (109, [4, 0]), (112, [2]), (113, [2, 0]), (116, [2]), (130, [0, 5, 5]), (141, [1, 0]), (142, [1]), (143, [1, 0, 0, 0]), (144, [1, 0, 0]), (152, [0, 1]), (170, [0, 6]), (174, [0, 1]), (175, [0, 0, 0, 1]), (176, [0, 0, 0, 1]), (185, [2, 0]), (190, [77]), (193, [2]), (198, [0, 0, 5]), (207, [2, 0, 0]), (209, [0, 5, 5, 5]), (212, [1, 0]), (219, [0, 5, 5]), (231, [4]), (238, [0, 0, 1, 0]), (240, [0, 0, 0, 1]), (243, [0, 0, 0, 0, 0, 4]), (252, [0, 0, 0, 0]), (265, [1]), (285, [2]), (288, [0, 5, 5]), (289, [1, 1]), (290, [0, 0, 0]), (305, [2]), (315, [2, 0, 0, 0, 0]), (322, [0, 5, 5, 5]), (324, [2]), (325, [2]), (330, [2]), (341, [0, 1, 1]), (342, [1]), (353, [1, 0, 0]), (364, [2]), (376, [0, 0]), (379, [3, 0]), (383, [1]), (384, [4, 0]), (385, [0, 0]), (388, [3, 0]), (389, [4, 0, 0]), (391, [4, 0, 0, 0]), (392, [4, 0, 0, 0, 0]), (393, [4, 0, 0, 0, 0]), (394, [4, 0, 0, 0, 0])]
theorem mix : MixP Tryz.prog ownT := ⟨rfl, by kernel_rfl, ne_one 190 (by decide +kernel) Tryz.func190 (by decide +kernel) (by decide +kernel) (by kernel_rfl) (by kernel_rfl), str_one 67 5 (by decide +kernel) Tryz.func67 (by decide +kernel) (by decide +kernel) str67⟩
@[reducible] def s73 : SP := ⟨[.int .i64], []⟩
noncomputable def tab73 (N : Nat) : List (Nat × (Pk → Tr Pk)) := []
theorem tab73_ok (N : Nat) : TabOK Tryz.prog (tab73 N) := trivial
@[reducible] def w73 : List SP := [⟨[.bool], []⟩]
noncomputable def F73 (N : Nat) : (Int) → Option (Bool)
  | x0 =>
  iteP (decide ((1 : Int) ≤ x0)) (
    some (decide (x0 ≤ (4096 : Int)))) (
    some (false))
noncomputable def T73 (N : Nat) : Pk → Tr Pk := tellS s73 w73 (F73 N)
theorem T73_ok (N : Nat) : FOK Tryz.prog (73) (T73 N) :=
  (fn_ok2 ownT mix (tab73_ok N) Tryz.func73 s73 w73 [] (cuts := []) trivial (fun _ => by kernel_rfl) (by decide +kernel) (F73 N) (fun x => by kernel_rfl))
@[reducible] def s75 : SP := ⟨[.int .i64], []⟩
noncomputable def tab75 (N : Nat) : List (Nat × (Pk → Tr Pk)) := []
theorem tab75_ok (N : Nat) : TabOK Tryz.prog (tab75 N) := trivial
@[reducible] def w75 : List SP := [⟨[.bool], []⟩]
noncomputable def F75 (N : Nat) : (Int) → Option (Bool)
  | x0 =>
  iteP (decide ((0 : Int) ≤ x0)) (
    some (decide (x0 ≤ (16777215 : Int)))) (
    some (false))
noncomputable def T75 (N : Nat) : Pk → Tr Pk := tellS s75 w75 (F75 N)
theorem T75_ok (N : Nat) : FOK Tryz.prog (75) (T75 N) :=
  (fn_ok2 ownT mix (tab75_ok N) Tryz.func75 s75 w75 [] (cuts := []) trivial (fun _ => by kernel_rfl) (by decide +kernel) (F75 N) (fun x => by kernel_rfl))
@[reducible] def s74 : SP := ⟨[.int .i64], []⟩
noncomputable def tab74 (N : Nat) : List (Nat × (Pk → Tr Pk)) := [(75, T75 N)]
theorem tab74_ok (N : Nat) : TabOK Tryz.prog (tab74 N) := ⟨T75_ok N, trivial⟩
@[reducible] def w74 : List SP := [⟨[.bool], []⟩]
noncomputable def F74 (N : Nat) : (Int) → Option (Bool)
  | x0 =>
  Option.bind (F75 N x0) fun y0 =>
  some (!y0)
noncomputable def T74 (N : Nat) : Pk → Tr Pk := tellS s74 w74 (F74 N)
theorem T74_ok (N : Nat) : FOK Tryz.prog (74) (T74 N) :=
  (fn_ok2 ownT mix (tab74_ok N) Tryz.func74 s74 w74 [] (cuts := []) trivial (fun _ => by kernel_rfl) (by decide +kernel) (F74 N) (fun x => by kernel_rfl))
@[reducible] def s109 : SP := ⟨[.ro (.int .i64), .fn 74], []⟩
noncomputable def tab109 (N : Nat) : List (Nat × (Pk → Tr Pk)) := [(74, T74 N)]
theorem tab109_ok (N : Nat) : TabOK Tryz.prog (tab109 N) := ⟨T74_ok N, trivial⟩
@[reducible] def L109_26 : LD := ⟨26, [7, 1, 0, 8], [(.ret, [4]), (.exit 0, [])], ⟨[.int .i64, .fn 74, .ro (.int .i64), .int .i64], []⟩, [(.ret, ⟨[.int .i64], []⟩), (.exit 0, ⟨[], []⟩)]⟩
abbrev P109_26 : Type := Int × (List Int) × Int
abbrev R109_26 : Type := ((Int) ⊕ (Unit))
noncomputable def B109_26 (N : Nat) (f : P109_26 → Option R109_26) : P109_26 → Option R109_26
  | (x0, x1, x2) =>
  iteP (decide (x2 < x0)) (
    iteP (within x2 (List.length x1)) (
      Option.bind (x1[Int.toNat x2]?) fun y0 =>
      Option.bind (F74 N y0) fun y1 =>
      iteP (y1) (
        some (.inl (x2))) (
        Option.bind (f (x0, x1, IntKind.wrap IntKind.i64 (x2 + (1 : Int)))) fun r => match r with | .inl y => some (.inl y) | .inr y => some (.inr y))) (
      none )) (
    some (.inr (())))
noncomputable def F109_26 (N : Nat) : Nat → P109_26 → Option R109_26
  | 0, _ => none
  | k + 1, x => B109_26 N (F109_26 N k) x
noncomputable def C109_26 (N : Nat) (k : Nat) : Cut := L109_26.cut (F109_26 N k)
theorem C109_26_ok (N : Nat) (k : Nat) : CutAt Tryz.prog false Tryz.f109 [] 26 (C109_26 N k) :=
  L109_26.loopT ownT mix (tab109_ok N) Tryz.f109 [] (cuts := []) trivial (by decide +kernel) (by kernel_rfl) (B109_26 N) (F109_26 N) (fun _ => rfl) (fun _ _ => rfl) (fun f x => by kernel_rfl) k
@[reducible] def w109 : List SP := [⟨[.int .i64], []⟩]
noncomputable def F109 (N : Nat) : ((List Int)) → Option (Int)
  | x0 =>
  Option.bind (F109_26 N N ((↑(List.length x0) : Int), x0, (0 : Int))) fun y0 =>
  match y0 with
  | .inl y1 =>
    some (y1)
  | .inr y1 =>
    some ((-1 : Int))
noncomputable def T109 (N : Nat) : Pk → Tr Pk := tellS s109 w109 (F109 N)
theorem T109_ok (N : Nat) : FOK Tryz.prog (109) (T109 N) :=
  (fn_ok2 ownT mix (tab109_ok N) Tryz.func109 s109 w109 [] (cuts := [(26, C109_26 N N)]) ⟨C109_26_ok N N, trivial⟩ (fun _ => by kernel_rfl) (by decide +kernel) (F109 N) (fun x => by kernel_rfl))
@[reducible] def s77 : SP := ⟨[.ro (.int .i64), .fn 74], []⟩
noncomputable def tab77 (N : Nat) : List (Nat × (Pk → Tr Pk)) := [(109, T109 N)]
theorem tab77_ok (N : Nat) : TabOK Tryz.prog (tab77 N) := ⟨T109_ok N, trivial⟩
@[reducible] def w77 : List SP := [⟨[.bool], []⟩]
noncomputable def F77 (N : Nat) : ((List Int)) → Option (Bool)
  | x0 =>
  Option.bind (F109 N x0) fun y0 =>
  some (decide (y0 ≥ (0 : Int)))
noncomputable def T77 (N : Nat) : Pk → Tr Pk := tellS s77 w77 (F77 N)
theorem T77_ok (N : Nat) : FOK Tryz.prog (77) (T77 N) :=
  (fn_ok2 ownT mix (tab77_ok N) Tryz.func77 s77 w77 [] (cuts := []) trivial (fun _ => by kernel_rfl) (by decide +kernel) (F77 N) (fun x => by kernel_rfl))
@[reducible] def s76 : SP := ⟨[.int .i64, .adr 0 []], [.var 114 (.mp 1), .map (.int .i64) (.bool)]⟩
noncomputable def tab76 (N : Nat) : List (Nat × (Pk → Tr Pk)) := []
theorem tab76_ok (N : Nat) : TabOK Tryz.prog (tab76 N) := trivial
@[reducible] def w76 : List SP := [⟨[.bool], [.var 114 (.mp 1), .map (.int .i64) (.bool)]⟩]
noncomputable def F76 (N : Nat) : (Int × (List (Int × Bool))) → Option (Bool × (List (Int × Bool)))
  | (x0, x1) =>
  iteP (decide ((↑(List.length x1) : Int) > (0 : Int))) (
    some ((!mapGet (Ty.int IntKind.i64) x0 false x1, x1))) (
    some ((false, x1)))
noncomputable def T76 (N : Nat) : Pk → Tr Pk := tellS s76 w76 (F76 N)
theorem T76_ok (N : Nat) : FOK Tryz.prog (76) (T76 N) :=
  (fn_ok2 ownT mix (tab76_ok N) Tryz.func76 s76 w76 [0] (cuts := []) trivial (fun _ => by kernel_rfl) (by decide +kernel) (F76 N) (fun x => by kernel_rfl))
@[reducible] def s109a : SP := ⟨[.ro (.int .i64), .clo 76 [.adr 0 []]], [.var 114 (.mp 1), .map (.int .i64) (.bool)]⟩
noncomputable def tab109a (N : Nat) : List (Nat × (Pk → Tr Pk)) := [(76, T76 N)]
theorem tab109a_ok (N : Nat) : TabOK Tryz.prog (tab109a N) := ⟨T76_ok N, trivial⟩
@[reducible] def L109a_26 : LD := ⟨26, [7, 1, 0, 8], [(.ret, [4]), (.exit 0, [])], ⟨[.int .i64, .clo 76 [.adr 0 []], .ro (.int .i64), .int .i64], [.var 114 (.mp 1), .map (.int .i64) (.bool)]⟩, [(.ret, ⟨[.int .i64], [.var 114 (.mp 1), .map (.int .i64) (.bool)]⟩), (.exit 0, ⟨[], [.var 114 (.mp 1), .map (.int .i64) (.bool)]⟩)]⟩
abbrev P109a_26 : Type := Int × (List Int) × Int × (List (Int × Bool))
abbrev R109a_26 : Type := ((Int × (List (Int × Bool))) ⊕ ((List (Int × Bool))))
noncomputable def B109a_26 (N : Nat) (f : P109a_26 → Option R109a_26) : P109a_26 → Option R109a_26
  | (x0, x1, x2, x3) =>
  iteP (decide (x2 < x0)) (
    iteP (within x2 (List.length x1)) (
      Option.bind (x1[Int.toNat x2]?) fun y0 =>
      Option.bind (F76 N (y0, x3)) fun y1 =>
      iteP y1.1 (
        some (.inl ((x2, y1.2)))) (
        Option.bind (f (x0, x1, IntKind.wrap IntKind.i64 (x2 + (1 : Int)), y1.2)) fun r => match r with | .inl y => some (.inl y) | .inr y => some (.inr y))) (
      none )) (
    some (.inr (x3)))
noncomputable def F109a_26 (N : Nat) : Nat → P109a_26 → Option R109a_26
  | 0, _ => none
  | k + 1, x => B109a_26 N (F109a_26 N k) x
noncomputable def C109a_26 (N : Nat) (k : Nat) : Cut := L109a_26.cut (F109a_26 N k)
theorem C109a_26_ok (N : Nat) (k : Nat) : CutAt Tryz.prog false Tryz.f109 [0] 26 (C109a_26 N k) :=
  L109a_26.loopT ownT mix (tab109a_ok N) Tryz.f109 [0] (cuts := []) trivial (by decide +kernel) (by kernel_rfl) (B109a_26 N) (F109a_26 N) (fun _ => rfl) (fun _ _ => rfl) (fun f x => by kernel_rfl) k
@[reducible] def w109a : List SP := [⟨[.int .i64], [.var 114 (.mp 1), .map (.int .i64) (.bool)]⟩]
noncomputable def F109a (N : Nat) : ((List Int) × (List (Int × Bool))) → Option (Int × (List (Int × Bool)))
  | (x0, x1) =>
  Option.bind (F109a_26 N N ((↑(List.length x0) : Int), x0, (0 : Int), x1)) fun y0 =>
  match y0 with
  | .inl y1 =>
    some ((y1.1, y1.2))
  | .inr y1 =>
    some (((-1 : Int), y1))
noncomputable def T109a (N : Nat) : Pk → Tr Pk := tellS s109a w109a (F109a N)
theorem T109a_ok (N : Nat) : FOK Tryz.prog (109) (T109a N) :=
  (fn_ok2 ownT mix (tab109a_ok N) Tryz.func109 s109a w109a [0] (cuts := [(26, C109a_26 N N)]) ⟨C109a_26_ok N N, trivial⟩ (fun _ => by kernel_rfl) (by decide +kernel) (F109a N) (fun x => by kernel_rfl))
@[reducible] def s77a : SP := ⟨[.ro (.int .i64), .clo 76 [.adr 0 []]], [.var 114 (.mp 1), .map (.int .i64) (.bool)]⟩
noncomputable def tab77a (N : Nat) : List (Nat × (Pk → Tr Pk)) := [(109, T109a N)]
theorem tab77a_ok (N : Nat) : TabOK Tryz.prog (tab77a N) := ⟨T109a_ok N, trivial⟩
@[reducible] def w77a : List SP := [⟨[.bool], [.var 114 (.mp 1), .map (.int .i64) (.bool)]⟩]
noncomputable def F77a (N : Nat) : ((List Int) × (List (Int × Bool))) → Option (Bool × (List (Int × Bool)))
  | (x0, x1) =>
  Option.bind (F109a N (x0, x1)) fun y0 =>
  some ((decide (y0.1 ≥ (0 : Int)), y0.2))
noncomputable def T77a (N : Nat) : Pk → Tr Pk := tellS s77a w77a (F77a N)
theorem T77a_ok (N : Nat) : FOK Tryz.prog (77) (T77a N) :=
  (fn_ok2 ownT mix (tab77a_ok N) Tryz.func77 s77a w77a [0] (cuts := []) trivial (fun _ => by kernel_rfl) (by decide +kernel) (F77a N) (fun x => by kernel_rfl))
@[reducible] def s24 : SP := ⟨[.agg [.agg [.int .i64, .int .i64, .ro (.int .i64)], .ro (.int .i64)]], []⟩
noncomputable def tab24 (N : Nat) : List (Nat × (Pk → Tr Pk)) := [(73, T73 N), (77, orT s77.I (T77 N) (T77a N))]
theorem tab24_ok (N : Nat) : TabOK Tryz.prog (tab24 N) := ⟨T73_ok N, orT_ok (T77_ok N) (T77a_ok N), trivial⟩
@[reducible] def L24_506 : LD := ⟨506, [42, 41, 3, 4, 1, 40, 5], [(.ret, [2]), (.exit 0, [5, 1, 4, 3])], ⟨[.int .i64, .int .i64, .adr 0 [], .fn 74, .adr 1 [], .ro (.int .i64), .adr 2 []], [.var 31 (.agg [.int .i64, .int .i64, .ro (.int .i64)]), .var 33 (.agg [.agg [.int .i64, .int .i64, .ro (.int .i64)], .ro (.int .i64)]), .var 114 (.mp 3), .map (.int .i64) (.bool)]⟩, [(.exit 0, ⟨[.adr 0 [], .adr 1 [], .fn 74, .adr 2 []], [.var 114 (.mp 3), .var 33 (.agg [.agg [.int .i64, .int .i64, .ro (.int .i64)], .ro (.int .i64)]), .var 31 (.agg [.int .i64, .int .i64, .ro (.int .i64)]), .map (.int .i64) (.bool)]⟩)]⟩
abbrev P24_506 : Type := Int × Int × (List Int) × Int × Int × (List Int) × Int × Int × (List Int) × (List Int) × (List (Int × Bool))
abbrev R24_506 : Type := Int × Int × (List Int) × (List Int) × Int × Int × (List Int) × (List (Int × Bool))
noncomputable def B24_506 (N : Nat) (f : P24_506 → Option R24_506) : P24_506 → Option R24_506
  | (x0, x1, x2, x3, x4, x5, x6, x7, x8, x9, x10) =>
  iteP (decide (x0 < x1)) (
    iteP (within x0 (List.length x2)) (
      Option.bind (x2[Int.toNat x0]?) fun y0 =>
      Option.bind (f (IntKind.wrap IntKind.i64 (x0 + (1 : Int)), x1, x2, x3, x4, x5, x6, x7, x8, x9, mapPut (Ty.int IntKind.i64) y0 true x10)) fun r => some r) (
      none )) (
    some ((x6, x7, x8, x9, x3, x4, x5, x10)))
noncomputable def F24_506 (N : Nat) : Nat → P24_506 → Option R24_506
  | 0, _ => none
  | k + 1, x => B24_506 N (F24_506 N k) x
noncomputable def C24_506 (N : Nat) (k : Nat) : Cut := L24_506.cut (F24_506 N k)
theorem C24_506_ok (N : Nat) (k : Nat) : CutAt Tryz.prog false Tryz.f24 [] 506 (C24_506 N k) :=
  L24_506.loopT ownT mix (tab24_ok N) Tryz.f24 [] (cuts := []) trivial (by decide +kernel) (by kernel_rfl) (B24_506 N) (F24_506 N) (fun _ => rfl) (fun _ _ => rfl) (fun f x => by kernel_rfl) k
@[reducible] def L24_15 : LD := ⟨15, [3, 1], [(.ret, [2]), (.normal, [2])], ⟨[.adr 0 [], .adr 1 []], [.var 31 (.agg [.int .i64, .int .i64, .ro (.int .i64)]), .var 33 (.agg [.agg [.int .i64, .int .i64, .ro (.int .i64)], .ro (.int .i64)])]⟩, [(.ret, ⟨[.bool], []⟩)]⟩
noncomputable def F24_15 (N : Nat) : (Int × Int × (List Int) × Int × Int × (List Int) × (List Int)) → Option (Bool)
  | (x0, x1, x2, x3, x4, x5, x6) =>
  Option.bind (F24_506 N N ((0 : Int), (↑(List.length x6) : Int), x6, x0, x1, x2, x3, x4, x5, x6, [])) fun (y0_0, y0_1, y0_2, y0_3, y0_4, y0_5, y0_6, y0_7) =>
  Option.bind (F77 N y0_3) fun y1 =>
  iteP (!y1) (
    Option.bind (F77 N y0_6) fun y2 =>
    iteP (!y2) (
      Option.bind (F77a N (y0_6, y0_7)) fun y3 =>
      some (!y3.1)) (
      some (false))) (
    some (false))
noncomputable def C24_15 (N : Nat) (_ : Nat) : Cut := L24_15.cut (F24_15 N)
theorem C24_15_ok (N : Nat) (k : Nat) : CutAt Tryz.prog false Tryz.f24 [] 15 (C24_15 N k) :=
  L24_15.pieceT ownT mix (tab24_ok N) Tryz.f24 [] (cuts := [(506, C24_506 N N)]) ⟨C24_506_ok N N, trivial⟩ (by decide +kernel) (by kernel_rfl) (F24_15 N) (fun x => by kernel_rfl)
@[reducible] def w24 : List SP := [⟨[.bool], []⟩]
noncomputable def F24 (N : Nat) : (Int × Int × (List Int) × (List Int)) → Option (Bool)
  | (x0, x1, x2, x3) =>
  Option.bind (F73 N x0) fun y0 =>
  iteP (!y0) (
    some (false)) (
    Option.bind (F73 N x1) fun y1 =>
    iteP (!y1) (
      some (false)) (
      iteP ((↑(List.length x2) : Int) != IntKind.wrap IntKind.i64 (x0 * x1)) (
        some (false)) (
        iteP (decide ((↑(List.length x3) : Int) > (256 : Int))) (
          some (false)) (
          Option.bind (F24_15 N (x0, x1, x2, x0, x1, x2, x3)) fun y2 =>
          some (y2)))))
noncomputable def T24 (N : Nat) : Pk → Tr Pk := tellS s24 w24 (F24 N)
theorem T24_ok (N : Nat) : FOK Tryz.prog (24) (T24 N) :=
  (fn_ok2 ownT mix (tab24_ok N) Tryz.func24 s24 w24 [] (cuts := [(506, C24_506 N N), (15, C24_15 N N)]) ⟨C24_506_ok N N, C24_15_ok N N, trivial⟩ (fun _ => by kernel_rfl) (by decide +kernel) (F24 N) (fun x => by kernel_rfl))
@[reducible] def s61 : SP := ⟨[.agg [.agg [.int .i64, .int .i64, .ro (.int .i64)], .ro (.int .i64)]], []⟩
noncomputable def tab61 (N : Nat) : List (Nat × (Pk → Tr Pk)) := []
theorem tab61_ok (N : Nat) : TabOK Tryz.prog (tab61 N) := trivial
@[reducible] def w61 : List SP := [⟨[.int .i64], []⟩]
noncomputable def F61 (N : Nat) : (Int × Int × (List Int) × (List Int)) → Option (Int)
  | (x0, x1, x2, x3) =>
  iteP (decide ((↑(List.length x3) : Int) > (0 : Int))) (
    some ((3 : Int))) (
    some ((2 : Int)))
noncomputable def T61 (N : Nat) : Pk → Tr Pk := tellS s61 w61 (F61 N)
theorem T61_ok (N : Nat) : FOK Tryz.prog (61) (T61 N) :=
  (fn_ok2 ownT mix (tab61_ok N) Tryz.func61 s61 w61 [] (cuts := []) trivial (fun _ => by kernel_rfl) (by decide +kernel) (F61 N) (fun x => by kernel_rfl))
@[reducible] def s122 : SP := ⟨[.adr 0 []], [.var 95 (.agg [.nilp, .sl 1]), .row (.int .u8) 5]⟩
noncomputable def tab122 (N : Nat) : List (Nat × (Pk → Tr Pk)) := []
theorem tab122_ok (N : Nat) : TabOK Tryz.prog (tab122 N) := trivial
@[reducible] def w122 : List SP := [⟨[.tup []], [.var 95 (.agg [.adr 0 [], .sl 1]), .row (.int .u8) 5]⟩]
noncomputable def F122 (N : Nat) : ((List Int)) → Option ((List Int))
  | x0 =>
  some (x0)
noncomputable def T122 (N : Nat) : Pk → Tr Pk := tellS s122 w122 (F122 N)
theorem T122_ok (N : Nat) : FOK Tryz.prog (122) (T122 N) :=
  (fn_ok2 ownT mix (tab122_ok N) Tryz.func122 s122 w122 [0] (cuts := []) trivial (fun _ => by kernel_rfl) (by decide +kernel) (F122 N) (fun x => by kernel_rfl))
@[reducible] def s62 : SP := ⟨[.adr 0 [], .str], [.var 95 (.agg [.nilp, .sl 1]), .row (.int .u8) 5]⟩
noncomputable def tab62 (N : Nat) : List (Nat × (Pk → Tr Pk)) := [(122, T122 N)]
theorem tab62_ok (N : Nat) : TabOK Tryz.prog (tab62 N) := ⟨T122_ok N, trivial⟩
@[reducible] def w62 : List SP := [⟨[.tup [.int .i64, .nili]], [.var 95 (.agg [.adr 0 [], .sl 1]), .row (.int .u8) 5]⟩]
noncomputable def F62 (N : Nat) : (ByteArray × (List Int)) → Option (Int × (List Int))
  | (x0, x1) =>
  Option.bind (F122 N x1) fun y0 =>
  iteP (decide ((List.length y0 + List.length (bytesOf x0)) * (1 : Nat) ≤ (140737488355328 : Nat) ∧ List.length y0 + List.length (bytesOf x0) ≤ (140737488355328 : Nat))) (
    some (((↑(ByteArray.size x0) : Int), y0 ++ bytesOf x0))) (
    none )
noncomputable def T62 (N : Nat) : Pk → Tr Pk := tellS s62 w62 (F62 N)
theorem T62_ok (N : Nat) : FOK Tryz.prog (62) (T62 N) :=
  (fn_ok2 ownT mix (tab62_ok N) Tryz.func62 s62 w62 [0] (cuts := []) trivial (fun _ => by kernel_rfl) (by decide +kernel) (F62 N) (fun x => by kernel_rfl))
@[reducible] def s230 : SP := ⟨[.int .i64], []⟩
noncomputable def tab230 (N : Nat) : List (Nat × (Pk → Tr Pk)) := []
theorem tab230_ok (N : Nat) : TabOK Tryz.prog (tab230 N) := trivial
@[reducible] def w230 : List SP := [⟨[.bool], []⟩]
noncomputable def F230 (N : Nat) : (Int) → Option (Bool)
  | x0 =>
  iteP (x0 == (1 : Int)) (
    some (true)) (
    iteP (x0 == (2 : Int)) (
      some (true)) (
      some (x0 == (4 : Int))))
noncomputable def T230 (N : Nat) : Pk → Tr Pk := tellS s230 w230 (F230 N)
theorem T230_ok (N : Nat) : FOK Tryz.prog (230) (T230 N) :=
  (fn_ok2 ownT mix (tab230_ok N) Tryz.func230 s230 w230 [] (cuts := []) trivial (fun _ => by kernel_rfl) (by decide +kernel) (F230 N) (fun x => by kernel_rfl))
@[reducible] def s164 : SP := ⟨[.int .i64, .int .i64], []⟩
noncomputable def tab164 (N : Nat) : List (Nat × (Pk → Tr Pk)) := [(230, T230 N)]
theorem tab164_ok (N : Nat) : TabOK Tryz.prog (tab164 N) := ⟨T230_ok N, trivial⟩
@[reducible] def L164_122 : LD := ⟨122, [25, 24, 6, 1], [(.ret, [4, 5]), (.exit 0, [6])], ⟨[.int .i64, .int .i64, .sl 0, .int .i64], [.row (.int .u8) 5]⟩, [(.exit 0, ⟨[.sl 0], [.row (.int .u8) 5]⟩)]⟩
abbrev P164_122 : Type := Int × Int × Int × (List Int)
abbrev R164_122 : Type := (List Int)
noncomputable def B164_122 (N : Nat) (f : P164_122 → Option R164_122) : P164_122 → Option R164_122
  | (x0, x1, x2, x3) =>
  iteP (decide (x0 < x1)) (
    iteP (decide (IntKind.wrap IntKind.i64 ((8 : Int) * x0) < (0 : Int))) (
      none ) (
      iteP (within x0 (List.length x3)) (
        Option.bind (x3[Int.toNat x0]?) fun y0 =>
        Option.bind (f (IntKind.wrap IntKind.i64 (x0 + (1 : Int)), x1, x2, List.set x3 (Int.toNat x0) (IntKind.wrap IntKind.u8 (Int.fdiv x2 ((2 : Int) ^ min (Int.toNat (IntKind.wrap IntKind.i64 ((8 : Int) * x0))) (64 : Nat)))))) fun r => some r) (
        none ))) (
    some (x3))
noncomputable def F164_122 (N : Nat) : Nat → P164_122 → Option R164_122
  | 0, _ => none
  | k + 1, x => B164_122 N (F164_122 N k) x
noncomputable def C164_122 (N : Nat) (k : Nat) : Cut := L164_122.cut (F164_122 N k)
theorem C164_122_ok (N : Nat) (k : Nat) : CutAt Tryz.prog false Tryz.f164 [] 122 (C164_122 N k) :=
  L164_122.loopT ownT mix (tab164_ok N) Tryz.f164 [] (cuts := []) trivial (by decide +kernel) (by kernel_rfl) (B164_122 N) (F164_122 N) (fun _ => rfl) (fun _ _ => rfl) (fun f x => by kernel_rfl) k
@[reducible] def w164 : List SP := [⟨[.tup [.str, .int .i64]], []⟩]
noncomputable def F164 (N : Nat) : (Int × Int) → Option (ByteArray × Int)
  | (x0, x1) =>
  Option.bind (F230 N x0) fun y0 =>
  iteP (!y0) (
    some ((ByteArray.mk #[], (1 : Int)))) (
    iteP (decide (x1 < (0 : Int))) (
      some ((ByteArray.mk #[], (1 : Int)))) (
      iteP (decide (IntKind.wrap IntKind.i64 ((8 : Int) * x0) < (0 : Int))) (
        none ) (
        iteP (Int.fdiv x1 ((2 : Int) ^ min (Int.toNat (IntKind.wrap IntKind.i64 ((8 : Int) * x0))) (64 : Nat)) != (0 : Int)) (
          some ((ByteArray.mk #[], (1 : Int)))) (
          iteP (decide ((0 : Int) ≤ x0 ∧ x0 ≤ x0 ∧ x0 * (1 : Int) ≤ (140737488355328 : Int) ∧ x0 ≤ (140737488355328 : Int))) (
            Option.bind (F164_122 N N ((0 : Int), x0, x1, List.replicate (Int.toNat x0) (0 : Int))) fun y1 =>
            some ((stringOf y1, (0 : Int)))) (
            none )))))
noncomputable def T164 (N : Nat) : Pk → Tr Pk := tellS s164 w164 (F164 N)
theorem T164_ok (N : Nat) : FOK Tryz.prog (164) (T164 N) :=
  (fn_ok2 ownT mix (tab164_ok N) Tryz.func164 s164 w164 [] (cuts := [(122, C164_122 N N)]) ⟨C164_122_ok N N, trivial⟩ (fun _ => by kernel_rfl) (by decide +kernel) (F164 N) (fun x => by kernel_rfl))
@[reducible] def s231 : SP := ⟨[.slp 0 .h .h], [.row (.int .u8) 5]⟩
noncomputable def tab231 (N : Nat) : List (Nat × (Pk → Tr Pk)) := []
theorem tab231_ok (N : Nat) : TabOK Tryz.prog (tab231 N) := trivial
@[reducible] def L231_6 : LD := ⟨6, [2, 3, 0], [(.exit 0, [])], ⟨[.int .i64, .int .i64, .slp 0 .h .h], [.row (.int .u8) 5]⟩, [(.exit 0, ⟨[], [.row (.int .u8) 5]⟩)]⟩
abbrev P231_6 : Type := Int × Int × Nat × Nat × (List Int)
abbrev R231_6 : Type := (List Int)
noncomputable def B231_6 (N : Nat) (f : P231_6 → Option R231_6) : P231_6 → Option R231_6
  | (x0, x1, x2, x3, x4) =>
  iteP (decide (x0 < x1)) (
    iteP (within x1 x3) (
      Option.bind (x4[x2 + Int.toNat x1]?) fun y0 =>
      iteP (within x0 x3) (
        Option.bind (x4[x2 + Int.toNat x0]?) fun y1 =>
        iteP (within x0 x3) (
          Option.bind (x4[x2 + Int.toNat x0]?) fun y2 =>
          iteP (within x1 x3) (
            Option.bind ((List.set x4 (x2 + Int.toNat x0) y0)[x2 + Int.toNat x1]?) fun y3 =>
            Option.bind (f (IntKind.wrap IntKind.i64 (x0 + (1 : Int)), IntKind.wrap IntKind.i64 (x1 - (1 : Int)), x2, x3, List.set (List.set x4 (x2 + Int.toNat x0) y0) (x2 + Int.toNat x1) y1)) fun r => some r) (
            none )) (
          none )) (
        none )) (
      none )) (
    some (x4))
noncomputable def F231_6 (N : Nat) : Nat → P231_6 → Option R231_6
  | 0, _ => none
  | k + 1, x => B231_6 N (F231_6 N k) x
noncomputable def C231_6 (N : Nat) (k : Nat) : Cut := L231_6.cut (F231_6 N k)
theorem C231_6_ok (N : Nat) (k : Nat) : CutAt Tryz.prog false Tryz.f231 [0] 6 (C231_6 N k) :=
  L231_6.loopT ownT mix (tab231_ok N) Tryz.f231 [0] (cuts := []) trivial (by decide +kernel) (by kernel_rfl) (B231_6 N) (F231_6 N) (fun _ => rfl) (fun _ _ => rfl) (fun f x => by kernel_rfl) k
@[reducible] def w231 : List SP := [⟨[.tup []], [.row (.int .u8) 5]⟩]
noncomputable def F231 (N : Nat) : (Nat × Nat × (List Int)) → Option ((List Int))
  | (x0, x1, x2) =>
  Option.bind (F231_6 N N ((0 : Int), IntKind.wrap IntKind.i64 ((↑x1 : Int) - (1 : Int)), x0, x1, x2)) fun y0 =>
  some (y0)
noncomputable def T231 (N : Nat) : Pk → Tr Pk := tellS s231 w231 (F231 N)
theorem T231_ok (N : Nat) : FOK Tryz.prog (231) (T231 N) :=
  (fn_ok2 ownT mix (tab231_ok N) Tryz.func231 s231 w231 [0] (cuts := [(6, C231_6 N N)]) ⟨C231_6_ok N N, trivial⟩ (fun _ => by kernel_rfl) (by decide +kernel) (F231 N) (fun x => by kernel_rfl))
@[reducible] def s165 : SP := ⟨[.str], []⟩
noncomputable def tab165 (N : Nat) : List (Nat × (Pk → Tr Pk)) := [(231, T231 N)]
theorem tab165_ok (N : Nat) : TabOK Tryz.prog (tab165 N) := ⟨T231_ok N, trivial⟩
@[reducible] def w165 : List SP := [⟨[.str], []⟩]
noncomputable def F165 (N : Nat) : (ByteArray) → Option (ByteArray)
  | x0 =>
  iteP (decide (ByteArray.size x0 ≤ (140737488355328 : Nat))) (
    Option.bind (F231 N ((0 : Nat), List.length (bytesOf x0), bytesOf x0)) fun y0 =>
    some (stringOf y0)) (
    none )
noncomputable def T165 (N : Nat) : Pk → Tr Pk := tellS s165 w165 (F165 N)
theorem T165_ok (N : Nat) : FOK Tryz.prog (165) (T165 N) :=
  (fn_ok2 ownT mix (tab165_ok N) Tryz.func165 s165 w165 [] (cuts := []) trivial (fun _ => by kernel_rfl) (by decide +kernel) (F165 N) (fun x => by kernel_rfl))
@[reducible] def s100 : SP := ⟨[.int .i64, .int .i64], []⟩
noncomputable def tab100 (N : Nat) : List (Nat × (Pk → Tr Pk)) := [(164, T164 N), (165, T165 N)]
theorem tab100_ok (N : Nat) : TabOK Tryz.prog (tab100 N) := ⟨T164_ok N, T165_ok N, trivial⟩
@[reducible] def w100 : List SP := [⟨[.tup [.str, .int .i64]], []⟩]
noncomputable def F100 (N : Nat) : (Int × Int) → Option (ByteArray × Int)
  | (x0, x1) =>
  Option.bind (F164 N (x0, x1)) fun y0 =>
  Option.bind (F165 N y0.1) fun y1 =>
  some ((y1, y0.2))
noncomputable def T100 (N : Nat) : Pk → Tr Pk := tellS s100 w100 (F100 N)
theorem T100_ok (N : Nat) : FOK Tryz.prog (100) (T100 N) :=
  (fn_ok2 ownT mix (tab100_ok N) Tryz.func100 s100 w100 [] (cuts := []) trivial (fun _ => by kernel_rfl) (by decide +kernel) (F100 N) (fun x => by kernel_rfl))
@[reducible] def s58 : SP := ⟨[.int .i64], []⟩
noncomputable def tab58 (N : Nat) : List (Nat × (Pk → Tr Pk)) := [(100, T100 N)]
theorem tab58_ok (N : Nat) : TabOK Tryz.prog (tab58 N) := ⟨T100_ok N, trivial⟩
@[reducible] def w58 : List SP := [⟨[.str], []⟩]
noncomputable def F58 (N : Nat) : (Int) → Option (ByteArray)
  | x0 =>
  Option.bind (F100 N ((4 : Int), x0)) fun y0 =>
  some y0.1
noncomputable def T58 (N : Nat) : Pk → Tr Pk := tellS s58 w58 (F58 N)
theorem T58_ok (N : Nat) : FOK Tryz.prog (58) (T58 N) :=
  (fn_ok2 ownT mix (tab58_ok N) Tryz.func58 s58 w58 [] (cuts := []) trivial (fun _ => by kernel_rfl) (by decide +kernel) (F58 N) (fun x => by kernel_rfl))
@[reducible] def s188 : SP := ⟨[.int .i64], []⟩
noncomputable def tab188 (N : Nat) : List (Nat × (Pk → Tr Pk)) := []
theorem tab188_ok (N : Nat) : TabOK Tryz.prog (tab188 N) := trivial
@[reducible] def L188_26 : LD := ⟨26, [0, 4], [(.ret, [2]), (.exit 0, [0])], ⟨[.int .i64, .int .i64], []⟩, [(.exit 0, ⟨[.int .i64], []⟩)]⟩
abbrev P188_26 : Type := Int × Int
abbrev R188_26 : Type := Int
noncomputable def B188_26 (N : Nat) (f : P188_26 → Option R188_26) : P188_26 → Option R188_26
  | (x0, x1) =>
  iteP (decide (x1 < (8 : Int))) (
    iteP (IntKind.wrap IntKind.i64 (↑(BitVec.toNat (BitVec.ofInt (64 : Nat) x0 &&& BitVec.ofInt (64 : Nat) (1 : Int))) : Int) == (1 : Int)) (
      Option.bind (f (IntKind.wrap IntKind.i64 (↑(BitVec.toNat (BitVec.ofInt (64 : Nat) (Int.fdiv x0 (2 : Int)) ^^^ BitVec.ofInt (64 : Nat) (3988292384 : Int))) : Int), IntKind.wrap IntKind.i64 (x1 + (1 : Int)))) fun r => some r) (
      Option.bind (f (Int.fdiv x0 (2 : Int), IntKind.wrap IntKind.i64 (x1 + (1 : Int)))) fun r => some r)) (
    some (x0))
noncomputable def F188_26 (N : Nat) : Nat → P188_26 → Option R188_26
  | 0, _ => none
  | k + 1, x => B188_26 N (F188_26 N k) x
noncomputable def C188_26 (N : Nat) (k : Nat) : Cut := L188_26.cut (F188_26 N k)
theorem C188_26_ok (N : Nat) (k : Nat) : CutAt Tryz.prog false Tryz.f188 [] 26 (C188_26 N k) :=
  L188_26.loopT ownT mix (tab188_ok N) Tryz.f188 [] (cuts := []) trivial (by decide +kernel) (by kernel_rfl) (B188_26 N) (F188_26 N) (fun _ => rfl) (fun _ _ => rfl) (fun f x => by kernel_rfl) k
@[reducible] def w188 : List SP := [⟨[.int .i64], []⟩]
noncomputable def F188 (N : Nat) : (Int) → Option (Int)
  | x0 =>
  Option.bind (F188_26 N N (x0, (0 : Int))) fun y0 =>
  some (y0)
noncomputable def T188 (N : Nat) : Pk → Tr Pk := tellS s188 w188 (F188 N)
theorem T188_ok (N : Nat) : FOK Tryz.prog (188) (T188 N) :=
  (fn_ok2 ownT mix (tab188_ok N) Tryz.func188 s188 w188 [] (cuts := [(26, C188_26 N N)]) ⟨C188_26_ok N N, trivial⟩ (fun _ => by kernel_rfl) (by decide +kernel) (F188 N) (fun x => by kernel_rfl))
@[reducible] def s118 : SP := ⟨[], []⟩
noncomputable def tab118 (N : Nat) : List (Nat × (Pk → Tr Pk)) := [(188, T188 N)]
theorem tab118_ok (N : Nat) : TabOK Tryz.prog (tab118 N) := ⟨T188_ok N, trivial⟩
@[reducible] def L118_58 : LD := ⟨58, [6, 5, 1], [(.ret, [0]), (.exit 0, [1])], ⟨[.int .i64, .int .i64, .sl 0], [.row (.int .i64) 3]⟩, [(.exit 0, ⟨[.sl 0], [.row (.int .i64) 3]⟩)]⟩
abbrev P118_58 : Type := Int × Int × (List Int)
abbrev R118_58 : Type := (List Int)
noncomputable def B118_58 (N : Nat) (f : P118_58 → Option R118_58) : P118_58 → Option R118_58
  | (x0, x1, x2) =>
  iteP (decide (x0 < x1)) (
    Option.bind (F188 N x0) fun y0 =>
    iteP (within x0 (List.length x2)) (
      Option.bind (x2[Int.toNat x0]?) fun y1 =>
      Option.bind (f (IntKind.wrap IntKind.i64 (x0 + (1 : Int)), x1, List.set x2 (Int.toNat x0) y0)) fun r => some r) (
      none )) (
    some (x2))
noncomputable def F118_58 (N : Nat) : Nat → P118_58 → Option R118_58
  | 0, _ => none
  | k + 1, x => B118_58 N (F118_58 N k) x
noncomputable def C118_58 (N : Nat) (k : Nat) : Cut := L118_58.cut (F118_58 N k)
theorem C118_58_ok (N : Nat) (k : Nat) : CutAt Tryz.prog false Tryz.f118 [] 58 (C118_58 N k) :=
  L118_58.loopT ownT mix (tab118_ok N) Tryz.f118 [] (cuts := []) trivial (by decide +kernel) (by kernel_rfl) (B118_58 N) (F118_58 N) (fun _ => rfl) (fun _ _ => rfl) (fun f x => by kernel_rfl) k
@[reducible] def w118 : List SP := [⟨[.sl 0], [.row (.int .i64) 3]⟩]
noncomputable def F118 (N : Nat) : (Unit) → Option ((List Int))
  | () =>
  Option.bind (F118_58 N N ((0 : Int), (256 : Int), List.replicate (256 : Nat) (0 : Int))) fun y0 =>
  some (y0)
noncomputable def T118 (N : Nat) : Pk → Tr Pk := tellS s118 w118 (F118 N)
theorem T118_ok (N : Nat) : FOK Tryz.prog (118) (T118 N) :=
  (fn_ok2 ownT mix (tab118_ok N) Tryz.func118 s118 w118 [] (cuts := [(58, C118_58 N N)]) ⟨C118_58_ok N N, trivial⟩ (fun _ => by kernel_rfl) (by decide +kernel) (F118 N) (fun x => by kernel_rfl))
@[reducible] def s189 : SP := ⟨[.ro (.int .i64), .int .i64, .str], []⟩
noncomputable def tab189 (N : Nat) : List (Nat × (Pk → Tr Pk)) := [(118, T118 N)]
theorem tab189_ok (N : Nat) : TabOK Tryz.prog (tab189 N) := ⟨T118_ok N, trivial⟩
@[reducible] def L189_122 : LD := ⟨122, [1, 16, 15, 0, 2], [(.ret, [6]), (.exit 0, [1])], ⟨[.int .i64, .int .i64, .int .i64, .sl 0, .str], [.row (.int .i64) 3]⟩, [(.exit 0, ⟨[.int .i64], []⟩)]⟩
abbrev P189_122 : Type := Int × Int × Int × ByteArray × (List Int)
abbrev R189_122 : Type := Int
noncomputable def B189_122 (N : Nat) (f : P189_122 → Option R189_122) : P189_122 → Option R189_122
  | (x0, x1, x2, x3, x4) =>
  iteP (decide (x1 < x2)) (
    iteP (decide ((0 : Int) ≤ x1)) (
      Option.bind (x3[Int.toNat x1]?) fun y0 =>
      iteP (within (IntKind.wrap IntKind.i64 (↑(BitVec.toNat (BitVec.ofInt (64 : Nat) (IntKind.wrap IntKind.i64 (↑(BitVec.toNat (BitVec.ofInt (64 : Nat) x0 ^^^ BitVec.ofInt (64 : Nat) (IntKind.wrap IntKind.i64 (↑(UInt8.toNat y0) : Int)))) : Int)) &&& BitVec.ofInt (64 : Nat) (255 : Int))) : Int)) (List.length x4)) (
        Option.bind (x4[Int.toNat (IntKind.wrap IntKind.i64 (↑(BitVec.toNat (BitVec.ofInt (64 : Nat) (IntKind.wrap IntKind.i64 (↑(BitVec.toNat (BitVec.ofInt (64 : Nat) x0 ^^^ BitVec.ofInt (64 : Nat) (IntKind.wrap IntKind.i64 (↑(UInt8.toNat y0) : Int)))) : Int)) &&& BitVec.ofInt (64 : Nat) (255 : Int))) : Int))]?) fun y1 =>
        Option.bind (f (IntKind.wrap IntKind.i64 (↑(BitVec.toNat (BitVec.ofInt (64 : Nat) y1 ^^^ BitVec.ofInt (64 : Nat) (Int.fdiv x0 (256 : Int)))) : Int), IntKind.wrap IntKind.i64 (x1 + (1 : Int)), x2, x3, x4)) fun r => some r) (
        none )) (
      none )) (
    some (x0))
noncomputable def F189_122 (N : Nat) : Nat → P189_122 → Option R189_122
  | 0, _ => none
  | k + 1, x => B189_122 N (F189_122 N k) x
noncomputable def C189_122 (N : Nat) (k : Nat) : Cut := L189_122.cut (F189_122 N k)
theorem C189_122_ok (N : Nat) (k : Nat) : CutAt Tryz.prog false Tryz.f189 [] 122 (C189_122 N k) :=
  L189_122.loopT ownT mix (tab189_ok N) Tryz.f189 [] (cuts := []) trivial (by decide +kernel) (by kernel_rfl) (B189_122 N) (F189_122 N) (fun _ => rfl) (fun _ _ => rfl) (fun f x => by kernel_rfl) k
@[reducible] def L189_122b : LD := ⟨122, [1, 16, 15, 0, 2], [(.ret, [6]), (.exit 0, [1])], ⟨[.int .i64, .int .i64, .int .i64, .ro (.int .i64), .str], []⟩, [(.exit 0, ⟨[.int .i64], []⟩)]⟩
abbrev P189_122b : Type := Int × Int × Int × (List Int) × ByteArray
abbrev R189_122b : Type := Int
noncomputable def B189_122b (N : Nat) (f : P189_122b → Option R189_122b) : P189_122b → Option R189_122b
  | (x0, x1, x2, x3, x4) =>
  iteP (decide (x1 < x2)) (
    iteP (decide ((0 : Int) ≤ x1)) (
      Option.bind (x4[Int.toNat x1]?) fun y0 =>
      iteP (within (IntKind.wrap IntKind.i64 (↑(BitVec.toNat (BitVec.ofInt (64 : Nat) (IntKind.wrap IntKind.i64 (↑(BitVec.toNat (BitVec.ofInt (64 : Nat) x0 ^^^ BitVec.ofInt (64 : Nat) (IntKind.wrap IntKind.i64 (↑(UInt8.toNat y0) : Int)))) : Int)) &&& BitVec.ofInt (64 : Nat) (255 : Int))) : Int)) (List.length x3)) (
        Option.bind (x3[Int.toNat (IntKind.wrap IntKind.i64 (↑(BitVec.toNat (BitVec.ofInt (64 : Nat) (IntKind.wrap IntKind.i64 (↑(BitVec.toNat (BitVec.ofInt (64 : Nat) x0 ^^^ BitVec.ofInt (64 : Nat) (IntKind.wrap IntKind.i64 (↑(UInt8.toNat y0) : Int)))) : Int)) &&& BitVec.ofInt (64 : Nat) (255 : Int))) : Int))]?) fun y1 =>
        Option.bind (f (IntKind.wrap IntKind.i64 (↑(BitVec.toNat (BitVec.ofInt (64 : Nat) y1 ^^^ BitVec.ofInt (64 : Nat) (Int.fdiv x0 (256 : Int)))) : Int), IntKind.wrap IntKind.i64 (x1 + (1 : Int)), x2, x3, x4)) fun r => some r) (
        none )) (
      none )) (
    some (x0))
noncomputable def F189_122b (N : Nat) : Nat → P189_122b → Option R189_122b
  | 0, _ => none
  | k + 1, x => B189_122b N (F189_122b N k) x
noncomputable def C189_122b (N : Nat) (k : Nat) : Cut := L189_122b.cut (F189_122b N k)
theorem C189_122b_ok (N : Nat) (k : Nat) : CutAt Tryz.prog false Tryz.f189 [] 122 (C189_122b N k) :=
  L189_122b.loopT ownT mix (tab189_ok N) Tryz.f189 [] (cuts := [(122, C189_122 N N)]) ⟨C189_122_ok N N, trivial⟩ (by decide +kernel) (by kernel_rfl) (B189_122b N) (F189_122b N) (fun _ => rfl) (fun _ _ => rfl) (fun f x => by kernel_rfl) k
@[reducible] def w189 : List SP := [⟨[.int .i64], []⟩]
noncomputable def F189 (N : Nat) : ((List Int) × Int × ByteArray) → Option (Int)
  | (x0, x1, x2) =>
  iteP ((↑(List.length x0) : Int) != (256 : Int)) (
    Option.bind (F118 N ()) fun y0 =>
    Option.bind (F189_122 N N (IntKind.wrap IntKind.i64 (↑(BitVec.toNat (BitVec.ofInt (64 : Nat) x1 &&& BitVec.ofInt (64 : Nat) (4294967295 : Int))) : Int), (0 : Int), (↑(ByteArray.size x2) : Int), x2, y0)) fun y1 =>
    some (y1)) (
    Option.bind (F189_122b N N (IntKind.wrap IntKind.i64 (↑(BitVec.toNat (BitVec.ofInt (64 : Nat) x1 &&& BitVec.ofInt (64 : Nat) (4294967295 : Int))) : Int), (0 : Int), (↑(ByteArray.size x2) : Int), x0, x2)) fun y2 =>
    some (y2))
noncomputable def T189 (N : Nat) : Pk → Tr Pk := tellS s189 w189 (F189 N)
theorem T189_ok (N : Nat) : FOK Tryz.prog (189) (T189 N) :=
  (fn_ok2 ownT mix (tab189_ok N) Tryz.func189 s189 w189 [] (cuts := [(122, orC L189_122.s.I (C189_122 N N) (C189_122b N N))]) ⟨fun c' h => orC_ok (C189_122_ok N N c' h) (C189_122b_ok N N c' h) rfl rfl, trivial⟩ (fun _ => by kernel_rfl) (by decide +kernel) (F189 N) (fun x => by kernel_rfl))
@[reducible] def s119 : SP := ⟨[.ro (.int .i64), .ro (.str)], []⟩
noncomputable def tab119 (N : Nat) : List (Nat × (Pk → Tr Pk)) := [(189, T189 N)]
theorem tab119_ok (N : Nat) : TabOK Tryz.prog (tab119 N) := ⟨T189_ok N, trivial⟩
@[reducible] def L119_58 : LD := ⟨58, [5, 10, 9, 8, 0], [(.ret, [4]), (.exit 0, [5])], ⟨[.int .i64, .int .i64, .int .i64, .ro (.str), .ro (.int .i64)], []⟩, [(.exit 0, ⟨[.int .i64], []⟩)]⟩
abbrev P119_58 : Type := Int × Int × Int × (List ByteArray) × (List Int)
abbrev R119_58 : Type := Int
noncomputable def B119_58 (N : Nat) (f : P119_58 → Option R119_58) : P119_58 → Option R119_58
  | (x0, x1, x2, x3, x4) =>
  iteP (decide (x1 < x2)) (
    iteP (within x1 (List.length x3)) (
      Option.bind (x3[Int.toNat x1]?) fun y0 =>
      Option.bind (F189 N (x4, x0, y0)) fun y1 =>
      Option.bind (f (y1, IntKind.wrap IntKind.i64 (x1 + (1 : Int)), x2, x3, x4)) fun r => some r) (
      none )) (
    some (x0))
noncomputable def F119_58 (N : Nat) : Nat → P119_58 → Option R119_58
  | 0, _ => none
  | k + 1, x => B119_58 N (F119_58 N k) x
noncomputable def C119_58 (N : Nat) (k : Nat) : Cut := L119_58.cut (F119_58 N k)
theorem C119_58_ok (N : Nat) (k : Nat) : CutAt Tryz.prog false Tryz.f119 [] 58 (C119_58 N k) :=
  L119_58.loopT ownT mix (tab119_ok N) Tryz.f119 [] (cuts := []) trivial (by decide +kernel) (by kernel_rfl) (B119_58 N) (F119_58 N) (fun _ => rfl) (fun _ _ => rfl) (fun f x => by kernel_rfl) k
@[reducible] def w119 : List SP := [⟨[.int .i64], []⟩]
noncomputable def F119 (N : Nat) : ((List Int) × (List ByteArray)) → Option (Int)
  | (x0, x1) =>
  Option.bind (F119_58 N N ((4294967295 : Int), (0 : Int), (↑(List.length x1) : Int), x1, x0)) fun y0 =>
  some (IntKind.wrap IntKind.i64 (↑(BitVec.toNat (BitVec.ofInt (64 : Nat) y0 ^^^ BitVec.ofInt (64 : Nat) (4294967295 : Int))) : Int))
noncomputable def T119 (N : Nat) : Pk → Tr Pk := tellS s119 w119 (F119 N)
theorem T119_ok (N : Nat) : FOK Tryz.prog (119) (T119 N) :=
  (fn_ok2 ownT mix (tab119_ok N) Tryz.func119 s119 w119 [] (cuts := [(58, C119_58 N N)]) ⟨C119_58_ok N N, trivial⟩ (fun _ => by kernel_rfl) (by decide +kernel) (F119 N) (fun x => by kernel_rfl))
@[reducible] def s59 : SP := ⟨[.str, .str], []⟩
noncomputable def tab59 (N : Nat) : List (Nat × (Pk → Tr Pk)) := [(118, T118 N), (119, T119 N)]
theorem tab59_ok (N : Nat) : TabOK Tryz.prog (tab59 N) := ⟨T118_ok N, T119_ok N, trivial⟩
@[reducible] def w59 : List SP := [⟨[.int .i64], []⟩]
noncomputable def F59 (N : Nat) : (ByteArray × ByteArray) → Option (Int)
  | (x0, x1) =>
  Option.bind (F118 N ()) fun y0 =>
  Option.bind (F119 N (y0, [x0, x1])) fun y1 =>
  some (y1)
noncomputable def T59 (N : Nat) : Pk → Tr Pk := tellS s59 w59 (F59 N)
theorem T59_ok (N : Nat) : FOK Tryz.prog (59) (T59 N) :=
  (fn_ok2 ownT mix (tab59_ok N) Tryz.func59 s59 w59 [] (cuts := []) trivial (fun _ => by kernel_rfl) (by decide +kernel) (F59 N) (fun x => by kernel_rfl))
@[reducible] def s18 : SP := ⟨[.str, .str], []⟩
noncomputable def tab18 (N : Nat) : List (Nat × (Pk → Tr Pk)) := [(58, T58 N), (59, T59 N)]
theorem tab18_ok (N : Nat) : TabOK Tryz.prog (tab18 N) := ⟨T58_ok N, T59_ok N, trivial⟩
@[reducible] def w18 : List SP := [⟨[.str], []⟩]
noncomputable def F18 (N : Nat) : (ByteArray × ByteArray) → Option (ByteArray)
  | (x0, x1) =>
  iteP ((↑(ByteArray.size x0) : Int) != (4 : Int)) (
    some (ByteArray.mk #[])) (
    Option.bind (F58 N (↑(ByteArray.size x1) : Int)) fun y0 =>
    iteP (decide ((↑(ByteArray.size y0 + ByteArray.size x0) : Int) > (9223372036854775807 : Int))) (
      none ) (
      iteP (decide ((↑(ByteArray.size (y0 ++ x0) + ByteArray.size x1) : Int) > (9223372036854775807 : Int))) (
        none ) (
        Option.bind (F59 N (x0, x1)) fun y1 =>
        Option.bind (F58 N y1) fun y2 =>
        iteP (decide ((↑(ByteArray.size (y0 ++ x0 ++ x1) + ByteArray.size y2) : Int) > (9223372036854775807 : Int))) (
          none ) (
          some (y0 ++ x0 ++ x1 ++ y2)))))
noncomputable def T18 (N : Nat) : Pk → Tr Pk := tellS s18 w18 (F18 N)
theorem T18_ok (N : Nat) : FOK Tryz.prog (18) (T18 N) :=
  (fn_ok2 ownT mix (tab18_ok N) Tryz.func18 s18 w18 [] (cuts := []) trivial (fun _ => by kernel_rfl) (by decide +kernel) (F18 N) (fun x => by kernel_rfl))
@[reducible] def s122a : SP := ⟨[.adr 0 []], [.var 95 (.agg [.adr 0 [], .sl 1]), .row (.int .u8) 5]⟩
noncomputable def tab122a (N : Nat) : List (Nat × (Pk → Tr Pk)) := []
theorem tab122a_ok (N : Nat) : TabOK Tryz.prog (tab122a N) := trivial
@[reducible] def w122a : List SP := [⟨[.tup []], [.var 95 (.agg [.adr 0 [], .sl 1]), .row (.int .u8) 5]⟩]
noncomputable def F122a (N : Nat) : ((List Int)) → Option ((List Int))
  | x0 =>
  some (x0)
noncomputable def T122a (N : Nat) : Pk → Tr Pk := tellS s122a w122a (F122a N)
theorem T122a_ok (N : Nat) : FOK Tryz.prog (122) (T122a N) :=
  (fn_ok2 ownT mix (tab122a_ok N) Tryz.func122 s122a w122a [0, 0] (cuts := []) trivial (fun _ => by kernel_rfl) (by decide +kernel) (F122a N) (fun x => by kernel_rfl))
@[reducible] def s62a : SP := ⟨[.adr 0 [], .str], [.var 95 (.agg [.adr 0 [], .sl 1]), .row (.int .u8) 5]⟩
noncomputable def tab62a (N : Nat) : List (Nat × (Pk → Tr Pk)) := [(122, T122a N)]
theorem tab62a_ok (N : Nat) : TabOK Tryz.prog (tab62a N) := ⟨T122a_ok N, trivial⟩
@[reducible] def w62a : List SP := [⟨[.tup [.int .i64, .nili]], [.var 95 (.agg [.adr 0 [], .sl 1]), .row (.int .u8) 5]⟩]
noncomputable def F62a (N : Nat) : (ByteArray × (List Int)) → Option (Int × (List Int))
  | (x0, x1) =>
  Option.bind (F122a N x1) fun y0 =>
  iteP (decide ((List.length y0 + List.length (bytesOf x0)) * (1 : Nat) ≤ (140737488355328 : Nat) ∧ List.length y0 + List.length (bytesOf x0) ≤ (140737488355328 : Nat))) (
    some (((↑(ByteArray.size x0) : Int), y0 ++ bytesOf x0))) (
    none )
noncomputable def T62a (N : Nat) : Pk → Tr Pk := tellS s62a w62a (F62a N)
theorem T62a_ok (N : Nat) : FOK Tryz.prog (62) (T62a N) :=
  (fn_ok2 ownT mix (tab62a_ok N) Tryz.func62 s62a w62a [0, 0] (cuts := []) trivial (fun _ => by kernel_rfl) (by decide +kernel) (F62a N) (fun x => by kernel_rfl))
@[reducible] def s63 : SP := ⟨[.int .i64], []⟩
noncomputable def tab63 (N : Nat) : List (Nat × (Pk → Tr Pk)) := [(58, T58 N)]
theorem tab63_ok (N : Nat) : TabOK Tryz.prog (tab63 N) := ⟨T58_ok N, trivial⟩
@[reducible] def w63 : List SP := [⟨[.str], []⟩]
noncomputable def F63 (N : Nat) : (Int) → Option (ByteArray)
  | x0 =>
  Option.bind (F58 N x0) fun y0 =>
  iteP (decide ((0 : Int) ≤ (1 : Int) ∧ (1 : Int) ≤ (↑(ByteArray.size y0) : Int))) (
    some (ByteArray.extract y0 (1 : Nat) (ByteArray.size y0))) (
    none )
noncomputable def T63 (N : Nat) : Pk → Tr Pk := tellS s63 w63 (F63 N)
theorem T63_ok (N : Nat) : FOK Tryz.prog (63) (T63 N) :=
  (fn_ok2 ownT mix (tab63_ok N) Tryz.func63 s63 w63 [] (cuts := []) trivial (fun _ => by kernel_rfl) (by decide +kernel) (F63 N) (fun x => by kernel_rfl))
@[reducible] def s125 : SP := ⟨[.int .i64], []⟩
noncomputable def tab125 (N : Nat) : List (Nat × (Pk → Tr Pk)) := []
theorem tab125_ok (N : Nat) : TabOK Tryz.prog (tab125 N) := trivial
@[reducible] def w125 : List SP := [⟨[.int .i64], []⟩]
noncomputable def F125 (N : Nat) : (Int) → Option (Int)
  | x0 =>
  iteP (x0 == (3 : Int)) (
    some ((1 : Int))) (
    some ((3 : Int)))
noncomputable def T125 (N : Nat) : Pk → Tr Pk := tellS s125 w125 (F125 N)
theorem T125_ok (N : Nat) : FOK Tryz.prog (125) (T125 N) :=
  (fn_ok2 ownT mix (tab125_ok N) Tryz.func125 s125 w125 [] (cuts := []) trivial (fun _ => by kernel_rfl) (by decide +kernel) (F125 N) (fun x => by kernel_rfl))
@[reducible] def s180 : SP := ⟨[.ro (.int .i64), .int .i64], []⟩
noncomputable def tab180 (N : Nat) : List (Nat × (Pk → Tr Pk)) := []
theorem tab180_ok (N : Nat) : TabOK Tryz.prog (tab180 N) := trivial
@[reducible] def L180_26 : LD := ⟨26, [7, 1, 0, 8], [(.ret, [4]), (.exit 0, [])], ⟨[.int .i64, .int .i64, .ro (.int .i64), .int .i64], []⟩, [(.ret, ⟨[.int .i64], []⟩), (.exit 0, ⟨[], []⟩)]⟩
abbrev P180_26 : Type := Int × Int × (List Int) × Int
abbrev R180_26 : Type := ((Int) ⊕ (Unit))
noncomputable def B180_26 (N : Nat) (f : P180_26 → Option R180_26) : P180_26 → Option R180_26
  | (x0, x1, x2, x3) =>
  iteP (decide (x3 < x0)) (
    iteP (within x3 (List.length x2)) (
      Option.bind (x2[Int.toNat x3]?) fun y0 =>
      iteP (x1 == y0) (
        some (.inl (x3))) (
        Option.bind (f (x0, x1, x2, IntKind.wrap IntKind.i64 (x3 + (1 : Int)))) fun r => match r with | .inl y => some (.inl y) | .inr y => some (.inr y))) (
      none )) (
    some (.inr (())))
noncomputable def F180_26 (N : Nat) : Nat → P180_26 → Option R180_26
  | 0, _ => none
  | k + 1, x => B180_26 N (F180_26 N k) x
noncomputable def C180_26 (N : Nat) (k : Nat) : Cut := L180_26.cut (F180_26 N k)
theorem C180_26_ok (N : Nat) (k : Nat) : CutAt Tryz.prog false Tryz.f180 [] 26 (C180_26 N k) :=
  L180_26.loopT ownT mix (tab180_ok N) Tryz.f180 [] (cuts := []) trivial (by decide +kernel) (by kernel_rfl) (B180_26 N) (F180_26 N) (fun _ => rfl) (fun _ _ => rfl) (fun f x => by kernel_rfl) k
@[reducible] def w180 : List SP := [⟨[.int .i64], []⟩]
noncomputable def F180 (N : Nat) : ((List Int) × Int) → Option (Int)
  | (x0, x1) =>
  Option.bind (F180_26 N N ((↑(List.length x0) : Int), x1, x0, (0 : Int))) fun y0 =>
  match y0 with
  | .inl y1 =>
    some (y1)
  | .inr y1 =>
    some ((-1 : Int))
noncomputable def T180 (N : Nat) : Pk → Tr Pk := tellS s180 w180 (F180 N)
theorem T180_ok (N : Nat) : FOK Tryz.prog (180) (T180 N) :=
  (fn_ok2 ownT mix (tab180_ok N) Tryz.func180 s180 w180 [] (cuts := [(26, C180_26 N N)]) ⟨C180_26_ok N N, trivial⟩ (fun _ => by kernel_rfl) (by decide +kernel) (F180 N) (fun x => by kernel_rfl))
@[reducible] def s129 : SP := ⟨[.adr 0 [], .int .u8], [.var 95 (.agg [.nilp, .sl 1]), .row (.int .u8) 5]⟩
noncomputable def tab129 (N : Nat) : List (Nat × (Pk → Tr Pk)) := [(122, T122 N)]
theorem tab129_ok (N : Nat) : TabOK Tryz.prog (tab129 N) := ⟨T122_ok N, trivial⟩
@[reducible] def w129 : List SP := [⟨[.nili], [.var 95 (.agg [.adr 0 [], .sl 1]), .row (.int .u8) 5]⟩]
noncomputable def F129 (N : Nat) : (Int × (List Int)) → Option ((List Int))
  | (x0, x1) =>
  Option.bind (F122 N x1) fun y0 =>
  iteP (decide ((List.length y0 + List.length [x0]) * (1 : Nat) ≤ (140737488355328 : Nat) ∧ List.length y0 + List.length [x0] ≤ (140737488355328 : Nat))) (
    some (y0 ++ [x0])) (
    none )
noncomputable def T129 (N : Nat) : Pk → Tr Pk := tellS s129 w129 (F129 N)
theorem T129_ok (N : Nat) : FOK Tryz.prog (129) (T129 N) :=
  (fn_ok2 ownT mix (tab129_ok N) Tryz.func129 s129 w129 [0] (cuts := []) trivial (fun _ => by kernel_rfl) (by decide +kernel) (F129 N) (fun x => by kernel_rfl))
@[reducible] def s129a : SP := ⟨[.adr 0 [], .int .u8], [.var 95 (.agg [.adr 0 [], .sl 1]), .row (.int .u8) 5]⟩
noncomputable def tab129a (N : Nat) : List (Nat × (Pk → Tr Pk)) := [(122, T122a N)]
theorem tab129a_ok (N : Nat) : TabOK Tryz.prog (tab129a N) := ⟨T122a_ok N, trivial⟩
@[reducible] def w129a : List SP := [⟨[.nili], [.var 95 (.agg [.adr 0 [], .sl 1]), .row (.int .u8) 5]⟩]
noncomputable def F129a (N : Nat) : (Int × (List Int)) → Option ((List Int))
  | (x0, x1) =>
  Option.bind (F122a N x1) fun y0 =>
  iteP (decide ((List.length y0 + List.length [x0]) * (1 : Nat) ≤ (140737488355328 : Nat) ∧ List.length y0 + List.length [x0] ≤ (140737488355328 : Nat))) (
    some (y0 ++ [x0])) (
    none )
noncomputable def T129a (N : Nat) : Pk → Tr Pk := tellS s129a w129a (F129a N)
theorem T129a_ok (N : Nat) : FOK Tryz.prog (129) (T129a N) :=
  (fn_ok2 ownT mix (tab129a_ok N) Tryz.func129 s129a w129a [0, 0] (cuts := []) trivial (fun _ => by kernel_rfl) (by decide +kernel) (F129a N) (fun x => by kernel_rfl))
@[reducible] def s126 : SP := ⟨[.agg [.agg [.int .i64, .int .i64, .ro (.int .i64)], .ro (.int .i64)], .int .i64], []⟩
noncomputable def tab126 (N : Nat) : List (Nat × (Pk → Tr Pk)) := [(63, T63 N), (62, orT s62.I (T62 N) (T62a N)), (180, T180 N), (129, orT s129.I (T129 N) (T129a N))]
theorem tab126_ok (N : Nat) : TabOK Tryz.prog (tab126 N) := ⟨T63_ok N, orT_ok (T62_ok N) (T62a_ok N), T180_ok N, orT_ok (T129_ok N) (T129a_ok N), trivial⟩
@[reducible] def L126_58n : LD := ⟨58, [24, 23, 22, 2, 5], [(.ret, [4]), (.exit 0, [5])], ⟨[.int .i64, .int .i64, .ro (.int .i64), .adr 0 [], .adr 1 []], [.var 33 (.agg [.agg [.int .i64, .int .i64, .ro (.int .i64)], .ro (.int .i64)]), .var 95 (.agg [.adr 1 [], .sl 2]), .row (.int .u8) 5]⟩, [(.exit 0, ⟨[.adr 0 []], [.var 95 (.agg [.adr 0 [], .sl 1]), .row (.int .u8) 5]⟩), (.exit 0, ⟨[.adr 0 []], [.var 95 (.agg [.nilp, .sl 1]), .row (.int .u8) 5]⟩)]⟩
abbrev P126_58n : Type := Int × Int × (List Int) × Int × Int × (List Int) × (List Int) × (List Int)
abbrev R126_58n : Type := (((List Int)) ⊕ ((List Int)))
noncomputable def B126_58n (N : Nat) (f : P126_58n → Option R126_58n) : P126_58n → Option R126_58n
  | (x0, x1, x2, x3, x4, x5, x6, x7) =>
  iteP (decide (x0 < x1)) (
    iteP (within x0 (List.length x2)) (
      Option.bind (x2[Int.toNat x0]?) fun y0 =>
      iteP ((↑(List.length x6) : Int) == (0 : Int)) (
        Option.bind (F63 N y0) fun y1 =>
        Option.bind (F62a N (y1, x7)) fun y2 =>
        Option.bind (f (IntKind.wrap IntKind.i64 (x0 + (1 : Int)), x1, x2, x3, x4, x5, x6, y2.2)) fun r => match r with | .inl y => some (.inl y) | .inr y => some (.inr y)) (
        Option.bind (F180 N (x6, y0)) fun y3 =>
        Option.bind (F129a N (IntKind.wrap IntKind.u8 y3, x7)) fun y4 =>
        Option.bind (f (IntKind.wrap IntKind.i64 (x0 + (1 : Int)), x1, x2, x3, x4, x5, x6, y4)) fun r => match r with | .inl y => some (.inl y) | .inr y => some (.inr y))) (
      none )) (
    some (.inl (x7)))
noncomputable def F126_58n (N : Nat) : Nat → P126_58n → Option R126_58n
  | 0, _ => none
  | k + 1, x => B126_58n N (F126_58n N k) x
noncomputable def C126_58n (N : Nat) (k : Nat) : Cut := L126_58n.cut (F126_58n N k)
theorem C126_58n_ok (N : Nat) (k : Nat) : CutAt Tryz.prog false Tryz.f126 [] 58 (C126_58n N k) :=
  L126_58n.loopT ownT mix (tab126_ok N) Tryz.f126 [] (cuts := []) trivial (by decide +kernel) (by kernel_rfl) (B126_58n N) (F126_58n N) (fun _ => rfl) (fun _ _ => rfl) (fun f x => by kernel_rfl) k
@[reducible] def L126_58 : LD := ⟨58, L126_58n.live, L126_58n.out, ⟨[.int .i64, .int .i64, .ro (.int .i64), .adr 0 [], .adr 1 []], [.var 33 (.agg [.agg [.int .i64, .int .i64, .ro (.int .i64)], .ro (.int .i64)]), .var 95 (.agg [.nilp, .sl 2]), .row (.int .u8) 5]⟩, L126_58n.w⟩
noncomputable def B126_58 (N : Nat) (f : (Int × Int × (List Int) × Int × Int × (List Int) × (List Int) × (List Int)) → Option ((((List Int)) ⊕ ((List Int))))) : (Int × Int × (List Int) × Int × Int × (List Int) × (List Int) × (List Int)) → Option ((((List Int)) ⊕ ((List Int))))
  | (x0, x1, x2, x3, x4, x5, x6, x7) =>
  iteP (decide (x0 < x1)) (
    iteP (within x0 (List.length x2)) (
      Option.bind (x2[Int.toNat x0]?) fun y0 =>
      iteP ((↑(List.length x6) : Int) == (0 : Int)) (
        Option.bind (F63 N y0) fun y1 =>
        Option.bind (F62 N (y1, x7)) fun y2 =>
        Option.bind (f (IntKind.wrap IntKind.i64 (x0 + (1 : Int)), x1, x2, x3, x4, x5, x6, y2.2)) fun r => match r with | .inl y => some (.inl y) | .inr y => some (.inr y)) (
        Option.bind (F180 N (x6, y0)) fun y3 =>
        Option.bind (F129 N (IntKind.wrap IntKind.u8 y3, x7)) fun y4 =>
        Option.bind (f (IntKind.wrap IntKind.i64 (x0 + (1 : Int)), x1, x2, x3, x4, x5, x6, y4)) fun r => match r with | .inl y => some (.inl y) | .inr y => some (.inr y))) (
      none )) (
    some (.inr (x7)))
noncomputable def F126_58 (N : Nat) (k : Nat) : (Int × Int × (List Int) × Int × Int × (List Int) × (List Int) × (List Int)) → Option ((((List Int)) ⊕ ((List Int)))) := B126_58 N (F126_58n N k)
noncomputable def C126_58 (N : Nat) (k : Nat) : Cut := L126_58.cut (F126_58 N k)
theorem C126_58_ok (N : Nat) (k : Nat) : CutAt Tryz.prog false Tryz.f126 [] 58 (C126_58 N k) :=
  L126_58.loop2T ownT mix (tab126_ok N) L126_58n.s Tryz.f126 [] (cuts := [(58, C126_58n N N)]) ⟨C126_58n_ok N N, trivial⟩ (by decide +kernel) (by kernel_rfl) (B126_58 N) (B126_58n N) (F126_58n N) (fun _ => rfl) (fun _ _ => rfl) (fun f g x => by kernel_rfl) (fun f g x => by kernel_rfl) k
@[reducible] def w126 : List SP := [⟨[.str], []⟩]
noncomputable def F126 (N : Nat) : (Int × Int × (List Int) × (List Int) × Int) → Option (ByteArray)
  | (x0, x1, x2, x3, x4) =>
  iteP (decide ((0 : Int) ≤ IntKind.wrap IntKind.i64 (IntKind.wrap IntKind.i64 (x4 + (1 : Int)) * x0) ∧ IntKind.wrap IntKind.i64 (IntKind.wrap IntKind.i64 (x4 + (1 : Int)) * x0) ≤ (↑(List.length x2) : Int))) (
    iteP (decide ((0 : Int) ≤ IntKind.wrap IntKind.i64 (x4 * x0) ∧ IntKind.wrap IntKind.i64 (x4 * x0) ≤ (↑(Int.toNat (IntKind.wrap IntKind.i64 (IntKind.wrap IntKind.i64 (x4 + (1 : Int)) * x0))) : Int))) (
      Option.bind (F126_58 N N ((0 : Int), (↑(List.length (List.take (Int.toNat (IntKind.wrap IntKind.i64 (IntKind.wrap IntKind.i64 (x4 + (1 : Int)) * x0)) - Int.toNat (IntKind.wrap IntKind.i64 (x4 * x0))) (List.drop (Int.toNat (IntKind.wrap IntKind.i64 (x4 * x0))) x2))) : Int), List.take (Int.toNat (IntKind.wrap IntKind.i64 (IntKind.wrap IntKind.i64 (x4 + (1 : Int)) * x0)) - Int.toNat (IntKind.wrap IntKind.i64 (x4 * x0))) (List.drop (Int.toNat (IntKind.wrap IntKind.i64 (x4 * x0))) x2), x0, x1, x2, x3, [])) fun y0 =>
      match y0 with
      | .inl y1 =>
        iteP (decide ((0 : Nat) < List.length y1 ∧ List.length y1 ≤ (140737488355328 : Nat))) (
          some (stringOf y1)) (
          none )
      | .inr y1 =>
        iteP (decide ((0 : Nat) < List.length y1 ∧ List.length y1 ≤ (140737488355328 : Nat))) (
          some (stringOf y1)) (
          none )) (
      none )) (
    none )
noncomputable def T126 (N : Nat) : Pk → Tr Pk := tellS s126 w126 (F126 N)
theorem T126_ok (N : Nat) : FOK Tryz.prog (126) (T126 N) :=
  (fn_ok2 ownT mix (tab126_ok N) Tryz.func126 s126 w126 [] (cuts := [(58, orC L126_58n.s.I (C126_58n N N) (C126_58 N N))]) ⟨fun c' h => orC_ok (C126_58n_ok N N c' h) (C126_58_ok N N c' h) rfl rfl, trivial⟩ (fun _ => by kernel_rfl) (by decide +kernel) (F126 N) (fun x => by kernel_rfl))
@[reducible] def s195 : SP := ⟨[.int .i64, .int .i64, .str, .str], []⟩
noncomputable def tab195 (N : Nat) : List (Nat × (Pk → Tr Pk)) := []
theorem tab195_ok (N : Nat) : TabOK Tryz.prog (tab195 N) := trivial
@[reducible] def w195 : List SP := [⟨[.bool], []⟩]
noncomputable def F195 (N : Nat) : (Int × Int × ByteArray × ByteArray) → Option (Bool)
  | (x0, x1, x2, x3) =>
  iteP (decide ((0 : Int) ≤ x0)) (
    iteP (decide (x0 ≤ (4 : Int))) (
      iteP (decide (x1 ≥ (1 : Int))) (
        iteP (ByteArray.toList x2 == []) (
          some (true)) (
          some ((↑(ByteArray.size x2) : Int) == (↑(ByteArray.size x3) : Int)))) (
        some (false))) (
      some (false))) (
    some (false))
noncomputable def T195 (N : Nat) : Pk → Tr Pk := tellS s195 w195 (F195 N)
theorem T195_ok (N : Nat) : FOK Tryz.prog (195) (T195 N) :=
  (fn_ok2 ownT mix (tab195_ok N) Tryz.func195 s195 w195 [] (cuts := []) trivial (fun _ => by kernel_rfl) (by decide +kernel) (F195 N) (fun x => by kernel_rfl))
@[reducible] def s198 : SP := ⟨[.int .i64, .ro (.int .u8), .adr 0 []], [.var 9 (.str)]⟩
noncomputable def tab198 (N : Nat) : List (Nat × (Pk → Tr Pk)) := []
theorem tab198_ok (N : Nat) : TabOK Tryz.prog (tab198 N) := trivial
@[reducible] def w198 : List SP := [⟨[.int .i64], [.var 9 (.str)]⟩]
noncomputable def F198 (N : Nat) : (Int × (List Int) × ByteArray) → Option (Int × ByteArray)
  | (x0, x1, x2) =>
  iteP (decide ((0 : Int) ≤ x0)) (
    Option.bind (x2[Int.toNat x0]?) fun y0 =>
    some ((IntKind.wrap IntKind.i64 (↑(UInt8.toNat y0) : Int), x2))) (
    none )
noncomputable def T198 (N : Nat) : Pk → Tr Pk := tellS s198 w198 (F198 N)
theorem T198_ok (N : Nat) : FOK Tryz.prog (198) (T198 N) :=
  (fn_ok2 ownT mix (tab198_ok N) Tryz.func198 s198 w198 [0] (cuts := []) trivial (fun _ => by kernel_rfl) (by decide +kernel) (F198 N) (fun x => by kernel_rfl))
@[reducible] def s253 : SP := ⟨[.int .i64, .int .i64], []⟩
noncomputable def tab253 (N : Nat) : List (Nat × (Pk → Tr Pk)) := []
theorem tab253_ok (N : Nat) : TabOK Tryz.prog (tab253 N) := trivial
@[reducible] def w253 : List SP := [⟨[.int .i64], []⟩]
noncomputable def F253 (N : Nat) : (Int × Int) → Option (Int)
  | (x0, x1) =>
  some (if IntKind.wrap IntKind.i64 (x1 - x0) > IntKind.wrap IntKind.i64 (x0 - x1) then IntKind.wrap IntKind.i64 (x1 - x0) else IntKind.wrap IntKind.i64 (x0 - x1))
noncomputable def T253 (N : Nat) : Pk → Tr Pk := tellS s253 w253 (F253 N)
theorem T253_ok (N : Nat) : FOK Tryz.prog (253) (T253 N) :=
  (fn_ok2 ownT mix (tab253_ok N) Tryz.func253 s253 w253 [] (cuts := []) trivial (fun _ => by kernel_rfl) (by decide +kernel) (F253 N) (fun x => by kernel_rfl))
@[reducible] def s291 : SP := ⟨[.int .i64, .int .i64, .int .i64], []⟩
noncomputable def tab291 (N : Nat) : List (Nat × (Pk → Tr Pk)) := [(253, T253 N)]
theorem tab291_ok (N : Nat) : TabOK Tryz.prog (tab291 N) := ⟨T253_ok N, trivial⟩
@[reducible] def L291_122 : LD := ⟨122, [8, 20, 19, 7], [(.ret, [6]), (.exit 0, [8])], ⟨[.int .i64, .int .i64, .arr (.int .i64) 2, .int .i64], []⟩, [(.exit 0, ⟨[.int .i64], []⟩)]⟩
abbrev P291_122 : Type := Int × Int × (List Int) × Int
abbrev R291_122 : Type := Int
noncomputable def B291_122 (N : Nat) (f : P291_122 → Option R291_122) : P291_122 → Option R291_122
  | (x0, x1, x2, x3) =>
  iteP (decide (x1 < (2 : Int))) (
    iteP (within x1 (List.length x2)) (
      Option.bind (x2[Int.toNat x1]?) fun y0 =>
      Option.bind (F253 N (x3, y0)) fun y1 =>
      Option.bind (F253 N (x3, x0)) fun y2 =>
      iteP (decide (y1 < y2)) (
        Option.bind (f (y0, IntKind.wrap IntKind.i64 (x1 + (1 : Int)), x2, x3)) fun r => some r) (
        Option.bind (f (x0, IntKind.wrap IntKind.i64 (x1 + (1 : Int)), x2, x3)) fun r => some r)) (
      none )) (
    some (x0))
noncomputable def F291_122 (N : Nat) : Nat → P291_122 → Option R291_122
  | 0, _ => none
  | k + 1, x => B291_122 N (F291_122 N k) x
noncomputable def C291_122 (N : Nat) (k : Nat) : Cut := L291_122.cut (F291_122 N k)
theorem C291_122_ok (N : Nat) (k : Nat) : CutAt Tryz.prog false Tryz.f291 [] 122 (C291_122 N k) :=
  L291_122.loopT ownT mix (tab291_ok N) Tryz.f291 [] (cuts := []) trivial (by decide +kernel) (by kernel_rfl) (B291_122 N) (F291_122 N) (fun _ => rfl) (fun _ _ => rfl) (fun f x => by kernel_rfl) k
@[reducible] def w291 : List SP := [⟨[.int .i64], []⟩]
noncomputable def F291 (N : Nat) : (Int × Int × Int) → Option (Int)
  | (x0, x1, x2) =>
  Option.bind (F291_122 N N (x0, (0 : Int), [x1, x2], IntKind.wrap IntKind.i64 (IntKind.wrap IntKind.i64 (x0 + x1) - x2))) fun y0 =>
  some (y0)
noncomputable def T291 (N : Nat) : Pk → Tr Pk := tellS s291 w291 (F291 N)
theorem T291_ok (N : Nat) : FOK Tryz.prog (291) (T291 N) :=
  (fn_ok2 ownT mix (tab291_ok N) Tryz.func291 s291 w291 [] (cuts := [(122, C291_122 N N)]) ⟨C291_122_ok N N, trivial⟩ (fun _ => by kernel_rfl) (by decide +kernel) (F291 N) (fun x => by kernel_rfl))
@[reducible] def s254 : SP := ⟨[.int .i64, .int .i64, .int .i64, .int .i64], []⟩
noncomputable def tab254 (N : Nat) : List (Nat × (Pk → Tr Pk)) := [(291, T291 N)]
theorem tab254_ok (N : Nat) : TabOK Tryz.prog (tab254 N) := ⟨T291_ok N, trivial⟩
@[reducible] def w254 : List SP := [⟨[.int .i64], []⟩]
noncomputable def F254 (N : Nat) : (Int × Int × Int × Int) → Option (Int)
  | (x0, x1, x2, x3) =>
  iteP (x0 == (1 : Int)) (
    some (x1)) (
    iteP (x0 == (2 : Int)) (
      some (x2)) (
      iteP (x0 == (3 : Int)) (
        some (IntKind.wrap IntKind.i64 (Int.tdiv (IntKind.wrap IntKind.i64 (x1 + x2)) (2 : Int)))) (
        iteP (x0 == (4 : Int)) (
          Option.bind (F291 N (x1, x2, x3)) fun y0 =>
          some (y0)) (
          some ((0 : Int))))))
noncomputable def T254 (N : Nat) : Pk → Tr Pk := tellS s254 w254 (F254 N)
theorem T254_ok (N : Nat) : FOK Tryz.prog (254) (T254 N) :=
  (fn_ok2 ownT mix (tab254_ok N) Tryz.func254 s254 w254 [] (cuts := []) trivial (fun _ => by kernel_rfl) (by decide +kernel) (F254 N) (fun x => by kernel_rfl))
@[reducible] def s196 : SP := ⟨[.int .i64, .int .i64], []⟩
noncomputable def tab196 (N : Nat) : List (Nat × (Pk → Tr Pk)) := []
theorem tab196_ok (N : Nat) : TabOK Tryz.prog (tab196 N) := trivial
@[reducible] def w196 : List SP := [⟨[.int .i64], []⟩]
noncomputable def F196 (N : Nat) : (Int × Int) → Option (Int)
  | (x0, x1) =>
  some (IntKind.wrap IntKind.i64 (x0 - x1))
noncomputable def T196 (N : Nat) : Pk → Tr Pk := tellS s196 w196 (F196 N)
theorem T196_ok (N : Nat) : FOK Tryz.prog (196) (T196 N) :=
  (fn_ok2 ownT mix (tab196_ok N) Tryz.func196 s196 w196 [] (cuts := []) trivial (fun _ => by kernel_rfl) (by decide +kernel) (F196 N) (fun x => by kernel_rfl))
@[reducible] def s197 : SP := ⟨[.int .i64, .int .i64, .str, .str, .fn 196, .clo 198 [.adr 0 []]], [.var 9 (.str)]⟩
noncomputable def tab197 (N : Nat) : List (Nat × (Pk → Tr Pk)) := [(198, T198 N), (254, T254 N), (196, T196 N)]
theorem tab197_ok (N : Nat) : TabOK Tryz.prog (tab197 N) := ⟨T198_ok N, T254_ok N, T196_ok N, trivial⟩
@[reducible] def L197_14951 : LD := ⟨14951, [16, 17, 13, 14, 15, 23, 22, 5, 2, 1, 4, 3, 0], [(.ret, [12]), (.exit 1, [23, 13, 22, 5, 2, 1, 4, 3, 0]), (.exit 0, [13]), (.normal, [23, 13, 22, 5, 2, 1, 4, 3, 0])], ⟨[.int .i64, .int .i64, .sl 1, .int .i64, .int .i64, .int .i64, .int .i64, .clo 198 [.adr 0 []], .str, .int .i64, .fn 196, .str, .int .i64], [.var 9 (.str), .row (.int .u8) 5]⟩, [(.normal, ⟨[.int .i64, .sl 1, .int .i64, .clo 198 [.adr 0 []], .str, .int .i64, .fn 196, .str, .int .i64], [.var 9 (.str), .row (.int .u8) 5]⟩)]⟩
noncomputable def F197_14951 (N : Nat) : (Int × Int × Int × Int × Int × Int × ByteArray × Int × ByteArray × Int × ByteArray × (List Int)) → Option (Int × Int × ByteArray × Int × ByteArray × Int × ByteArray × (List Int))
  | (x0, x1, x2, x3, x4, x5, x6, x7, x8, x9, x10, x11) =>
  iteP (!ByteArray.toList x6 == []) (
    iteP (decide ((0 : Int) ≤ x2)) (
      Option.bind (x6[Int.toNat x2]?) fun y0 =>
      iteP (decide (x2 ≥ x7)) (
        iteP (decide ((0 : Int) ≤ IntKind.wrap IntKind.i64 (x2 - x7))) (
          Option.bind (x6[Int.toNat (IntKind.wrap IntKind.i64 (x2 - x7))]?) fun y1 =>
          iteP (decide ((0 : Int) ≤ x2)) (
            Option.bind (x8[Int.toNat x2]?) fun y2 =>
            Option.bind (F254 N (x9, x3, IntKind.wrap IntKind.i64 (↑(UInt8.toNat y0) : Int), IntKind.wrap IntKind.i64 (↑(UInt8.toNat y1) : Int))) fun y3 =>
            Option.bind (F196 N (IntKind.wrap IntKind.i64 (↑(UInt8.toNat y2) : Int), y3)) fun y4 =>
            iteP (decide ((List.length x11 + List.length [IntKind.wrap IntKind.u8 y4]) * (1 : Nat) ≤ (140737488355328 : Nat) ∧ List.length x11 + List.length [IntKind.wrap IntKind.u8 y4] ≤ (140737488355328 : Nat))) (
              some ((x4, x5, x6, x7, x8, x9, x10, x11 ++ [IntKind.wrap IntKind.u8 y4]))) (
              none )) (
            none )) (
          none )) (
        iteP (decide ((0 : Int) ≤ x2)) (
          Option.bind (x8[Int.toNat x2]?) fun y5 =>
          Option.bind (F254 N (x9, x3, IntKind.wrap IntKind.i64 (↑(UInt8.toNat y0) : Int), x1)) fun y6 =>
          Option.bind (F196 N (IntKind.wrap IntKind.i64 (↑(UInt8.toNat y5) : Int), y6)) fun y7 =>
          iteP (decide ((List.length x11 + List.length [IntKind.wrap IntKind.u8 y7]) * (1 : Nat) ≤ (140737488355328 : Nat) ∧ List.length x11 + List.length [IntKind.wrap IntKind.u8 y7] ≤ (140737488355328 : Nat))) (
            some ((x4, x5, x6, x7, x8, x9, x10, x11 ++ [IntKind.wrap IntKind.u8 y7]))) (
            none )) (
          none ))) (
      none )) (
    iteP (decide ((0 : Int) ≤ x2)) (
      Option.bind (x8[Int.toNat x2]?) fun y8 =>
      Option.bind (F254 N (x9, x3, x0, x1)) fun y9 =>
      Option.bind (F196 N (IntKind.wrap IntKind.i64 (↑(UInt8.toNat y8) : Int), y9)) fun y10 =>
      iteP (decide ((List.length x11 + List.length [IntKind.wrap IntKind.u8 y10]) * (1 : Nat) ≤ (140737488355328 : Nat) ∧ List.length x11 + List.length [IntKind.wrap IntKind.u8 y10] ≤ (140737488355328 : Nat))) (
        some ((x4, x5, x6, x7, x8, x9, x10, x11 ++ [IntKind.wrap IntKind.u8 y10]))) (
        none )) (
      none ))
noncomputable def C197_14951 (N : Nat) (_ : Nat) : Cut := L197_14951.cut (F197_14951 N)
theorem C197_14951_ok (N : Nat) (k : Nat) : CutAt Tryz.prog false Tryz.f197 [0] 14951 (C197_14951 N k) :=
  L197_14951.pieceT ownT mix (tab197_ok N) Tryz.f197 [0] (cuts := []) trivial (by decide +kernel) (by kernel_rfl) (F197_14951 N) (fun x => by kernel_rfl)
@[reducible] def L197_58 : LD := ⟨58, [13, 23, 22, 5, 2, 1, 4, 3, 0], [(.ret, [12]), (.exit 0, [13])], ⟨[.sl 1, .int .i64, .int .i64, .clo 198 [.adr 0 []], .str, .int .i64, .fn 196, .str, .int .i64], [.var 9 (.str), .row (.int .u8) 5]⟩, [(.exit 0, ⟨[.sl 1], [.var 9 (.str), .row (.int .u8) 5]⟩)]⟩
abbrev P197_58 : Type := Int × Int × ByteArray × Int × ByteArray × Int × ByteArray × (List Int)
abbrev R197_58 : Type := ByteArray × (List Int)
noncomputable def B197_58 (N : Nat) (f : P197_58 → Option R197_58) : P197_58 → Option R197_58
  | (x0, x1, x2, x3, x4, x5, x6, x7) =>
  iteP (decide (x0 < x1)) (
    iteP (decide (x0 ≥ x3)) (
      Option.bind (F198 N (IntKind.wrap IntKind.i64 (x0 - x3), x7, x6)) fun y0 =>
      Option.bind (F197_14951 N ((0 : Int), (0 : Int), x0, y0.1, x0, x1, x2, x3, x4, x5, y0.2, x7)) fun (y1_0, y1_1, y1_2, y1_3, y1_4, y1_5, y1_6, y1_7) =>
      Option.bind (f (IntKind.wrap IntKind.i64 (y1_0 + (1 : Int)), y1_1, y1_2, y1_3, y1_4, y1_5, y1_6, y1_7)) fun r => some r) (
      Option.bind (F197_14951 N ((0 : Int), (0 : Int), x0, (0 : Int), x0, x1, x2, x3, x4, x5, x6, x7)) fun (y2_0, y2_1, y2_2, y2_3, y2_4, y2_5, y2_6, y2_7) =>
      Option.bind (f (IntKind.wrap IntKind.i64 (y2_0 + (1 : Int)), y2_1, y2_2, y2_3, y2_4, y2_5, y2_6, y2_7)) fun r => some r)) (
    some ((x6, x7)))
noncomputable def F197_58 (N : Nat) : Nat → P197_58 → Option R197_58
  | 0, _ => none
  | k + 1, x => B197_58 N (F197_58 N k) x
noncomputable def C197_58 (N : Nat) (k : Nat) : Cut := L197_58.cut (F197_58 N k)
theorem C197_58_ok (N : Nat) (k : Nat) : CutAt Tryz.prog false Tryz.f197 [0] 58 (C197_58 N k) :=
  L197_58.loopT ownT mix (tab197_ok N) Tryz.f197 [0] (cuts := [(14951, C197_14951 N N)]) ⟨C197_14951_ok N N, trivial⟩ (by decide +kernel) (by kernel_rfl) (B197_58 N) (F197_58 N) (fun _ => rfl) (fun _ _ => rfl) (fun f x => by kernel_rfl) k
@[reducible] def w197 : List SP := [⟨[.str], [.var 9 (.str)]⟩]
noncomputable def F197 (N : Nat) : (Int × Int × ByteArray × ByteArray × ByteArray) → Option (ByteArray × ByteArray)
  | (x0, x1, x2, x3, x4) =>
  iteP (decide ((0 : Int) ≤ (0 : Int) ∧ (0 : Int) ≤ (↑(ByteArray.size x3) : Int) ∧ (↑(ByteArray.size x3) : Int) * (1 : Int) ≤ (140737488355328 : Int) ∧ (↑(ByteArray.size x3) : Int) ≤ (140737488355328 : Int))) (
    Option.bind (F197_58 N N ((0 : Int), (↑(ByteArray.size x3) : Int), x2, x1, x3, x0, x4, List.replicate (0 : Nat) (0 : Int))) fun y0 =>
    some ((stringOf y0.2, y0.1))) (
    none )
noncomputable def T197 (N : Nat) : Pk → Tr Pk := tellS s197 w197 (F197 N)
theorem T197_ok (N : Nat) : FOK Tryz.prog (197) (T197 N) :=
  (fn_ok2 ownT mix (tab197_ok N) Tryz.func197 s197 w197 [0] (cuts := [(14951, C197_14951 N N), (58, C197_58 N N)]) ⟨C197_14951_ok N N, C197_58_ok N N, trivial⟩ (fun _ => by kernel_rfl) (by decide +kernel) (F197 N) (fun x => by kernel_rfl))
@[reducible] def s128 : SP := ⟨[.int .i64, .int .i64, .str, .str], []⟩
noncomputable def tab128 (N : Nat) : List (Nat × (Pk → Tr Pk)) := [(195, T195 N), (197, T197 N)]
theorem tab128_ok (N : Nat) : TabOK Tryz.prog (tab128 N) := ⟨T195_ok N, T197_ok N, trivial⟩
@[reducible] def w128 : List SP := [⟨[.tup [.str, .int .i64]], []⟩]
noncomputable def F128 (N : Nat) : (Int × Int × ByteArray × ByteArray) → Option (ByteArray × Int)
  | (x0, x1, x2, x3) =>
  Option.bind (F195 N (x0, x1, x2, x3)) fun y0 =>
  iteP (!y0) (
    some ((ByteArray.mk #[], (1 : Int)))) (
    Option.bind (F197 N (x0, x1, x2, x3, x3)) fun y1 =>
    some ((y1.1, (0 : Int))))
noncomputable def T128 (N : Nat) : Pk → Tr Pk := tellS s128 w128 (F128 N)
theorem T128_ok (N : Nat) : FOK Tryz.prog (128) (T128 N) :=
  (fn_ok2 ownT mix (tab128_ok N) Tryz.func128 s128 w128 [] (cuts := []) trivial (fun _ => by kernel_rfl) (by decide +kernel) (F128 N) (fun x => by kernel_rfl))
@[reducible] def s194 : SP := ⟨[.str], []⟩
noncomputable def tab194 (N : Nat) : List (Nat × (Pk → Tr Pk)) := [(253, T253 N)]
theorem tab194_ok (N : Nat) : TabOK Tryz.prog (tab194 N) := ⟨T253_ok N, trivial⟩
@[reducible] def L194_58 : LD := ⟨58, [3, 9, 8, 7], [(.ret, [2]), (.exit 0, [3])], ⟨[.int .i64, .int .i64, .int .i64, .sl 0], [.row (.int .u8) 5]⟩, [(.exit 0, ⟨[.int .i64], []⟩)]⟩
abbrev P194_58 : Type := Int × Int × Int × (List Int)
abbrev R194_58 : Type := Int
noncomputable def B194_58 (N : Nat) (f : P194_58 → Option R194_58) : P194_58 → Option R194_58
  | (x0, x1, x2, x3) =>
  iteP (decide (x1 < x2)) (
    iteP (within x1 (List.length x3)) (
      Option.bind (x3[Int.toNat x1]?) fun y0 =>
      Option.bind (F253 N (IntKind.wrap IntKind.i64 (IntKind.wrap IntKind.i8 y0), (0 : Int))) fun y1 =>
      Option.bind (f (IntKind.wrap IntKind.i64 (x0 + y1), IntKind.wrap IntKind.i64 (x1 + (1 : Int)), x2, x3)) fun r => some r) (
      none )) (
    some (x0))
noncomputable def F194_58 (N : Nat) : Nat → P194_58 → Option R194_58
  | 0, _ => none
  | k + 1, x => B194_58 N (F194_58 N k) x
noncomputable def C194_58 (N : Nat) (k : Nat) : Cut := L194_58.cut (F194_58 N k)
theorem C194_58_ok (N : Nat) (k : Nat) : CutAt Tryz.prog false Tryz.f194 [] 58 (C194_58 N k) :=
  L194_58.loopT ownT mix (tab194_ok N) Tryz.f194 [] (cuts := []) trivial (by decide +kernel) (by kernel_rfl) (B194_58 N) (F194_58 N) (fun _ => rfl) (fun _ _ => rfl) (fun f x => by kernel_rfl) k
@[reducible] def w194 : List SP := [⟨[.int .i64], []⟩]
noncomputable def F194 (N : Nat) : (ByteArray) → Option (Int)
  | x0 =>
  iteP (decide (ByteArray.size x0 ≤ (140737488355328 : Nat))) (
    Option.bind (F194_58 N N ((0 : Int), (0 : Int), (↑(List.length (bytesOf x0)) : Int), bytesOf x0)) fun y0 =>
    some (y0)) (
    none )
noncomputable def T194 (N : Nat) : Pk → Tr Pk := tellS s194 w194 (F194 N)
theorem T194_ok (N : Nat) : FOK Tryz.prog (194) (T194 N) :=
  (fn_ok2 ownT mix (tab194_ok N) Tryz.func194 s194 w194 [] (cuts := [(58, C194_58 N N)]) ⟨C194_58_ok N N, trivial⟩ (fun _ => by kernel_rfl) (by decide +kernel) (F194 N) (fun x => by kernel_rfl))
@[reducible] def s127 : SP := ⟨[.int .i64, .str, .str], []⟩
noncomputable def tab127 (N : Nat) : List (Nat × (Pk → Tr Pk)) := [(128, T128 N), (194, T194 N)]
theorem tab127_ok (N : Nat) : TabOK Tryz.prog (tab127 N) := ⟨T128_ok N, T194_ok N, trivial⟩
@[reducible] def L127_58 : LD := ⟨58, [7, 8, 9, 0, 1, 2], [(.ret, [6]), (.exit 0, [7])], ⟨[.int .i64, .int .i64, .int .i64, .int .i64, .str, .str], []⟩, [(.exit 0, ⟨[.int .i64], []⟩)]⟩
abbrev P127_58 : Type := Int × Int × Int × Int × ByteArray × ByteArray
abbrev R127_58 : Type := Int
noncomputable def B127_58 (N : Nat) (f : P127_58 → Option R127_58) : P127_58 → Option R127_58
  | (x0, x1, x2, x3, x4, x5) =>
  iteP (decide (x2 ≤ (4 : Int))) (
    Option.bind (F128 N (x2, x3, x4, x5)) fun y0 =>
    Option.bind (F194 N y0.1) fun y1 =>
    iteP (y0.2 == (0 : Int)) (
      iteP (decide (x1 < (0 : Int))) (
        Option.bind (f (x2, y1, IntKind.wrap IntKind.i64 (x2 + (1 : Int)), x3, x4, x5)) fun r => some r) (
        iteP (decide (y1 < x1)) (
          Option.bind (f (x2, y1, IntKind.wrap IntKind.i64 (x2 + (1 : Int)), x3, x4, x5)) fun r => some r) (
          Option.bind (f (x0, x1, IntKind.wrap IntKind.i64 (x2 + (1 : Int)), x3, x4, x5)) fun r => some r))) (
      Option.bind (f (x0, x1, IntKind.wrap IntKind.i64 (x2 + (1 : Int)), x3, x4, x5)) fun r => some r)) (
    some (x0))
noncomputable def F127_58 (N : Nat) : Nat → P127_58 → Option R127_58
  | 0, _ => none
  | k + 1, x => B127_58 N (F127_58 N k) x
noncomputable def C127_58 (N : Nat) (k : Nat) : Cut := L127_58.cut (F127_58 N k)
theorem C127_58_ok (N : Nat) (k : Nat) : CutAt Tryz.prog false Tryz.f127 [] 58 (C127_58 N k) :=
  L127_58.loopT ownT mix (tab127_ok N) Tryz.f127 [] (cuts := []) trivial (by decide +kernel) (by kernel_rfl) (B127_58 N) (F127_58 N) (fun _ => rfl) (fun _ _ => rfl) (fun f x => by kernel_rfl) k
@[reducible] def w127 : List SP := [⟨[.int .i64], []⟩]
noncomputable def F127 (N : Nat) : (Int × ByteArray × ByteArray) → Option (Int)
  | (x0, x1, x2) =>
  Option.bind (F127_58 N N ((0 : Int), (-1 : Int), (0 : Int), x0, x1, x2)) fun y0 =>
  some (y0)
noncomputable def T127 (N : Nat) : Pk → Tr Pk := tellS s127 w127 (F127 N)
theorem T127_ok (N : Nat) : FOK Tryz.prog (127) (T127 N) :=
  (fn_ok2 ownT mix (tab127_ok N) Tryz.func127 s127 w127 [] (cuts := [(58, C127_58 N N)]) ⟨C127_58_ok N N, trivial⟩ (fun _ => by kernel_rfl) (by decide +kernel) (F127 N) (fun x => by kernel_rfl))
@[reducible] def s65 : SP := ⟨[.agg [.agg [.int .i64, .int .i64, .ro (.int .i64)], .ro (.int .i64)]], []⟩
noncomputable def tab65 (N : Nat) : List (Nat × (Pk → Tr Pk)) := [(61, T61 N), (125, T125 N), (126, T126 N), (127, T127 N), (128, T128 N), (129, orT s129.I (T129 N) (T129a N)), (62, T62a N)]
theorem tab65_ok (N : Nat) : TabOK Tryz.prog (tab65 N) := ⟨T61_ok N, T125_ok N, T126_ok N, T127_ok N, T128_ok N, orT_ok (T129_ok N) (T129a_ok N), T62a_ok N, trivial⟩
@[reducible] def L65_250n : LD := ⟨250, [5, 17, 16, 1, 3, 4], [(.ret, [2]), (.exit 0, [4])], ⟨[.str, .int .i64, .int .i64, .adr 0 [], .int .i64, .adr 1 []], [.var 33 (.agg [.agg [.int .i64, .int .i64, .ro (.int .i64)], .ro (.int .i64)]), .var 95 (.agg [.adr 1 [], .sl 2]), .row (.int .u8) 5]⟩, [(.exit 0, ⟨[.adr 0 []], [.var 95 (.agg [.adr 0 [], .sl 1]), .row (.int .u8) 5]⟩), (.exit 0, ⟨[.adr 0 []], [.var 95 (.agg [.nilp, .sl 1]), .row (.int .u8) 5]⟩)]⟩
abbrev P65_250n : Type := ByteArray × Int × Int × Int × Int × Int × (List Int) × (List Int) × (List Int)
abbrev R65_250n : Type := (((List Int)) ⊕ ((List Int)))
noncomputable def B65_250n (N : Nat) (f : P65_250n → Option R65_250n) : P65_250n → Option R65_250n
  | (x0, x1, x2, x3, x4, x5, x6, x7, x8) =>
  iteP (decide (x1 < x2)) (
    Option.bind (F126 N (x4, x5, x6, x7, x1)) fun y0 =>
    Option.bind (F127 N (x3, x0, y0)) fun y1 =>
    Option.bind (F128 N (y1, x3, x0, y0)) fun y2 =>
    Option.bind (F129a N (IntKind.wrap IntKind.u8 y1, x8)) fun y3 =>
    Option.bind (F62a N (y2.1, y3)) fun y4 =>
    Option.bind (f (y0, IntKind.wrap IntKind.i64 (x1 + (1 : Int)), x2, x3, x4, x5, x6, x7, y4.2)) fun r => match r with | .inl y => some (.inl y) | .inr y => some (.inr y)) (
    some (.inl (x8)))
noncomputable def F65_250n (N : Nat) : Nat → P65_250n → Option R65_250n
  | 0, _ => none
  | k + 1, x => B65_250n N (F65_250n N k) x
noncomputable def C65_250n (N : Nat) (k : Nat) : Cut := L65_250n.cut (F65_250n N k)
theorem C65_250n_ok (N : Nat) (k : Nat) : CutAt Tryz.prog false Tryz.f65 [] 250 (C65_250n N k) :=
  L65_250n.loopT ownT mix (tab65_ok N) Tryz.f65 [] (cuts := []) trivial (by decide +kernel) (by kernel_rfl) (B65_250n N) (F65_250n N) (fun _ => rfl) (fun _ _ => rfl) (fun f x => by kernel_rfl) k
@[reducible] def L65_250 : LD := ⟨250, L65_250n.live, L65_250n.out, ⟨[.str, .int .i64, .int .i64, .adr 0 [], .int .i64, .adr 1 []], [.var 33 (.agg [.agg [.int .i64, .int .i64, .ro (.int .i64)], .ro (.int .i64)]), .var 95 (.agg [.nilp, .sl 2]), .row (.int .u8) 5]⟩, L65_250n.w⟩
noncomputable def B65_250 (N : Nat) (f : (ByteArray × Int × Int × Int × Int × Int × (List Int) × (List Int) × (List Int)) → Option ((((List Int)) ⊕ ((List Int))))) : (ByteArray × Int × Int × Int × Int × Int × (List Int) × (List Int) × (List Int)) → Option ((((List Int)) ⊕ ((List Int))))
  | (x0, x1, x2, x3, x4, x5, x6, x7, x8) =>
  iteP (decide (x1 < x2)) (
    Option.bind (F126 N (x4, x5, x6, x7, x1)) fun y0 =>
    Option.bind (F127 N (x3, x0, y0)) fun y1 =>
    Option.bind (F128 N (y1, x3, x0, y0)) fun y2 =>
    Option.bind (F129 N (IntKind.wrap IntKind.u8 y1, x8)) fun y3 =>
    Option.bind (F62a N (y2.1, y3)) fun y4 =>
    Option.bind (f (y0, IntKind.wrap IntKind.i64 (x1 + (1 : Int)), x2, x3, x4, x5, x6, x7, y4.2)) fun r => match r with | .inl y => some (.inl y) | .inr y => some (.inr y)) (
    some (.inr (x8)))
noncomputable def F65_250 (N : Nat) (k : Nat) : (ByteArray × Int × Int × Int × Int × Int × (List Int) × (List Int) × (List Int)) → Option ((((List Int)) ⊕ ((List Int)))) := B65_250 N (F65_250n N k)
noncomputable def C65_250 (N : Nat) (k : Nat) : Cut := L65_250.cut (F65_250 N k)
theorem C65_250_ok (N : Nat) (k : Nat) : CutAt Tryz.prog false Tryz.f65 [] 250 (C65_250 N k) :=
  L65_250.loop2T ownT mix (tab65_ok N) L65_250n.s Tryz.f65 [] (cuts := [(250, C65_250n N N)]) ⟨C65_250n_ok N N, trivial⟩ (by decide +kernel) (by kernel_rfl) (B65_250 N) (B65_250n N) (F65_250n N) (fun _ => rfl) (fun _ _ => rfl) (fun f g x => by kernel_rfl) (fun f g x => by kernel_rfl) k
@[reducible] def w65 : List SP := [⟨[.str], []⟩]
noncomputable def F65 (N : Nat) : (Int × Int × (List Int) × (List Int)) → Option (ByteArray)
  | (x0, x1, x2, x3) =>
  Option.bind (F61 N (x0, x1, x2, x3)) fun y0 =>
  Option.bind (F125 N y0) fun y1 =>
  Option.bind (F65_250 N N (ByteArray.mk #[], (0 : Int), x1, y1, x0, x1, x2, x3, [])) fun y2 =>
  match y2 with
  | .inl y3 =>
    iteP (decide ((0 : Nat) < List.length y3 ∧ List.length y3 ≤ (140737488355328 : Nat))) (
      some (stringOf y3)) (
      none )
  | .inr y3 =>
    iteP (decide ((0 : Nat) < List.length y3 ∧ List.length y3 ≤ (140737488355328 : Nat))) (
      some (stringOf y3)) (
      none )
noncomputable def T65 (N : Nat) : Pk → Tr Pk := tellS s65 w65 (F65 N)
theorem T65_ok (N : Nat) : FOK Tryz.prog (65) (T65 N) :=
  (fn_ok2 ownT mix (tab65_ok N) Tryz.func65 s65 w65 [] (cuts := [(250, orC L65_250n.s.I (C65_250n N N) (C65_250 N N))]) ⟨fun c' h => orC_ok (C65_250n_ok N N c' h) (C65_250_ok N N c' h) rfl rfl, trivial⟩ (fun _ => by kernel_rfl) (by decide +kernel) (F65 N) (fun x => by kernel_rfl))
@[reducible] def s250 : SP := ⟨[.int .i64], []⟩
noncomputable def tab250 (N : Nat) : List (Nat × (Pk → Tr Pk)) := []
theorem tab250_ok (N : Nat) : TabOK Tryz.prog (tab250 N) := trivial
@[reducible] def w250 : List SP := [⟨[.tup [.int .i64, .int .i64]], []⟩]
noncomputable def F250 (N : Nat) : (Int) → Option (Int × Int)
  | x0 =>
  some ((IntKind.wrap IntKind.i64 (↑(BitVec.toNat (BitVec.ofInt (64 : Nat) x0 &&& BitVec.ofInt (64 : Nat) (65535 : Int))) : Int), IntKind.wrap IntKind.i64 (↑(BitVec.toNat (BitVec.ofInt (64 : Nat) (Int.fdiv x0 (65536 : Int)) &&& BitVec.ofInt (64 : Nat) (65535 : Int))) : Int)))
noncomputable def T250 (N : Nat) : Pk → Tr Pk := tellS s250 w250 (F250 N)
theorem T250_ok (N : Nat) : FOK Tryz.prog (250) (T250 N) :=
  (fn_ok2 ownT mix (tab250_ok N) Tryz.func250 s250 w250 [] (cuts := []) trivial (fun _ => by kernel_rfl) (by decide +kernel) (F250 N) (fun x => by kernel_rfl))
@[reducible] def s191 : SP := ⟨[.int .i64, .str], []⟩
noncomputable def tab191 (N : Nat) : List (Nat × (Pk → Tr Pk)) := [(250, T250 N)]
theorem tab191_ok (N : Nat) : TabOK Tryz.prog (tab191 N) := ⟨T250_ok N, trivial⟩
@[reducible] def L191_3626 : LD := ⟨3626, [5, 6, 21, 20, 7, 1], [(.ret, [4]), (.exit 2, [5, 6, 1, 7]), (.exit 1, [5, 6, 1]), (.exit 0, [6, 5])], ⟨[.int .i64, .int .i64, .int .i64, .int .i64, .int .i64, .str], []⟩, [(.exit 2, ⟨[.int .i64, .int .i64, .str, .int .i64], []⟩)]⟩
abbrev P191_3626 : Type := Int × Int × Int × Int × Int × ByteArray
abbrev R191_3626 : Type := Int × Int × ByteArray × Int
noncomputable def B191_3626 (N : Nat) (f : P191_3626 → Option R191_3626) : P191_3626 → Option R191_3626
  | (x0, x1, x2, x3, x4, x5) =>
  iteP (decide (x2 < x3)) (
    iteP (decide ((0 : Int) ≤ x2)) (
      Option.bind (x5[Int.toNat x2]?) fun y0 =>
      Option.bind (f (IntKind.wrap IntKind.i64 (x0 + IntKind.wrap IntKind.i64 (↑(UInt8.toNat y0) : Int)), IntKind.wrap IntKind.i64 (x1 + IntKind.wrap IntKind.i64 (x0 + IntKind.wrap IntKind.i64 (↑(UInt8.toNat y0) : Int))), IntKind.wrap IntKind.i64 (x2 + (1 : Int)), x3, x4, x5)) fun r => some r) (
      none )) (
    some ((x0, x1, x5, x4)))
noncomputable def F191_3626 (N : Nat) : Nat → P191_3626 → Option R191_3626
  | 0, _ => none
  | k + 1, x => B191_3626 N (F191_3626 N k) x
noncomputable def C191_3626 (N : Nat) (k : Nat) : Cut := L191_3626.cut (F191_3626 N k)
theorem C191_3626_ok (N : Nat) (k : Nat) : CutAt Tryz.prog false Tryz.f191 [] 3626 (C191_3626 N k) :=
  L191_3626.loopT ownT mix (tab191_ok N) Tryz.f191 [] (cuts := []) trivial (by decide +kernel) (by kernel_rfl) (B191_3626 N) (F191_3626 N) (fun _ => rfl) (fun _ _ => rfl) (fun f x => by kernel_rfl) k
@[reducible] def L191_28 : LD := ⟨28, [5, 6, 1], [(.ret, [4]), (.exit 0, [6, 5])], ⟨[.int .i64, .int .i64, .str], []⟩, [(.exit 0, ⟨[.int .i64, .int .i64], []⟩)]⟩
abbrev P191_28 : Type := Int × Int × ByteArray
abbrev R191_28 : Type := Int × Int
noncomputable def B191_28 (N : Nat) (f : P191_28 → Option R191_28) : P191_28 → Option R191_28
  | (x0, x1, x2) =>
  iteP (decide ((↑(ByteArray.size x2) : Int) > (0 : Int))) (
    Option.bind (F191_3626 N N (x0, x1, (0 : Int), if (4096 : Int) < (↑(ByteArray.size x2) : Int) then (4096 : Int) else (↑(ByteArray.size x2) : Int), if (4096 : Int) < (↑(ByteArray.size x2) : Int) then (4096 : Int) else (↑(ByteArray.size x2) : Int), x2)) fun y0 =>
    iteP (decide ((0 : Int) ≤ y0.2.2.2 ∧ y0.2.2.2 ≤ (↑(ByteArray.size y0.2.2.1) : Int))) (
      Option.bind (f (Int.tmod y0.1 (65521 : Int), Int.tmod y0.2.1 (65521 : Int), ByteArray.extract y0.2.2.1 (Int.toNat y0.2.2.2) (ByteArray.size y0.2.2.1))) fun r => some r) (
      none )) (
    some ((x1, x0)))
noncomputable def F191_28 (N : Nat) : Nat → P191_28 → Option R191_28
  | 0, _ => none
  | k + 1, x => B191_28 N (F191_28 N k) x
noncomputable def C191_28 (N : Nat) (k : Nat) : Cut := L191_28.cut (F191_28 N k)
theorem C191_28_ok (N : Nat) (k : Nat) : CutAt Tryz.prog false Tryz.f191 [] 28 (C191_28 N k) :=
  L191_28.loopT ownT mix (tab191_ok N) Tryz.f191 [] (cuts := [(3626, C191_3626 N N)]) ⟨C191_3626_ok N N, trivial⟩ (by decide +kernel) (by kernel_rfl) (B191_28 N) (F191_28 N) (fun _ => rfl) (fun _ _ => rfl) (fun f x => by kernel_rfl) k
@[reducible] def w191 : List SP := [⟨[.int .i64], []⟩]
noncomputable def F191 (N : Nat) : (Int × ByteArray) → Option (Int)
  | (x0, x1) =>
  Option.bind (F250 N x0) fun y0 =>
  Option.bind (F191_28 N N (y0.1, y0.2, x1)) fun y1 =>
  some (IntKind.wrap IntKind.i64 (↑(BitVec.toNat (BitVec.ofInt (64 : Nat) (IntKind.wrap IntKind.i64 (y1.1 * (65536 : Int))) ||| BitVec.ofInt (64 : Nat) y1.2)) : Int))
noncomputable def T191 (N : Nat) : Pk → Tr Pk := tellS s191 w191 (F191 N)
theorem T191_ok (N : Nat) : FOK Tryz.prog (191) (T191 N) :=
  (fn_ok2 ownT mix (tab191_ok N) Tryz.func191 s191 w191 [] (cuts := [(3626, C191_3626 N N), (28, C191_28 N N)]) ⟨C191_3626_ok N N, C191_28_ok N N, trivial⟩ (fun _ => by kernel_rfl) (by decide +kernel) (F191 N) (fun x => by kernel_rfl))
@[reducible] def s123 : SP := ⟨[.ro (.str)], []⟩
noncomputable def tab123 (N : Nat) : List (Nat × (Pk → Tr Pk)) := [(191, T191 N)]
theorem tab123_ok (N : Nat) : TabOK Tryz.prog (tab123 N) := ⟨T191_ok N, trivial⟩
@[reducible] def L123_58 : LD := ⟨58, [3, 8, 7, 6], [(.ret, [2]), (.exit 0, [3])], ⟨[.int .i64, .int .i64, .int .i64, .ro (.str)], []⟩, [(.exit 0, ⟨[.int .i64], []⟩)]⟩
abbrev P123_58 : Type := Int × Int × Int × (List ByteArray)
abbrev R123_58 : Type := Int
noncomputable def B123_58 (N : Nat) (f : P123_58 → Option R123_58) : P123_58 → Option R123_58
  | (x0, x1, x2, x3) =>
  iteP (decide (x1 < x2)) (
    iteP (within x1 (List.length x3)) (
      Option.bind (x3[Int.toNat x1]?) fun y0 =>
      Option.bind (F191 N (x0, y0)) fun y1 =>
      Option.bind (f (y1, IntKind.wrap IntKind.i64 (x1 + (1 : Int)), x2, x3)) fun r => some r) (
      none )) (
    some (x0))
noncomputable def F123_58 (N : Nat) : Nat → P123_58 → Option R123_58
  | 0, _ => none
  | k + 1, x => B123_58 N (F123_58 N k) x
noncomputable def C123_58 (N : Nat) (k : Nat) : Cut := L123_58.cut (F123_58 N k)
theorem C123_58_ok (N : Nat) (k : Nat) : CutAt Tryz.prog false Tryz.f123 [] 58 (C123_58 N k) :=
  L123_58.loopT ownT mix (tab123_ok N) Tryz.f123 [] (cuts := []) trivial (by decide +kernel) (by kernel_rfl) (B123_58 N) (F123_58 N) (fun _ => rfl) (fun _ _ => rfl) (fun f x => by kernel_rfl) k
@[reducible] def w123 : List SP := [⟨[.int .i64], []⟩]
noncomputable def F123 (N : Nat) : ((List ByteArray)) → Option (Int)
  | x0 =>
  Option.bind (F123_58 N N ((1 : Int), (0 : Int), (↑(List.length x0) : Int), x0)) fun y0 =>
  some (y0)
noncomputable def T123 (N : Nat) : Pk → Tr Pk := tellS s123 w123 (F123 N)
theorem T123_ok (N : Nat) : FOK Tryz.prog (123) (T123 N) :=
  (fn_ok2 ownT mix (tab123_ok N) Tryz.func123 s123 w123 [] (cuts := [(58, C123_58 N N)]) ⟨C123_58_ok N N, trivial⟩ (fun _ => by kernel_rfl) (by decide +kernel) (F123 N) (fun x => by kernel_rfl))
@[reducible] def s229 : SP := ⟨[.str], []⟩
noncomputable def tab229 (N : Nat) : List (Nat × (Pk → Tr Pk)) := []
theorem tab229_ok (N : Nat) : TabOK Tryz.prog (tab229 N) := trivial
@[reducible] def w229 : List SP := [⟨[.str], []⟩]
noncomputable def F229 (N : Nat) : (ByteArray) → Option (ByteArray)
  | x0 =>
  iteP (decide (((0 : Int) ≤ if (0 : Int) > IntKind.wrap IntKind.i64 ((↑(ByteArray.size x0) : Int) - (32768 : Int)) then (0 : Int) else IntKind.wrap IntKind.i64 ((↑(ByteArray.size x0) : Int) - (32768 : Int))) ∧ (if (0 : Int) > IntKind.wrap IntKind.i64 ((↑(ByteArray.size x0) : Int) - (32768 : Int)) then (0 : Int) else IntKind.wrap IntKind.i64 ((↑(ByteArray.size x0) : Int) - (32768 : Int))) ≤ (↑(ByteArray.size x0) : Int))) (
    some (ByteArray.extract x0 (Int.toNat (if (0 : Int) > IntKind.wrap IntKind.i64 ((↑(ByteArray.size x0) : Int) - (32768 : Int)) then (0 : Int) else IntKind.wrap IntKind.i64 ((↑(ByteArray.size x0) : Int) - (32768 : Int)))) (ByteArray.size x0))) (
    none )
noncomputable def T229 (N : Nat) : Pk → Tr Pk := tellS s229 w229 (F229 N)
theorem T229_ok (N : Nat) : FOK Tryz.prog (229) (T229 N) :=
  (fn_ok2 ownT mix (tab229_ok N) Tryz.func229 s229 w229 [] (cuts := []) trivial (fun _ => by kernel_rfl) (by decide +kernel) (F229 N) (fun x => by kernel_rfl))
@[reducible] def s286 : SP := ⟨[.adr 0 [], .int .i64], [.var 318 (.agg [.str, .mp 1, .sl 2]), .map (.str) (.int .i64), .row (.int .i64) 3]⟩
noncomputable def tab286 (N : Nat) : List (Nat × (Pk → Tr Pk)) := []
theorem tab286_ok (N : Nat) : TabOK Tryz.prog (tab286 N) := trivial
@[reducible] def w286 : List SP := [⟨[.tup []], [.var 318 (.agg [.str, .mp 1, .sl 2]), .map (.str) (.int .i64), .row (.int .i64) 3]⟩]
noncomputable def F286 (N : Nat) : (Int × ByteArray × (List (ByteArray × Int)) × (List Int)) → Option (ByteArray × (List (ByteArray × Int)) × (List Int))
  | (x0, x1, x2, x3) =>
  iteP (decide (IntKind.wrap IntKind.i64 (x0 + (3 : Int)) ≤ (↑(ByteArray.size x1) : Int))) (
    iteP (decide ((0 : Int) ≤ IntKind.wrap IntKind.i64 (x0 + (3 : Int)) ∧ IntKind.wrap IntKind.i64 (x0 + (3 : Int)) ≤ (↑(ByteArray.size x1) : Int))) (
      iteP (decide ((0 : Int) ≤ x0 ∧ x0 ≤ (↑(Int.toNat (IntKind.wrap IntKind.i64 (x0 + (3 : Int)))) : Int))) (
        iteP (mapHas Ty.str (ByteArray.extract x1 (Int.toNat x0) (Int.toNat (IntKind.wrap IntKind.i64 (x0 + (3 : Int))))) x2) (
          iteP (decide ((List.length x3 + List.length [mapGet Ty.str (ByteArray.extract x1 (Int.toNat x0) (Int.toNat (IntKind.wrap IntKind.i64 (x0 + (3 : Int))))) (0 : Int) x2]) * (8 : Nat) ≤ (140737488355328 : Nat) ∧ List.length x3 + List.length [mapGet Ty.str (ByteArray.extract x1 (Int.toNat x0) (Int.toNat (IntKind.wrap IntKind.i64 (x0 + (3 : Int))))) (0 : Int) x2] ≤ (140737488355328 : Nat))) (
            some ((x1, mapPut Ty.str (ByteArray.extract x1 (Int.toNat x0) (Int.toNat (IntKind.wrap IntKind.i64 (x0 + (3 : Int))))) x0 x2, x3 ++ [mapGet Ty.str (ByteArray.extract x1 (Int.toNat x0) (Int.toNat (IntKind.wrap IntKind.i64 (x0 + (3 : Int))))) (0 : Int) x2]))) (
            none )) (
          iteP (decide ((List.length x3 + (1 : Nat)) * (8 : Nat) ≤ (140737488355328 : Nat) ∧ List.length x3 + (1 : Nat) ≤ (140737488355328 : Nat))) (
            some ((x1, mapPut Ty.str (ByteArray.extract x1 (Int.toNat x0) (Int.toNat (IntKind.wrap IntKind.i64 (x0 + (3 : Int))))) x0 x2, x3 ++ [(-1 : Int)]))) (
            none ))) (
        none )) (
      none )) (
    iteP (decide ((List.length x3 + (1 : Nat)) * (8 : Nat) ≤ (140737488355328 : Nat) ∧ List.length x3 + (1 : Nat) ≤ (140737488355328 : Nat))) (
      some ((x1, x2, x3 ++ [(-1 : Int)]))) (
      none ))
noncomputable def T286 (N : Nat) : Pk → Tr Pk := tellS s286 w286 (F286 N)
theorem T286_ok (N : Nat) : FOK Tryz.prog (286) (T286 N) :=
  (fn_ok2 ownT mix (tab286_ok N) Tryz.func286 s286 w286 [0] (cuts := []) trivial (fun _ => by kernel_rfl) (by decide +kernel) (F286 N) (fun x => by kernel_rfl))
@[reducible] def y0 : Ty := (.cons (.int .i64) (.cons (.int .i64) (.cons (.int .i64) .unit)))
@[reducible] def s321 : SP := ⟨[.adr 0 [], .int .i64, .int .i64], [.var 318 (.agg [.str, .mp 1, .sl 2]), .map (.str) (.int .i64), .row (.int .i64) 3]⟩
noncomputable def tab321 (N : Nat) : List (Nat × (Pk → Tr Pk)) := []
theorem tab321_ok (N : Nat) : TabOK Tryz.prog (tab321 N) := trivial
@[reducible] def L321_28 : LD := ⟨28, [7, 1, 0, 2], [(.ret, [6]), (.exit 0, [7])], ⟨[.int .i64, .int .i64, .adr 0 [], .int .i64], [.var 318 (.agg [.str, .mp 1, .sl 2]), .map (.str) (.int .i64), .row (.int .i64) 3]⟩, [(.exit 0, ⟨[.int .i64], [.var 318 (.agg [.str, .mp 1, .sl 2]), .map (.str) (.int .i64), .row (.int .i64) 3]⟩)]⟩
abbrev P321_28 : Type := Int × Int × Int × ByteArray × (List (ByteArray × Int)) × (List Int)
abbrev R321_28 : Type := Int × ByteArray × (List (ByteArray × Int)) × (List Int)
noncomputable def B321_28 (N : Nat) (f : P321_28 → Option R321_28) : P321_28 → Option R321_28
  | (x0, x1, x2, x3, x4, x5) =>
  iteP (decide (x0 < (258 : Int))) (
    iteP (decide (IntKind.wrap IntKind.i64 (x2 + x0) < (↑(ByteArray.size x3) : Int))) (
      iteP (decide ((0 : Int) ≤ IntKind.wrap IntKind.i64 (x1 + x0))) (
        Option.bind (x3[Int.toNat (IntKind.wrap IntKind.i64 (x1 + x0))]?) fun y0 =>
        iteP (decide ((0 : Int) ≤ IntKind.wrap IntKind.i64 (x2 + x0))) (
          Option.bind (x3[Int.toNat (IntKind.wrap IntKind.i64 (x2 + x0))]?) fun y1 =>
          iteP ((↑(UInt8.toNat y0) : Int) == (↑(UInt8.toNat y1) : Int)) (
            Option.bind (f (IntKind.wrap IntKind.i64 (x0 + (1 : Int)), x1, x2, x3, x4, x5)) fun r => some r) (
            some ((x0, x3, x4, x5)))) (
          none )) (
        none )) (
      some ((x0, x3, x4, x5)))) (
    some ((x0, x3, x4, x5)))
noncomputable def F321_28 (N : Nat) : Nat → P321_28 → Option R321_28
  | 0, _ => none
  | k + 1, x => B321_28 N (F321_28 N k) x
noncomputable def C321_28 (N : Nat) (k : Nat) : Cut := L321_28.cut (F321_28 N k)
theorem C321_28_ok (N : Nat) (k : Nat) : CutAt Tryz.prog false Tryz.f321 [0] 28 (C321_28 N k) :=
  L321_28.loopT ownT mix (tab321_ok N) Tryz.f321 [0] (cuts := []) trivial (by decide +kernel) (by kernel_rfl) (B321_28 N) (F321_28 N) (fun _ => rfl) (fun _ _ => rfl) (fun f x => by kernel_rfl) k
@[reducible] def w321 : List SP := [⟨[.int .i64], [.var 318 (.agg [.str, .mp 1, .sl 2]), .map (.str) (.int .i64), .row (.int .i64) 3]⟩]
noncomputable def F321 (N : Nat) : (Int × Int × ByteArray × (List (ByteArray × Int)) × (List Int)) → Option (Int × ByteArray × (List (ByteArray × Int)) × (List Int))
  | (x0, x1, x2, x3, x4) =>
  Option.bind (F321_28 N N ((0 : Int), x0, x1, x2, x3, x4)) fun y0 =>
  some ((y0.1, y0.2.1, y0.2.2.1, y0.2.2.2))
noncomputable def T321 (N : Nat) : Pk → Tr Pk := tellS s321 w321 (F321 N)
theorem T321_ok (N : Nat) : FOK Tryz.prog (321) (T321 N) :=
  (fn_ok2 ownT mix (tab321_ok N) Tryz.func321 s321 w321 [0] (cuts := [(28, C321_28 N N)]) ⟨C321_28_ok N N, trivial⟩ (fun _ => by kernel_rfl) (by decide +kernel) (F321 N) (fun x => by kernel_rfl))
@[reducible] def s287 : SP := ⟨[.adr 0 [], .int .i64], [.var 318 (.agg [.str, .mp 1, .sl 2]), .map (.str) (.int .i64), .row (.int .i64) 3]⟩
noncomputable def tab287 (N : Nat) : List (Nat × (Pk → Tr Pk)) := [(321, T321 N)]
theorem tab287_ok (N : Nat) : TabOK Tryz.prog (tab287 N) := ⟨T321_ok N, trivial⟩
@[reducible] def L287_1001 : LD := ⟨1001, [7, 9, 8, 4, 1, 6, 0], [(.ret, [4, 5]), (.exit 0, [6, 4]), (.normal, [7, 9, 8, 4, 1, 6, 0])], ⟨[.int .i64, .int .i64, .bool, .adr 1 [], .int .i64, .adr 2 [], .adr 0 []], [.var 318 (.agg [.str, .mp 3, .sl 4]), .var 281 (.agg [.int .i64, .int .i64, .int .i64]), .var 281 (.agg [.int .i64, .int .i64, .int .i64]), .map (.str) (.int .i64), .row (.int .i64) 3]⟩, [(.normal, ⟨[.int .i64, .int .i64, .bool, .adr 1 [], .int .i64, .adr 2 [], .adr 0 []], [.var 318 (.agg [.str, .mp 3, .sl 4]), .var 281 (.agg [.int .i64, .int .i64, .int .i64]), .var 281 (.agg [.int .i64, .int .i64, .int .i64]), .map (.str) (.int .i64), .row (.int .i64) 3]⟩)]⟩
noncomputable def F287_1001 (N : Nat) : (Int × Int × Bool × Int × ByteArray × Int × Int × Int × Int × Int × Int × (List (ByteArray × Int)) × (List Int)) → Option (Int × Int × Bool × Int × ByteArray × Int × Int × Int × Int × Int × Int × (List (ByteArray × Int)) × (List Int))
  | (x0, x1, x2, x3, x4, x5, x6, x7, x8, x9, x10, x11, x12) =>
  Option.bind (F321 N (x0, x3, x4, x11, x12)) fun y0 =>
  iteP (decide (y0.1 > x9)) (
    iteP (within x0 (List.length y0.2.2.2)) (
      Option.bind (y0.2.2.2[Int.toNat x0]?) fun y1 =>
      some ((y1, IntKind.wrap IntKind.i64 (x1 + (1 : Int)), x2, x3, y0.2.1, x5, x6, x7, (0 : Int), y0.1, IntKind.wrap IntKind.i64 (x3 - x0), y0.2.2.1, y0.2.2.2))) (
      none )) (
    iteP (within x0 (List.length y0.2.2.2)) (
      Option.bind (y0.2.2.2[Int.toNat x0]?) fun y2 =>
      some ((y2, IntKind.wrap IntKind.i64 (x1 + (1 : Int)), x2, x3, y0.2.1, x5, x6, x7, x8, x9, x10, y0.2.2.1, y0.2.2.2))) (
      none ))
noncomputable def C287_1001 (N : Nat) (_ : Nat) : Cut := L287_1001.cut (F287_1001 N)
theorem C287_1001_ok (N : Nat) (k : Nat) : CutAt Tryz.prog false Tryz.f287 [0] 1001 (C287_1001 N k) :=
  L287_1001.pieceT ownT mix (tab287_ok N) Tryz.f287 [0] (cuts := []) trivial (by decide +kernel) (by kernel_rfl) (F287_1001 N) (fun x => by kernel_rfl)
@[reducible] def L287_250 : LD := ⟨250, [7, 9, 8, 4, 1, 6, 0], [(.ret, [4, 5]), (.exit 0, [6, 4])], ⟨[.int .i64, .int .i64, .bool, .adr 1 [], .int .i64, .adr 2 [], .adr 0 []], [.var 318 (.agg [.str, .mp 3, .sl 4]), .var 281 (.agg [.int .i64, .int .i64, .int .i64]), .var 281 (.agg [.int .i64, .int .i64, .int .i64]), .map (.str) (.int .i64), .row (.int .i64) 3]⟩, [(.exit 0, ⟨[.adr 1 [], .adr 2 []], [.var 318 (.agg [.str, .mp 3, .sl 4]), .var 281 (.agg [.int .i64, .int .i64, .int .i64]), .var 281 (.agg [.int .i64, .int .i64, .int .i64]), .map (.str) (.int .i64), .row (.int .i64) 3]⟩)]⟩
abbrev P287_250 : Type := Int × Int × Bool × Int × ByteArray × Int × Int × Int × Int × Int × Int × (List (ByteArray × Int)) × (List Int)
abbrev R287_250 : Type := ByteArray × Int × Int × Int × Int × Int × Int × (List (ByteArray × Int)) × (List Int)
noncomputable def B287_250 (N : Nat) (f : P287_250 → Option R287_250) : P287_250 → Option R287_250
  | (x0, x1, x2, x3, x4, x5, x6, x7, x8, x9, x10, x11, x12) =>
  iteP (x2) (
    iteP (decide (x1 < (64 : Int))) (
      iteP (decide (x0 ≥ (0 : Int))) (
        iteP (decide (IntKind.wrap IntKind.i64 (x3 - x0) ≤ (32768 : Int))) (
          Option.bind (F287_1001 N (x0, x1, x2, x3, x4, x5, x6, x7, x8, x9, x10, x11, x12)) fun (y0_0, y0_1, y0_2, y0_3, y0_4, y0_5, y0_6, y0_7, y0_8, y0_9, y0_10, y0_11, y0_12) =>
          Option.bind (f (y0_0, y0_1, y0_2, y0_3, y0_4, y0_5, y0_6, y0_7, y0_8, y0_9, y0_10, y0_11, y0_12)) fun r => some r) (
          some ((x4, x8, x9, x10, x5, x6, x7, x11, x12)))) (
        some ((x4, x8, x9, x10, x5, x6, x7, x11, x12)))) (
      some ((x4, x8, x9, x10, x5, x6, x7, x11, x12)))) (
    some ((x4, x8, x9, x10, x5, x6, x7, x11, x12)))
noncomputable def F287_250 (N : Nat) : Nat → P287_250 → Option R287_250
  | 0, _ => none
  | k + 1, x => B287_250 N (F287_250 N k) x
noncomputable def C287_250 (N : Nat) (k : Nat) : Cut := L287_250.cut (F287_250 N k)
theorem C287_250_ok (N : Nat) (k : Nat) : CutAt Tryz.prog false Tryz.f287 [0] 250 (C287_250 N k) :=
  L287_250.loopT ownT mix (tab287_ok N) Tryz.f287 [0] (cuts := [(1001, C287_1001 N N)]) ⟨C287_1001_ok N N, trivial⟩ (by decide +kernel) (by kernel_rfl) (B287_250 N) (F287_250 N) (fun _ => rfl) (fun _ _ => rfl) (fun f x => by kernel_rfl) k
@[reducible] def w287 : List SP := [⟨[.tup [.agg [.int .i64, .int .i64, .int .i64], .bool]], [.var 318 (.agg [.str, .mp 1, .sl 2]), .map (.str) (.int .i64), .row (.int .i64) 3]⟩]
noncomputable def F287 (N : Nat) : (Int × ByteArray × (List (ByteArray × Int)) × (List Int)) → Option (Int × Int × Int × Bool × ByteArray × (List (ByteArray × Int)) × (List Int))
  | (x0, x1, x2, x3) =>
  iteP (decide (IntKind.wrap IntKind.i64 (x0 + (3 : Int)) > (↑(ByteArray.size x1) : Int))) (
    some (((0 : Int), (0 : Int), (0 : Int), false, x1, x2, x3))) (
    iteP (decide ((0 : Int) ≤ IntKind.wrap IntKind.i64 (x0 + (3 : Int)) ∧ IntKind.wrap IntKind.i64 (x0 + (3 : Int)) ≤ (↑(ByteArray.size x1) : Int))) (
      iteP (decide ((0 : Int) ≤ x0 ∧ x0 ≤ (↑(Int.toNat (IntKind.wrap IntKind.i64 (x0 + (3 : Int)))) : Int))) (
        Option.bind (F287_250 N N (mapGet Ty.str (ByteArray.extract x1 (Int.toNat x0) (Int.toNat (IntKind.wrap IntKind.i64 (x0 + (3 : Int))))) (0 : Int) x2, (0 : Int), mapHas Ty.str (ByteArray.extract x1 (Int.toNat x0) (Int.toNat (IntKind.wrap IntKind.i64 (x0 + (3 : Int))))) x2, x0, x1, (0 : Int), (0 : Int), (0 : Int), (0 : Int), (0 : Int), (0 : Int), x2, x3)) fun (y0_0, y0_1, y0_2, y0_3, y0_4, y0_5, y0_6, y0_7, y0_8) =>
        some ((y0_1, y0_2, y0_3, decide (y0_2 ≥ (3 : Int)), y0_0, y0_7, y0_8))) (
        none )) (
      none ))
noncomputable def T287 (N : Nat) : Pk → Tr Pk := tellS s287 w287 (F287 N)
theorem T287_ok (N : Nat) : FOK Tryz.prog (287) (T287 N) :=
  (fn_ok2 ownT mix (tab287_ok N) Tryz.func287 s287 w287 [0] (cuts := [(1001, C287_1001 N N), (250, C287_250 N N)]) ⟨C287_1001_ok N N, C287_250_ok N N, trivial⟩ (fun _ => by kernel_rfl) (by decide +kernel) (F287 N) (fun x => by kernel_rfl))
@[reducible] def s251 : SP := ⟨[.str, .str], []⟩
noncomputable def tab251 (N : Nat) : List (Nat × (Pk → Tr Pk)) := [(229, T229 N), (286, T286 N), (287, T287 N)]
theorem tab251_ok (N : Nat) : TabOK Tryz.prog (tab251 N) := ⟨T229_ok N, T286_ok N, T287_ok N, trivial⟩
@[reducible] def L251_122 : LD := ⟨122, [22, 21, 5, 6], [(.ret, [4]), (.exit 0, [5, 6])], ⟨[.int .i64, .int .i64, .str, .adr 0 []], [.var 318 (.agg [.str, .mp 1, .sl 2]), .map (.str) (.int .i64), .row (.int .i64) 3]⟩, [(.exit 0, ⟨[.str, .adr 0 []], [.var 318 (.agg [.str, .mp 1, .sl 2]), .map (.str) (.int .i64), .row (.int .i64) 3]⟩)]⟩
abbrev P251_122 : Type := Int × Int × ByteArray × ByteArray × (List (ByteArray × Int)) × (List Int)
abbrev R251_122 : Type := ByteArray × ByteArray × (List (ByteArray × Int)) × (List Int)
noncomputable def B251_122 (N : Nat) (f : P251_122 → Option R251_122) : P251_122 → Option R251_122
  | (x0, x1, x2, x3, x4, x5) =>
  iteP (decide (x0 < x1)) (
    Option.bind (F286 N (x0, x3, x4, x5)) fun y0 =>
    Option.bind (f (IntKind.wrap IntKind.i64 (x0 + (1 : Int)), x1, x2, y0.1, y0.2.1, y0.2.2)) fun r => some r) (
    some ((x2, x3, x4, x5)))
noncomputable def F251_122 (N : Nat) : Nat → P251_122 → Option R251_122
  | 0, _ => none
  | k + 1, x => B251_122 N (F251_122 N k) x
noncomputable def C251_122 (N : Nat) (k : Nat) : Cut := L251_122.cut (F251_122 N k)
theorem C251_122_ok (N : Nat) (k : Nat) : CutAt Tryz.prog false Tryz.f251 [] 122 (C251_122 N k) :=
  L251_122.loopT ownT mix (tab251_ok N) Tryz.f251 [] (cuts := []) trivial (by decide +kernel) (by kernel_rfl) (B251_122 N) (F251_122 N) (fun _ => rfl) (fun _ _ => rfl) (fun f x => by kernel_rfl) k
@[reducible] def L251_129630 : LD := ⟨129630, [9, 61, 60, 8, 6], [(.ret, [4]), (.exit 4, [8, 9, 6]), (.exit 3, [8, 9, 6]), (.exit 2, [8])], ⟨[.int .i64, .int .i64, .int .i64, .sl 0, .adr 1 []], [.row y0 281, .var 318 (.agg [.str, .mp 2, .sl 3]), .map (.str) (.int .i64), .row (.int .i64) 3]⟩, [(.exit 4, ⟨[.sl 0, .int .i64, .adr 1 []], [.row y0 281, .var 318 (.agg [.str, .mp 2, .sl 3]), .map (.str) (.int .i64), .row (.int .i64) 3]⟩)]⟩
abbrev P251_129630 : Type := Int × Int × Int × (List (Int × (Int × (Int × Unit)))) × ByteArray × (List (ByteArray × Int)) × (List Int)
abbrev R251_129630 : Type := Int × (List (Int × (Int × (Int × Unit)))) × ByteArray × (List (ByteArray × Int)) × (List Int)
noncomputable def B251_129630 (N : Nat) (f : P251_129630 → Option R251_129630) : P251_129630 → Option R251_129630
  | (x0, x1, x2, x3, x4, x5, x6) =>
  iteP (decide (x1 < x2)) (
    Option.bind (F286 N (x0, x4, x5, x6)) fun y0 =>
    Option.bind (f (IntKind.wrap IntKind.i64 (x0 + (1 : Int)), IntKind.wrap IntKind.i64 (x1 + (1 : Int)), x2, x3, y0.1, y0.2.1, y0.2.2)) fun r => some r) (
    some ((x0, x3, x4, x5, x6)))
noncomputable def F251_129630 (N : Nat) : Nat → P251_129630 → Option R251_129630
  | 0, _ => none
  | k + 1, x => B251_129630 N (F251_129630 N k) x
noncomputable def C251_129630 (N : Nat) (k : Nat) : Cut := L251_129630.cut (F251_129630 N k)
theorem C251_129630_ok (N : Nat) (k : Nat) : CutAt Tryz.prog false Tryz.f251 [] 129630 (C251_129630 N k) :=
  L251_129630.loopT ownT mix (tab251_ok N) Tryz.f251 [] (cuts := [(122, C251_122 N N)]) ⟨C251_122_ok N N, trivial⟩ (by decide +kernel) (by kernel_rfl) (B251_129630 N) (F251_129630 N) (fun _ => rfl) (fun _ _ => rfl) (fun f x => by kernel_rfl) k
@[reducible] def L251_506 : LD := ⟨506, [8, 9, 6], [(.ret, [4]), (.exit 2, [8])], ⟨[.sl 0, .int .i64, .adr 1 []], [.row y0 281, .var 318 (.agg [.str, .mp 2, .sl 3]), .map (.str) (.int .i64), .row (.int .i64) 3]⟩, [(.exit 2, ⟨[.sl 0], [.row y0 281]⟩)]⟩
abbrev P251_506 : Type := Int × (List (Int × (Int × (Int × Unit)))) × ByteArray × (List (ByteArray × Int)) × (List Int)
abbrev R251_506 : Type := (List (Int × (Int × (Int × Unit))))
noncomputable def B251_506 (N : Nat) (f : P251_506 → Option R251_506) : P251_506 → Option R251_506
  | (x0, x1, x2, x3, x4) =>
  iteP (decide (x0 < (↑(ByteArray.size x2) : Int))) (
    Option.bind (F287 N (x0, x2, x3, x4)) fun (y0_0, y0_1, y0_2, y0_3, y0_4, y0_5, y0_6) =>
    iteP (!y0_3) (
      iteP (decide ((0 : Int) ≤ x0)) (
        Option.bind (y0_4[Int.toNat x0]?) fun y1 =>
        iteP (decide ((List.length x1 + List.length [(IntKind.wrap IntKind.i64 (↑(UInt8.toNat y1) : Int), (0 : Int), (0 : Int), ())]) * (24 : Nat) ≤ (140737488355328 : Nat) ∧ List.length x1 + List.length [(IntKind.wrap IntKind.i64 (↑(UInt8.toNat y1) : Int), (0 : Int), (0 : Int), ())] ≤ (140737488355328 : Nat))) (
          Option.bind (F251_129630 N N (x0, (0 : Int), (1 : Int), x1 ++ [(IntKind.wrap IntKind.i64 (↑(UInt8.toNat y1) : Int), (0 : Int), (0 : Int), ())], y0_4, y0_5, y0_6)) fun y2 =>
          Option.bind (f (y2.1, y2.2.1, y2.2.2.1, y2.2.2.2.1, y2.2.2.2.2)) fun r => some r) (
          none )) (
        none )) (
      iteP (decide ((List.length x1 + List.length [(y0_0, y0_1, y0_2, ())]) * (24 : Nat) ≤ (140737488355328 : Nat) ∧ List.length x1 + List.length [(y0_0, y0_1, y0_2, ())] ≤ (140737488355328 : Nat))) (
        Option.bind (F251_129630 N N (x0, (0 : Int), if (1 : Int) > y0_1 then (1 : Int) else y0_1, x1 ++ [(y0_0, y0_1, y0_2, ())], y0_4, y0_5, y0_6)) fun y3 =>
        Option.bind (f (y3.1, y3.2.1, y3.2.2.1, y3.2.2.2.1, y3.2.2.2.2)) fun r => some r) (
        none ))) (
    some (x1))
noncomputable def F251_506 (N : Nat) : Nat → P251_506 → Option R251_506
  | 0, _ => none
  | k + 1, x => B251_506 N (F251_506 N k) x
noncomputable def C251_506 (N : Nat) (k : Nat) : Cut := L251_506.cut (F251_506 N k)
theorem C251_506_ok (N : Nat) (k : Nat) : CutAt Tryz.prog false Tryz.f251 [] 506 (C251_506 N k) :=
  L251_506.loopT ownT mix (tab251_ok N) Tryz.f251 [] (cuts := [(122, C251_122 N N), (129630, C251_129630 N N)]) ⟨C251_122_ok N N, C251_129630_ok N N, trivial⟩ (by decide +kernel) (by kernel_rfl) (B251_506 N) (F251_506 N) (fun _ => rfl) (fun _ _ => rfl) (fun f x => by kernel_rfl) k
@[reducible] def w251 : List SP := [⟨[.sl 0], [.row y0 281]⟩]
noncomputable def F251 (N : Nat) : (ByteArray × ByteArray) → Option ((List (Int × (Int × (Int × Unit)))))
  | (x0, x1) =>
  Option.bind (F229 N x0) fun y0 =>
  iteP (decide ((↑(ByteArray.size y0 + ByteArray.size x1) : Int) > (9223372036854775807 : Int))) (
    none ) (
    Option.bind (F251_122 N N ((0 : Int), (↑(ByteArray.size y0) : Int), y0, y0 ++ x1, [], [])) fun y1 =>
    Option.bind (F251_506 N N ((↑(ByteArray.size y1.1) : Int), [], y1.2.1, y1.2.2.1, y1.2.2.2)) fun y2 =>
    some (y2))
noncomputable def T251 (N : Nat) : Pk → Tr Pk := tellS s251 w251 (F251 N)
theorem T251_ok (N : Nat) : FOK Tryz.prog (251) (T251 N) :=
  (fn_ok2 ownT mix (tab251_ok N) Tryz.func251 s251 w251 [] (cuts := [(122, C251_122 N N), (129630, C251_129630 N N), (506, C251_506 N N)]) ⟨C251_122_ok N N, C251_129630_ok N N, C251_506_ok N N, trivial⟩ (fun _ => by kernel_rfl) (by decide +kernel) (F251 N) (fun x => by kernel_rfl))
@[reducible] def s352 : SP := ⟨[.int .i64, .int .i64, .int .i64], []⟩
noncomputable def tab352 (N : Nat) : List (Nat × (Pk → Tr Pk)) := []
theorem tab352_ok (N : Nat) : TabOK Tryz.prog (tab352 N) := trivial
@[reducible] def w352 : List SP := [⟨[.bool], []⟩]
noncomputable def F352 (N : Nat) : (Int × Int × Int) → Option (Bool)
  | (x0, x1, x2) =>
  iteP (decide (x1 ≤ x0)) (
    some (decide (x0 ≤ x2))) (
    some (false))
noncomputable def T352 (N : Nat) : Pk → Tr Pk := tellS s352 w352 (F352 N)
theorem T352_ok (N : Nat) : FOK Tryz.prog (352) (T352 N) :=
  (fn_ok2 ownT mix (tab352_ok N) Tryz.func352 s352 w352 [] (cuts := []) trivial (fun _ => by kernel_rfl) (by decide +kernel) (F352 N) (fun x => by kernel_rfl))
@[reducible] def s335 : SP := ⟨[.agg [.int .i64, .int .i64, .int .i64]], []⟩
noncomputable def tab335 (N : Nat) : List (Nat × (Pk → Tr Pk)) := [(352, T352 N)]
theorem tab335_ok (N : Nat) : TabOK Tryz.prog (tab335 N) := ⟨T352_ok N, trivial⟩
@[reducible] def w335 : List SP := [⟨[.bool], []⟩]
noncomputable def F335 (N : Nat) : (Int × Int × Int) → Option (Bool)
  | (x0, x1, x2) =>
  iteP (x1 == (0 : Int)) (
    iteP (x2 == (0 : Int)) (
      Option.bind (F352 N (x0, (0 : Int), (255 : Int))) fun y0 =>
      some (y0)) (
      some (false))) (
    iteP (x0 == (0 : Int)) (
      Option.bind (F352 N (x1, (3 : Int), (258 : Int))) fun y1 =>
      iteP (y1) (
        Option.bind (F352 N (x2, (1 : Int), (32768 : Int))) fun y2 =>
        some (y2)) (
        some (false))) (
      some (false)))
noncomputable def T335 (N : Nat) : Pk → Tr Pk := tellS s335 w335 (F335 N)
theorem T335_ok (N : Nat) : FOK Tryz.prog (335) (T335 N) :=
  (fn_ok2 ownT mix (tab335_ok N) Tryz.func335 s335 w335 [] (cuts := []) trivial (fun _ => by kernel_rfl) (by decide +kernel) (F335 N) (fun x => by kernel_rfl))
@[reducible] def s310 : SP := ⟨[.int .i64], []⟩
noncomputable def tab310 (N : Nat) : List (Nat × (Pk → Tr Pk)) := []
theorem tab310_ok (N : Nat) : TabOK Tryz.prog (tab310 N) := trivial
@[reducible] def w310 : List SP := [⟨[.int .i64], []⟩]
noncomputable def F310 (N : Nat) : (Int) → Option (Int)
  | x0 =>
  some (if (32 : Int) < if (0 : Int) > x0 then (0 : Int) else x0 then (32 : Int) else if (0 : Int) > x0 then (0 : Int) else x0)
noncomputable def T310 (N : Nat) : Pk → Tr Pk := tellS s310 w310 (F310 N)
theorem T310_ok (N : Nat) : FOK Tryz.prog (310) (T310 N) :=
  (fn_ok2 ownT mix (tab310_ok N) Tryz.func310 s310 w310 [] (cuts := []) trivial (fun _ => by kernel_rfl) (by decide +kernel) (F310 N) (fun x => by kernel_rfl))
@[reducible] def s311 : SP := ⟨[.int .i64, .int .i64], []⟩
noncomputable def tab311 (N : Nat) : List (Nat × (Pk → Tr Pk)) := []
theorem tab311_ok (N : Nat) : TabOK Tryz.prog (tab311 N) := trivial
@[reducible] def w311 : List SP := [⟨[.int .i64], []⟩]
noncomputable def F311 (N : Nat) : (Int × Int) → Option (Int)
  | (x0, x1) =>
  iteP (decide (x0 < (0 : Int))) (
    none ) (
    some (IntKind.wrap IntKind.i64 (↑(BitVec.toNat (BitVec.ofInt (64 : Nat) x1 &&& BitVec.ofInt (64 : Nat) (IntKind.wrap IntKind.i64 (IntKind.wrap IntKind.i64 ((1 : Int) * (2 : Int) ^ min (Int.toNat x0) (64 : Nat)) - (1 : Int))))) : Int)))
noncomputable def T311 (N : Nat) : Pk → Tr Pk := tellS s311 w311 (F311 N)
theorem T311_ok (N : Nat) : FOK Tryz.prog (311) (T311 N) :=
  (fn_ok2 ownT mix (tab311_ok N) Tryz.func311 s311 w311 [] (cuts := []) trivial (fun _ => by kernel_rfl) (by decide +kernel) (F311 N) (fun x => by kernel_rfl))
@[reducible] def s269 : SP := ⟨[.adr 0 [], .int .i64, .int .i64], [.var 221 (.agg [.sl 1, .int .i64, .int .i64]), .row (.int .u8) 5]⟩
noncomputable def tab269 (N : Nat) : List (Nat × (Pk → Tr Pk)) := [(310, T310 N), (311, T311 N)]
theorem tab269_ok (N : Nat) : TabOK Tryz.prog (tab269 N) := ⟨T310_ok N, T311_ok N, trivial⟩
@[reducible] def L269_30 : LD := ⟨30, [0], [(.exit 0, [])], ⟨[.adr 0 []], [.var 221 (.agg [.sl 1, .int .i64, .int .i64]), .row (.int .u8) 5]⟩, [(.exit 0, ⟨[], [.var 221 (.agg [.sl 1, .int .i64, .int .i64]), .row (.int .u8) 5]⟩)]⟩
abbrev P269_30 : Type := Int × Int × (List Int)
abbrev R269_30 : Type := Int × Int × (List Int)
noncomputable def B269_30 (N : Nat) (f : P269_30 → Option R269_30) : P269_30 → Option R269_30
  | (x0, x1, x2) =>
  iteP (decide (x1 ≥ (8 : Int))) (
    iteP (decide ((List.length x2 + List.length [IntKind.wrap IntKind.u8 x0]) * (1 : Nat) ≤ (140737488355328 : Nat) ∧ List.length x2 + List.length [IntKind.wrap IntKind.u8 x0] ≤ (140737488355328 : Nat))) (
      Option.bind (f (Int.fdiv x0 (256 : Int), IntKind.wrap IntKind.i64 (x1 - (8 : Int)), x2 ++ [IntKind.wrap IntKind.u8 x0])) fun r => some r) (
      none )) (
    some ((x0, x1, x2)))
noncomputable def F269_30 (N : Nat) : Nat → P269_30 → Option R269_30
  | 0, _ => none
  | k + 1, x => B269_30 N (F269_30 N k) x
noncomputable def C269_30 (N : Nat) (k : Nat) : Cut := L269_30.cut (F269_30 N k)
theorem C269_30_ok (N : Nat) (k : Nat) : CutAt Tryz.prog false Tryz.f269 [0] 30 (C269_30 N k) :=
  L269_30.loopT ownT mix (tab269_ok N) Tryz.f269 [0] (cuts := []) trivial (by decide +kernel) (by kernel_rfl) (B269_30 N) (F269_30 N) (fun _ => rfl) (fun _ _ => rfl) (fun f x => by kernel_rfl) k
@[reducible] def w269 : List SP := [⟨[.tup []], [.var 221 (.agg [.sl 1, .int .i64, .int .i64]), .row (.int .u8) 5]⟩]
noncomputable def F269 (N : Nat) : (Int × Int × Int × Int × (List Int)) → Option (Int × Int × (List Int))
  | (x0, x1, x2, x3, x4) =>
  Option.bind (F310 N x0) fun y0 =>
  Option.bind (F311 N (y0, x1)) fun y1 =>
  iteP (decide (x3 < (0 : Int))) (
    none ) (
    Option.bind (F269_30 N N (IntKind.wrap IntKind.i64 (↑(BitVec.toNat (BitVec.ofInt (64 : Nat) x2 ||| BitVec.ofInt (64 : Nat) (IntKind.wrap IntKind.i64 (y1 * (2 : Int) ^ min (Int.toNat x3) (64 : Nat))))) : Int), IntKind.wrap IntKind.i64 (x3 + y0), x4)) fun y2 =>
    some ((y2.1, y2.2.1, y2.2.2)))
noncomputable def T269 (N : Nat) : Pk → Tr Pk := tellS s269 w269 (F269 N)
theorem T269_ok (N : Nat) : FOK Tryz.prog (269) (T269 N) :=
  (fn_ok2 ownT mix (tab269_ok N) Tryz.func269 s269 w269 [0] (cuts := [(30, C269_30 N N)]) ⟨C269_30_ok N N, trivial⟩ (fun _ => by kernel_rfl) (by decide +kernel) (F269 N) (fun x => by kernel_rfl))
@[reducible] def s271 : SP := ⟨[.adr 0 [], .bool, .int .i64], [.var 221 (.agg [.sl 1, .int .i64, .int .i64]), .row (.int .u8) 5]⟩
noncomputable def tab271 (N : Nat) : List (Nat × (Pk → Tr Pk)) := [(269, T269 N)]
theorem tab271_ok (N : Nat) : TabOK Tryz.prog (tab271 N) := ⟨T269_ok N, trivial⟩
@[reducible] def w271 : List SP := [⟨[.tup []], [.var 221 (.agg [.sl 1, .int .i64, .int .i64]), .row (.int .u8) 5]⟩]
noncomputable def F271 (N : Nat) : (Bool × Int × Int × Int × (List Int)) → Option (Int × Int × (List Int))
  | (x0, x1, x2, x3, x4) =>
  iteP (x0) (
    Option.bind (F269 N ((1 : Int), (1 : Int), x2, x3, x4)) fun y0 =>
    Option.bind (F269 N ((2 : Int), x1, y0.1, y0.2.1, y0.2.2)) fun y1 =>
    some ((y1.1, y1.2.1, y1.2.2))) (
    Option.bind (F269 N ((1 : Int), (0 : Int), x2, x3, x4)) fun y2 =>
    Option.bind (F269 N ((2 : Int), x1, y2.1, y2.2.1, y2.2.2)) fun y3 =>
    some ((y3.1, y3.2.1, y3.2.2)))
noncomputable def T271 (N : Nat) : Pk → Tr Pk := tellS s271 w271 (F271 N)
theorem T271_ok (N : Nat) : FOK Tryz.prog (271) (T271 N) :=
  (fn_ok2 ownT mix (tab271_ok N) Tryz.func271 s271 w271 [0] (cuts := []) trivial (fun _ => by kernel_rfl) (by decide +kernel) (F271 N) (fun x => by kernel_rfl))
@[reducible] def s353 : SP := ⟨[.sl 0, .int .i64, .int .i64], [.row (.int .i64) 3]⟩
noncomputable def tab353 (N : Nat) : List (Nat × (Pk → Tr Pk)) := []
theorem tab353_ok (N : Nat) : TabOK Tryz.prog (tab353 N) := trivial
@[reducible] def L353_12 : LD := ⟨12, [0, 1, 2], [(.ret, [6]), (.exit 0, [0])], ⟨[.sl 0, .int .i64, .int .i64], [.row (.int .i64) 3]⟩, [(.exit 0, ⟨[.sl 0], [.row (.int .i64) 3]⟩)]⟩
abbrev P353_12 : Type := Int × Int × (List Int)
abbrev R353_12 : Type := (List Int)
noncomputable def B353_12 (N : Nat) (f : P353_12 → Option R353_12) : P353_12 → Option R353_12
  | (x0, x1, x2) =>
  iteP (decide ((↑(List.length x2) : Int) < x0)) (
    iteP (decide ((List.length x2 + List.length [x1]) * (8 : Nat) ≤ (140737488355328 : Nat) ∧ List.length x2 + List.length [x1] ≤ (140737488355328 : Nat))) (
      Option.bind (f (x0, x1, x2 ++ [x1])) fun r => some r) (
      none )) (
    some (x2))
noncomputable def F353_12 (N : Nat) : Nat → P353_12 → Option R353_12
  | 0, _ => none
  | k + 1, x => B353_12 N (F353_12 N k) x
noncomputable def C353_12 (N : Nat) (k : Nat) : Cut := L353_12.cut (F353_12 N k)
theorem C353_12_ok (N : Nat) (k : Nat) : CutAt Tryz.prog false Tryz.f353 [] 12 (C353_12 N k) :=
  L353_12.loopT ownT mix (tab353_ok N) Tryz.f353 [] (cuts := []) trivial (by decide +kernel) (by kernel_rfl) (B353_12 N) (F353_12 N) (fun _ => rfl) (fun _ _ => rfl) (fun f x => by kernel_rfl) k
@[reducible] def w353 : List SP := [⟨[.sl 0], [.row (.int .i64) 3]⟩]
noncomputable def F353 (N : Nat) : (Int × Int × (List Int)) → Option ((List Int))
  | (x0, x1, x2) =>
  Option.bind (F353_12 N N (x0, x1, x2)) fun y0 =>
  some (y0)
noncomputable def T353 (N : Nat) : Pk → Tr Pk := tellS s353 w353 (F353 N)
theorem T353_ok (N : Nat) : FOK Tryz.prog (353) (T353 N) :=
  (fn_ok2 ownT mix (tab353_ok N) Tryz.func353 s353 w353 [] (cuts := [(12, C353_12 N N)]) ⟨C353_12_ok N N, trivial⟩ (fun _ => by kernel_rfl) (by decide +kernel) (F353 N) (fun x => by kernel_rfl))
@[reducible] def s336 : SP := ⟨[], []⟩
noncomputable def tab336 (N : Nat) : List (Nat × (Pk → Tr Pk)) := [(353, T353 N)]
theorem tab336_ok (N : Nat) : TabOK Tryz.prog (tab336 N) := ⟨T353_ok N, trivial⟩
@[reducible] def w336 : List SP := [⟨[.tup [.sl 0, .sl 1]], [.row (.int .i64) 3, .row (.int .i64) 3]⟩]
noncomputable def F336 (N : Nat) : (Unit) → Option ((List Int) × (List Int))
  | () =>
  Option.bind (F353 N ((144 : Int), (8 : Int), [])) fun y0 =>
  Option.bind (F353 N ((256 : Int), (9 : Int), y0)) fun y1 =>
  Option.bind (F353 N ((280 : Int), (7 : Int), y1)) fun y2 =>
  Option.bind (F353 N ((288 : Int), (8 : Int), y2)) fun y3 =>
  Option.bind (F353 N ((30 : Int), (5 : Int), [])) fun y4 =>
  some ((y3, y4))
noncomputable def T336 (N : Nat) : Pk → Tr Pk := tellS s336 w336 (F336 N)
theorem T336_ok (N : Nat) : FOK Tryz.prog (336) (T336 N) :=
  (fn_ok2 ownT mix (tab336_ok N) Tryz.func336 s336 w336 [] (cuts := []) trivial (fun _ => by kernel_rfl) (by decide +kernel) (F336 N) (fun x => by kernel_rfl))
@[reducible] def s371 : SP := ⟨[.ro (.int .i64)], []⟩
noncomputable def tab371 (N : Nat) : List (Nat × (Pk → Tr Pk)) := []
theorem tab371_ok (N : Nat) : TabOK Tryz.prog (tab371 N) := trivial
@[reducible] def L371_122 : LD := ⟨122, [12, 11, 13, 4, 2], [(.ret, [2, 3]), (.exit 0, [4, 2])], ⟨[.int .i64, .ro (.int .i64), .int .i64, .adr 0 [], .adr 1 []], [.var 383 (.arr (.int .i64) 16), .var 383 (.arr (.int .i64) 16)]⟩, [(.ret, ⟨[.adr 0 [], .int .i64], [.var 383 (.arr (.int .i64) 16)]⟩), (.exit 0, ⟨[.adr 0 [], .adr 1 []], [.var 383 (.arr (.int .i64) 16), .var 383 (.arr (.int .i64) 16)]⟩)]⟩
abbrev P371_122 : Type := Int × (List Int) × Int × (List Int) × (List Int)
abbrev R371_122 : Type := ((Int × (List Int)) ⊕ ((List Int) × (List Int)))
noncomputable def B371_122 (N : Nat) (f : P371_122 → Option R371_122) : P371_122 → Option R371_122
  | (x0, x1, x2, x3, x4) =>
  iteP (decide (x2 < x0)) (
    iteP (within x2 (List.length x1)) (
      Option.bind (x1[Int.toNat x2]?) fun y0 =>
      iteP (decide (y0 < (0 : Int))) (
        some (.inl (((50 : Int), x3)))) (
        iteP (decide (y0 > (15 : Int))) (
          some (.inl (((50 : Int), x3)))) (
          iteP (within y0 (16 : Nat)) (
            Option.bind (x3[Int.toNat y0]?) fun y1 =>
            iteP (within y0 (16 : Nat)) (
              Option.bind (x3[Int.toNat y0]?) fun y2 =>
              Option.bind (f (x0, x1, IntKind.wrap IntKind.i64 (x2 + (1 : Int)), List.set x3 (Int.toNat y0) (IntKind.wrap IntKind.i64 (y1 + (1 : Int))), x4)) fun r => match r with | .inl y => some (.inl y) | .inr y => some (.inr y)) (
              none )) (
            none )))) (
      none )) (
    some (.inr ((x3, x4))))
noncomputable def F371_122 (N : Nat) : Nat → P371_122 → Option R371_122
  | 0, _ => none
  | k + 1, x => B371_122 N (F371_122 N k) x
noncomputable def C371_122 (N : Nat) (k : Nat) : Cut := L371_122.cut (F371_122 N k)
theorem C371_122_ok (N : Nat) (k : Nat) : CutAt Tryz.prog false Tryz.f371 [] 122 (C371_122 N k) :=
  L371_122.loopT ownT mix (tab371_ok N) Tryz.f371 [] (cuts := []) trivial (by decide +kernel) (by kernel_rfl) (B371_122 N) (F371_122 N) (fun _ => rfl) (fun _ _ => rfl) (fun f x => by kernel_rfl) k
@[reducible] def w371 : List SP := [⟨[.tup [.arr (.int .i64) 16, .int .i64]], []⟩]
noncomputable def F371 (N : Nat) : ((List Int)) → Option ((List Int) × Int)
  | x0 =>
  iteP (decide ((↑(List.length x0) : Int) > (320 : Int))) (
    some (([(0 : Int), (0 : Int), (0 : Int), (0 : Int), (0 : Int), (0 : Int), (0 : Int), (0 : Int), (0 : Int), (0 : Int), (0 : Int), (0 : Int), (0 : Int), (0 : Int), (0 : Int), (0 : Int)], (50 : Int)))) (
    Option.bind (F371_122 N N ((↑(List.length x0) : Int), x0, (0 : Int), [(0 : Int), (0 : Int), (0 : Int), (0 : Int), (0 : Int), (0 : Int), (0 : Int), (0 : Int), (0 : Int), (0 : Int), (0 : Int), (0 : Int), (0 : Int), (0 : Int), (0 : Int), (0 : Int)], [(0 : Int), (0 : Int), (0 : Int), (0 : Int), (0 : Int), (0 : Int), (0 : Int), (0 : Int), (0 : Int), (0 : Int), (0 : Int), (0 : Int), (0 : Int), (0 : Int), (0 : Int), (0 : Int)])) fun y0 =>
    match y0 with
    | .inl y1 =>
      some ((y1.2, y1.1))
    | .inr y1 =>
      some ((y1.1, (0 : Int))))
noncomputable def T371 (N : Nat) : Pk → Tr Pk := tellS s371 w371 (F371 N)
theorem T371_ok (N : Nat) : FOK Tryz.prog (371) (T371 N) :=
  (fn_ok2 ownT mix (tab371_ok N) Tryz.func371 s371 w371 [] (cuts := [(122, C371_122 N N)]) ⟨C371_122_ok N N, trivial⟩ (fun _ => by kernel_rfl) (by decide +kernel) (F371 N) (fun x => by kernel_rfl))
@[reducible] def s370 : SP := ⟨[.ro (.int .i64)], []⟩
noncomputable def tab370 (N : Nat) : List (Nat × (Pk → Tr Pk)) := [(371, T371 N)]
theorem tab370_ok (N : Nat) : TabOK Tryz.prog (tab370 N) := ⟨T371_ok N, trivial⟩
@[reducible] def L370_122 : LD := ⟨122, [6, 5, 7, 4], [(.ret, [2, 3]), (.exit 0, [6, 5])], ⟨[.int .i64, .int .i64, .int .i64, .adr 0 []], [.var 383 (.arr (.int .i64) 16)]⟩, [(.exit 0, ⟨[.int .i64, .int .i64], []⟩)]⟩
abbrev P370_122 : Type := Int × Int × Int × (List Int)
abbrev R370_122 : Type := Int × Int
noncomputable def B370_122 (N : Nat) (f : P370_122 → Option R370_122) : P370_122 → Option R370_122
  | (x0, x1, x2, x3) =>
  iteP (decide (x2 ≤ (15 : Int))) (
    iteP (x1 == (0 : Int)) (
      iteP (within x2 (16 : Nat)) (
        Option.bind (x3[Int.toNat x2]?) fun y0 =>
        iteP (decide (IntKind.wrap IntKind.i64 (IntKind.wrap IntKind.i64 (x0 * (2 : Int)) - y0) < (0 : Int))) (
          Option.bind (f (IntKind.wrap IntKind.i64 (IntKind.wrap IntKind.i64 (x0 * (2 : Int)) - y0), (50 : Int), IntKind.wrap IntKind.i64 (x2 + (1 : Int)), x3)) fun r => some r) (
          Option.bind (f (IntKind.wrap IntKind.i64 (IntKind.wrap IntKind.i64 (x0 * (2 : Int)) - y0), x1, IntKind.wrap IntKind.i64 (x2 + (1 : Int)), x3)) fun r => some r)) (
        none )) (
      some ((x0, x1)))) (
    some ((x0, x1)))
noncomputable def F370_122 (N : Nat) : Nat → P370_122 → Option R370_122
  | 0, _ => none
  | k + 1, x => B370_122 N (F370_122 N k) x
noncomputable def C370_122 (N : Nat) (k : Nat) : Cut := L370_122.cut (F370_122 N k)
theorem C370_122_ok (N : Nat) (k : Nat) : CutAt Tryz.prog false Tryz.f370 [] 122 (C370_122 N k) :=
  L370_122.loopT ownT mix (tab370_ok N) Tryz.f370 [] (cuts := []) trivial (by decide +kernel) (by kernel_rfl) (B370_122 N) (F370_122 N) (fun _ => rfl) (fun _ _ => rfl) (fun f x => by kernel_rfl) k
@[reducible] def w370 : List SP := [⟨[.tup [.int .i64, .int .i64]], []⟩]
noncomputable def F370 (N : Nat) : ((List Int)) → Option (Int × Int)
  | x0 =>
  Option.bind (F371 N x0) fun y0 =>
  Option.bind (F370_122 N N ((1 : Int), y0.2, (1 : Int), y0.1)) fun y1 =>
  iteP (y1.2 != (0 : Int)) (
    some (((0 : Int), y1.2))) (
    some ((y1.1, (0 : Int))))
noncomputable def T370 (N : Nat) : Pk → Tr Pk := tellS s370 w370 (F370 N)
theorem T370_ok (N : Nat) : FOK Tryz.prog (370) (T370 N) :=
  (fn_ok2 ownT mix (tab370_ok N) Tryz.func370 s370 w370 [] (cuts := [(122, C370_122 N N)]) ⟨C370_122_ok N N, trivial⟩ (fun _ => by kernel_rfl) (by decide +kernel) (F370 N) (fun x => by kernel_rfl))
@[reducible] def y1 : Ty := (.cons (.int .i64) (.cons (.int .i64) .unit))
@[reducible] def s354 : SP := ⟨[.ro (.int .i64)], []⟩
noncomputable def tab354 (N : Nat) : List (Nat × (Pk → Tr Pk)) := [(370, T370 N), (371, T371 N)]
theorem tab354_ok (N : Nat) : TabOK Tryz.prog (tab354 N) := ⟨T370_ok N, T371_ok N, trivial⟩
@[reducible] def L354_250 : LD := ⟨250, [9, 0, 6, 8], [(.ret, [2, 3]), (.exit 0, [0, 8])], ⟨[.int .i64, .ro (.int .i64), .adr 0 [], .adr 1 []], [.var 383 (.arr (.int .i64) 16), .var 383 (.arr (.int .i64) 16)]⟩, [(.exit 0, ⟨[.ro (.int .i64), .adr 0 []], [.var 383 (.arr (.int .i64) 16)]⟩)]⟩
abbrev P354_250 : Type := Int × (List Int) × (List Int) × (List Int)
abbrev R354_250 : Type := (List Int) × (List Int)
noncomputable def B354_250 (N : Nat) (f : P354_250 → Option R354_250) : P354_250 → Option R354_250
  | (x0, x1, x2, x3) =>
  iteP (decide (x0 < (15 : Int))) (
    iteP (within x0 (16 : Nat)) (
      Option.bind (x3[Int.toNat x0]?) fun y0 =>
      iteP (within x0 (16 : Nat)) (
        Option.bind (x2[Int.toNat x0]?) fun y1 =>
        iteP (within (IntKind.wrap IntKind.i64 (x0 + (1 : Int))) (16 : Nat)) (
          Option.bind (x3[Int.toNat (IntKind.wrap IntKind.i64 (x0 + (1 : Int)))]?) fun y2 =>
          Option.bind (f (IntKind.wrap IntKind.i64 (x0 + (1 : Int)), x1, x2, List.set x3 (Int.toNat (IntKind.wrap IntKind.i64 (x0 + (1 : Int)))) (IntKind.wrap IntKind.i64 (IntKind.wrap IntKind.i64 (y0 + y1) * (2 : Int))))) fun r => some r) (
          none )) (
        none )) (
      none )) (
    some ((x1, x3)))
noncomputable def F354_250 (N : Nat) : Nat → P354_250 → Option R354_250
  | 0, _ => none
  | k + 1, x => B354_250 N (F354_250 N k) x
noncomputable def C354_250 (N : Nat) (k : Nat) : Cut := L354_250.cut (F354_250 N k)
theorem C354_250_ok (N : Nat) (k : Nat) : CutAt Tryz.prog false Tryz.f354 [] 250 (C354_250 N k) :=
  L354_250.loopT ownT mix (tab354_ok N) Tryz.f354 [] (cuts := []) trivial (by decide +kernel) (by kernel_rfl) (B354_250 N) (F354_250 N) (fun _ => rfl) (fun _ _ => rfl) (fun f x => by kernel_rfl) k
@[reducible] def L354_1018 : LD := ⟨1018, [46, 45, 44, 10, 8], [(.ret, [2, 3]), (.exit 2, [10])], ⟨[.int .i64, .int .i64, .ro (.int .i64), .sl 0, .adr 1 []], [.row y1 248, .var 383 (.arr (.int .i64) 16)]⟩, [(.exit 2, ⟨[.sl 0], [.row y1 248]⟩)]⟩
abbrev P354_1018 : Type := Int × Int × (List Int) × (List (Int × (Int × Unit))) × (List Int)
abbrev R354_1018 : Type := (List (Int × (Int × Unit)))
noncomputable def B354_1018 (N : Nat) (f : P354_1018 → Option R354_1018) : P354_1018 → Option R354_1018
  | (x0, x1, x2, x3, x4) =>
  iteP (decide (x0 < x1)) (
    iteP (within x0 (List.length x2)) (
      Option.bind (x2[Int.toNat x0]?) fun y0 =>
      iteP (decide (y0 > (0 : Int))) (
        iteP (within y0 (16 : Nat)) (
          Option.bind (x4[Int.toNat y0]?) fun y1 =>
          iteP (within x0 (List.length x3)) (
            Option.bind (x3[Int.toNat x0]?) fun y2 =>
            iteP (within y0 (16 : Nat)) (
              Option.bind (x4[Int.toNat y0]?) fun y3 =>
              iteP (within y0 (16 : Nat)) (
                Option.bind (x4[Int.toNat y0]?) fun y4 =>
                Option.bind (f (IntKind.wrap IntKind.i64 (x0 + (1 : Int)), x1, x2, List.set x3 (Int.toNat x0) (y1, y0, ()), List.set x4 (Int.toNat y0) (IntKind.wrap IntKind.i64 (y3 + (1 : Int))))) fun r => some r) (
                none )) (
              none )) (
            none )) (
          none )) (
        Option.bind (f (IntKind.wrap IntKind.i64 (x0 + (1 : Int)), x1, x2, x3, x4)) fun r => some r)) (
      none )) (
    some (x3))
noncomputable def F354_1018 (N : Nat) : Nat → P354_1018 → Option R354_1018
  | 0, _ => none
  | k + 1, x => B354_1018 N (F354_1018 N k) x
noncomputable def C354_1018 (N : Nat) (k : Nat) : Cut := L354_1018.cut (F354_1018 N k)
theorem C354_1018_ok (N : Nat) (k : Nat) : CutAt Tryz.prog false Tryz.f354 [] 1018 (C354_1018 N k) :=
  L354_1018.loopT ownT mix (tab354_ok N) Tryz.f354 [] (cuts := [(250, C354_250 N N)]) ⟨C354_250_ok N N, trivial⟩ (by decide +kernel) (by kernel_rfl) (B354_1018 N) (F354_1018 N) (fun _ => rfl) (fun _ _ => rfl) (fun f x => by kernel_rfl) k
@[reducible] def w354 : List SP := [⟨[.tup [.sl 0, .int .i64]], [.row y1 248]⟩]
noncomputable def F354 (N : Nat) : ((List Int)) → Option (Int × (List (Int × (Int × Unit))))
  | x0 =>
  Option.bind (F370 N x0) fun y0 =>
  iteP (y0.2 != (0 : Int)) (
    some ((y0.2, []))) (
    Option.bind (F371 N x0) fun y1 =>
    Option.bind (F354_250 N N ((1 : Int), x0, y1.1, [(0 : Int), (0 : Int), (0 : Int), (0 : Int), (0 : Int), (0 : Int), (0 : Int), (0 : Int), (0 : Int), (0 : Int), (0 : Int), (0 : Int), (0 : Int), (0 : Int), (0 : Int), (0 : Int)])) fun y2 =>
    iteP (decide ((0 : Int) ≤ (↑(List.length y2.1) : Int) ∧ (↑(List.length y2.1) : Int) ≤ (↑(List.length y2.1) : Int) ∧ (↑(List.length y2.1) : Int) * (16 : Int) ≤ (140737488355328 : Int) ∧ (↑(List.length y2.1) : Int) ≤ (140737488355328 : Int))) (
      Option.bind (F354_1018 N N ((0 : Int), (↑(List.length y2.1) : Int), y2.1, List.replicate (Int.toNat (↑(List.length y2.1) : Int)) ((0 : Int), (0 : Int), ()), y2.2)) fun y3 =>
      some (((0 : Int), y3))) (
      none ))
noncomputable def T354 (N : Nat) : Pk → Tr Pk := tellS s354 w354 (F354 N)
theorem T354_ok (N : Nat) : FOK Tryz.prog (354) (T354 N) :=
  (fn_ok2 ownT mix (tab354_ok N) Tryz.func354 s354 w354 [] (cuts := [(250, C354_250 N N), (1018, C354_1018 N N)]) ⟨C354_250_ok N N, C354_1018_ok N N, trivial⟩ (fun _ => by kernel_rfl) (by decide +kernel) (F354 N) (fun x => by kernel_rfl))
@[reducible] def s387 : SP := ⟨[.int .i64, .int .i64, .int .i64], []⟩
noncomputable def tab387 (N : Nat) : List (Nat × (Pk → Tr Pk)) := []
theorem tab387_ok (N : Nat) : TabOK Tryz.prog (tab387 N) := trivial
@[reducible] def w387 : List SP := [⟨[.int .i64], []⟩]
noncomputable def F387 (N : Nat) : (Int × Int × Int) → Option (Int)
  | (x0, x1, x2) =>
  iteP (decide (x2 = (0 : Int))) (
    none ) (
    iteP (decide (x1 = (0 : Int))) (
      none ) (
      some (IntKind.wrap IntKind.i64 ((if (0 : Int) > IntKind.wrap IntKind.i64 (IntKind.wrap IntKind.i64 (Int.tdiv (IntKind.wrap IntKind.i64 (x0 - x1)) x2) + (1 : Int)) then (0 : Int) else IntKind.wrap IntKind.i64 (IntKind.wrap IntKind.i64 (Int.tdiv (IntKind.wrap IntKind.i64 (x0 - x1)) x2) + (1 : Int))) * if (1 : Int) < IntKind.wrap IntKind.i64 (Int.tdiv x0 x1) then (1 : Int) else IntKind.wrap IntKind.i64 (Int.tdiv x0 x1)))))
noncomputable def T387 (N : Nat) : Pk → Tr Pk := tellS s387 w387 (F387 N)
theorem T387_ok (N : Nat) : FOK Tryz.prog (387) (T387 N) :=
  (fn_ok2 ownT mix (tab387_ok N) Tryz.func387 s387 w387 [] (cuts := []) trivial (fun _ => by kernel_rfl) (by decide +kernel) (F387 N) (fun x => by kernel_rfl))
@[reducible] def s382 : SP := ⟨[.int .i64, .int .i64, .int .i64, .int .i64], []⟩
noncomputable def tab382 (N : Nat) : List (Nat × (Pk → Tr Pk)) := [(387, T387 N)]
theorem tab382_ok (N : Nat) : TabOK Tryz.prog (tab382 N) := ⟨T387_ok N, trivial⟩
@[reducible] def L382_58 : LD := ⟨58, [10, 14, 13, 0, 1, 2], [(.ret, [8, 9]), (.exit 0, [10, 0, 1, 2])], ⟨[.int .i64, .int .i64, .int .i64, .int .i64, .int .i64, .int .i64], []⟩, [(.exit 0, ⟨[.int .i64, .int .i64, .int .i64, .int .i64], []⟩)]⟩
abbrev P382_58 : Type := Int × Int × Int × Int × Int × Int
abbrev R382_58 : Type := Int × Int × Int × Int
noncomputable def B382_58 (N : Nat) (f : P382_58 → Option R382_58) : P382_58 → Option R382_58
  | (x0, x1, x2, x3, x4, x5) =>
  iteP (decide (x1 < x2)) (
    Option.bind (F387 N (x1, x4, x5)) fun y0 =>
    iteP (decide (y0 < (0 : Int))) (
      none ) (
      Option.bind (f (IntKind.wrap IntKind.i64 (x0 + IntKind.wrap IntKind.i64 ((1 : Int) * (2 : Int) ^ min (Int.toNat y0) (64 : Nat))), IntKind.wrap IntKind.i64 (x1 + (1 : Int)), x2, x3, x4, x5)) fun r => some r)) (
    some ((x0, x3, x4, x5)))
noncomputable def F382_58 (N : Nat) : Nat → P382_58 → Option R382_58
  | 0, _ => none
  | k + 1, x => B382_58 N (F382_58 N k) x
noncomputable def C382_58 (N : Nat) (k : Nat) : Cut := L382_58.cut (F382_58 N k)
theorem C382_58_ok (N : Nat) (k : Nat) : CutAt Tryz.prog false Tryz.f382 [] 58 (C382_58 N k) :=
  L382_58.loopT ownT mix (tab382_ok N) Tryz.f382 [] (cuts := []) trivial (by decide +kernel) (by kernel_rfl) (B382_58 N) (F382_58 N) (fun _ => rfl) (fun _ _ => rfl) (fun f x => by kernel_rfl) k
@[reducible] def w382 : List SP := [⟨[.tup [.int .i64, .int .i64]], []⟩]
noncomputable def F382 (N : Nat) : (Int × Int × Int × Int) → Option (Int × Int)
  | (x0, x1, x2, x3) =>
  Option.bind (F382_58 N N (x3, (0 : Int), x0, x0, x1, x2)) fun y0 =>
  Option.bind (F387 N (y0.2.1, y0.2.2.1, y0.2.2.2)) fun y1 =>
  some ((y0.1, y1))
noncomputable def T382 (N : Nat) : Pk → Tr Pk := tellS s382 w382 (F382 N)
theorem T382_ok (N : Nat) : FOK Tryz.prog (382) (T382 N) :=
  (fn_ok2 ownT mix (tab382_ok N) Tryz.func382 s382 w382 [] (cuts := [(58, C382_58 N N)]) ⟨C382_58_ok N N, trivial⟩ (fun _ => by kernel_rfl) (by decide +kernel) (F382 N) (fun x => by kernel_rfl))
@[reducible] def s373 : SP := ⟨[.int .i64], []⟩
noncomputable def tab373 (N : Nat) : List (Nat × (Pk → Tr Pk)) := [(382, T382 N)]
theorem tab373_ok (N : Nat) : TabOK Tryz.prog (tab373 N) := ⟨T382_ok N, trivial⟩
@[reducible] def w373 : List SP := [⟨[.tup [.int .i64, .int .i64]], []⟩]
noncomputable def F373 (N : Nat) : (Int) → Option (Int × Int)
  | x0 =>
  iteP (x0 == (285 : Int)) (
    some (((258 : Int), (0 : Int)))) (
    iteP (decide (x0 < (257 : Int))) (
      some (((0 : Int), (0 : Int)))) (
      iteP (decide (x0 > (285 : Int))) (
        some (((0 : Int), (0 : Int)))) (
        Option.bind (F382 N (IntKind.wrap IntKind.i64 (x0 - (257 : Int)), (8 : Int), (4 : Int), (3 : Int))) fun y0 =>
        some ((y0.1, y0.2)))))
noncomputable def T373 (N : Nat) : Pk → Tr Pk := tellS s373 w373 (F373 N)
theorem T373_ok (N : Nat) : FOK Tryz.prog (373) (T373 N) :=
  (fn_ok2 ownT mix (tab373_ok N) Tryz.func373 s373 w373 [] (cuts := []) trivial (fun _ => by kernel_rfl) (by decide +kernel) (F373 N) (fun x => by kernel_rfl))
@[reducible] def s372 : SP := ⟨[.int .i64, .int .i64, .int .i64, .fn 373], []⟩
noncomputable def tab372 (N : Nat) : List (Nat × (Pk → Tr Pk)) := [(373, T373 N)]
theorem tab372_ok (N : Nat) : TabOK Tryz.prog (tab372 N) := ⟨T373_ok N, trivial⟩
@[reducible] def L372_26 : LD := ⟨26, [1, 3, 11, 0], [(.ret, [8, 9, 10]), (.exit 0, [])], ⟨[.int .i64, .fn 373, .int .i64, .int .i64], []⟩, [(.ret, ⟨[.int .i64, .int .i64, .int .i64], []⟩), (.exit 0, ⟨[], []⟩)]⟩
abbrev P372_26 : Type := Int × Int × Int
abbrev R372_26 : Type := ((Int × Int × Int) ⊕ (Unit))
noncomputable def B372_26 (N : Nat) (f : P372_26 → Option R372_26) : P372_26 → Option R372_26
  | (x0, x1, x2) =>
  iteP (decide (x1 ≥ x0)) (
    Option.bind (F373 N x1) fun y0 =>
    iteP (decide (y0.1 ≤ x2)) (
      some (.inl ((x1, IntKind.wrap IntKind.i64 (x2 - y0.1), y0.2)))) (
      Option.bind (f (x0, IntKind.wrap IntKind.i64 (x1 - (1 : Int)), x2)) fun r => match r with | .inl y => some (.inl y) | .inr y => some (.inr y))) (
    some (.inr (())))
noncomputable def F372_26 (N : Nat) : Nat → P372_26 → Option R372_26
  | 0, _ => none
  | k + 1, x => B372_26 N (F372_26 N k) x
noncomputable def C372_26 (N : Nat) (k : Nat) : Cut := L372_26.cut (F372_26 N k)
theorem C372_26_ok (N : Nat) (k : Nat) : CutAt Tryz.prog false Tryz.f372 [] 26 (C372_26 N k) :=
  L372_26.loopT ownT mix (tab372_ok N) Tryz.f372 [] (cuts := []) trivial (by decide +kernel) (by kernel_rfl) (B372_26 N) (F372_26 N) (fun _ => rfl) (fun _ _ => rfl) (fun f x => by kernel_rfl) k
@[reducible] def w372 : List SP := [⟨[.tup [.int .i64, .int .i64, .int .i64]], []⟩]
noncomputable def F372 (N : Nat) : (Int × Int × Int) → Option (Int × Int × Int)
  | (x0, x1, x2) =>
  Option.bind (F372_26 N N (x1, x2, x0)) fun y0 =>
  match y0 with
  | .inl y1 =>
    some ((y1.1, y1.2.1, y1.2.2))
  | .inr y1 =>
    some (((0 : Int), (0 : Int), (0 : Int)))
noncomputable def T372 (N : Nat) : Pk → Tr Pk := tellS s372 w372 (F372 N)
theorem T372_ok (N : Nat) : FOK Tryz.prog (372) (T372 N) :=
  (fn_ok2 ownT mix (tab372_ok N) Tryz.func372 s372 w372 [] (cuts := [(26, C372_26 N N)]) ⟨C372_26_ok N N, trivial⟩ (fun _ => by kernel_rfl) (by decide +kernel) (F372 N) (fun x => by kernel_rfl))
@[reducible] def s356 : SP := ⟨[.int .i64], []⟩
noncomputable def tab356 (N : Nat) : List (Nat × (Pk → Tr Pk)) := [(372, T372 N)]
theorem tab356_ok (N : Nat) : TabOK Tryz.prog (tab356 N) := ⟨T372_ok N, trivial⟩
@[reducible] def w356 : List SP := [⟨[.tup [.int .i64, .int .i64, .int .i64]], []⟩]
noncomputable def F356 (N : Nat) : (Int) → Option (Int × Int × Int)
  | x0 =>
  iteP (decide (x0 > (258 : Int))) (
    some (((0 : Int), (0 : Int), (0 : Int)))) (
    Option.bind (F372 N (x0, (257 : Int), (285 : Int))) fun y0 =>
    some ((y0.1, y0.2.1, y0.2.2)))
noncomputable def T356 (N : Nat) : Pk → Tr Pk := tellS s356 w356 (F356 N)
theorem T356_ok (N : Nat) : FOK Tryz.prog (356) (T356 N) :=
  (fn_ok2 ownT mix (tab356_ok N) Tryz.func356 s356 w356 [] (cuts := []) trivial (fun _ => by kernel_rfl) (by decide +kernel) (F356 N) (fun x => by kernel_rfl))
@[reducible] def s374 : SP := ⟨[.int .i64], []⟩
noncomputable def tab374 (N : Nat) : List (Nat × (Pk → Tr Pk)) := [(382, T382 N)]
theorem tab374_ok (N : Nat) : TabOK Tryz.prog (tab374 N) := ⟨T382_ok N, trivial⟩
@[reducible] def w374 : List SP := [⟨[.tup [.int .i64, .int .i64]], []⟩]
noncomputable def F374 (N : Nat) : (Int) → Option (Int × Int)
  | x0 =>
  iteP (decide (x0 < (0 : Int))) (
    some (((0 : Int), (0 : Int)))) (
    iteP (decide (x0 ≥ (30 : Int))) (
      some (((0 : Int), (0 : Int)))) (
      Option.bind (F382 N (x0, (4 : Int), (2 : Int), (1 : Int))) fun y0 =>
      some ((y0.1, y0.2))))
noncomputable def T374 (N : Nat) : Pk → Tr Pk := tellS s374 w374 (F374 N)
theorem T374_ok (N : Nat) : FOK Tryz.prog (374) (T374 N) :=
  (fn_ok2 ownT mix (tab374_ok N) Tryz.func374 s374 w374 [] (cuts := []) trivial (fun _ => by kernel_rfl) (by decide +kernel) (F374 N) (fun x => by kernel_rfl))
@[reducible] def s372a : SP := ⟨[.int .i64, .int .i64, .int .i64, .fn 374], []⟩
noncomputable def tab372a (N : Nat) : List (Nat × (Pk → Tr Pk)) := [(374, T374 N)]
theorem tab372a_ok (N : Nat) : TabOK Tryz.prog (tab372a N) := ⟨T374_ok N, trivial⟩
@[reducible] def L372a_26 : LD := ⟨26, [1, 3, 11, 0], [(.ret, [8, 9, 10]), (.exit 0, [])], ⟨[.int .i64, .fn 374, .int .i64, .int .i64], []⟩, [(.ret, ⟨[.int .i64, .int .i64, .int .i64], []⟩), (.exit 0, ⟨[], []⟩)]⟩
abbrev P372a_26 : Type := Int × Int × Int
abbrev R372a_26 : Type := ((Int × Int × Int) ⊕ (Unit))
noncomputable def B372a_26 (N : Nat) (f : P372a_26 → Option R372a_26) : P372a_26 → Option R372a_26
  | (x0, x1, x2) =>
  iteP (decide (x1 ≥ x0)) (
    Option.bind (F374 N x1) fun y0 =>
    iteP (decide (y0.1 ≤ x2)) (
      some (.inl ((x1, IntKind.wrap IntKind.i64 (x2 - y0.1), y0.2)))) (
      Option.bind (f (x0, IntKind.wrap IntKind.i64 (x1 - (1 : Int)), x2)) fun r => match r with | .inl y => some (.inl y) | .inr y => some (.inr y))) (
    some (.inr (())))
noncomputable def F372a_26 (N : Nat) : Nat → P372a_26 → Option R372a_26
  | 0, _ => none
  | k + 1, x => B372a_26 N (F372a_26 N k) x
noncomputable def C372a_26 (N : Nat) (k : Nat) : Cut := L372a_26.cut (F372a_26 N k)
theorem C372a_26_ok (N : Nat) (k : Nat) : CutAt Tryz.prog false Tryz.f372 [] 26 (C372a_26 N k) :=
  L372a_26.loopT ownT mix (tab372a_ok N) Tryz.f372 [] (cuts := []) trivial (by decide +kernel) (by kernel_rfl) (B372a_26 N) (F372a_26 N) (fun _ => rfl) (fun _ _ => rfl) (fun f x => by kernel_rfl) k
@[reducible] def w372a : List SP := [⟨[.tup [.int .i64, .int .i64, .int .i64]], []⟩]
noncomputable def F372a (N : Nat) : (Int × Int × Int) → Option (Int × Int × Int)
  | (x0, x1, x2) =>
  Option.bind (F372a_26 N N (x1, x2, x0)) fun y0 =>
  match y0 with
  | .inl y1 =>
    some ((y1.1, y1.2.1, y1.2.2))
  | .inr y1 =>
    some (((0 : Int), (0 : Int), (0 : Int)))
noncomputable def T372a (N : Nat) : Pk → Tr Pk := tellS s372a w372a (F372a N)
theorem T372a_ok (N : Nat) : FOK Tryz.prog (372) (T372a N) :=
  (fn_ok2 ownT mix (tab372a_ok N) Tryz.func372 s372a w372a [] (cuts := [(26, C372a_26 N N)]) ⟨C372a_26_ok N N, trivial⟩ (fun _ => by kernel_rfl) (by decide +kernel) (F372a N) (fun x => by kernel_rfl))
@[reducible] def s357 : SP := ⟨[.int .i64], []⟩
noncomputable def tab357 (N : Nat) : List (Nat × (Pk → Tr Pk)) := [(372, T372a N)]
theorem tab357_ok (N : Nat) : TabOK Tryz.prog (tab357 N) := ⟨T372a_ok N, trivial⟩
@[reducible] def w357 : List SP := [⟨[.tup [.int .i64, .int .i64, .int .i64]], []⟩]
noncomputable def F357 (N : Nat) : (Int) → Option (Int × Int × Int)
  | x0 =>
  iteP (decide (x0 > (32768 : Int))) (
    some (((0 : Int), (0 : Int), (0 : Int)))) (
    Option.bind (F372a N (x0, (0 : Int), (29 : Int))) fun y0 =>
    some ((y0.1, y0.2.1, y0.2.2)))
noncomputable def T357 (N : Nat) : Pk → Tr Pk := tellS s357 w357 (F357 N)
theorem T357_ok (N : Nat) : FOK Tryz.prog (357) (T357 N) :=
  (fn_ok2 ownT mix (tab357_ok N) Tryz.func357 s357 w357 [] (cuts := []) trivial (fun _ => by kernel_rfl) (by decide +kernel) (F357 N) (fun x => by kernel_rfl))
@[reducible] def s338 : SP := ⟨[.ro y0], []⟩
noncomputable def tab338 (N : Nat) : List (Nat × (Pk → Tr Pk)) := [(335, T335 N), (356, T356 N), (357, T357 N)]
theorem tab338_ok (N : Nat) : TabOK Tryz.prog (tab338 N) := ⟨T335_ok N, T356_ok N, T357_ok N, trivial⟩
@[reducible] def L338_122 : LD := ⟨122, [18, 17, 16, 2, 3], [(.ret, [2, 3]), (.exit 0, [2, 3])], ⟨[.int .i64, .int .i64, .ro y0, .sl 0, .sl 1], [.row (.int .i64) 3, .row (.int .i64) 3]⟩, [(.exit 0, ⟨[.sl 0, .sl 1], [.row (.int .i64) 3, .row (.int .i64) 3]⟩)]⟩
abbrev P338_122 : Type := Int × Int × (List (Int × (Int × (Int × Unit)))) × (List Int) × (List Int)
abbrev R338_122 : Type := (List Int) × (List Int)
noncomputable def B338_122 (N : Nat) (f : P338_122 → Option R338_122) : P338_122 → Option R338_122
  | (x0, x1, x2, x3, x4) =>
  iteP (decide (x0 < x1)) (
    iteP (within x0 (List.length x2)) (
      Option.bind (x2[Int.toNat x0]?) fun y0 =>
      Option.bind (F335 N (y0.1, y0.2.1, y0.2.2.1)) fun y1 =>
      iteP (!y1) (
        Option.bind (f (IntKind.wrap IntKind.i64 (x0 + (1 : Int)), x1, x2, x3, x4)) fun r => some r) (
        iteP (y0.2.1 == (0 : Int)) (
          iteP (within y0.1 (List.length x3)) (
            Option.bind (x3[Int.toNat y0.1]?) fun y2 =>
            iteP (within y0.1 (List.length x3)) (
              Option.bind (x3[Int.toNat y0.1]?) fun y3 =>
              Option.bind (f (IntKind.wrap IntKind.i64 (x0 + (1 : Int)), x1, x2, List.set x3 (Int.toNat y0.1) (IntKind.wrap IntKind.i64 (y2 + (1 : Int))), x4)) fun r => some r) (
              none )) (
            none )) (
          Option.bind (F356 N y0.2.1) fun y4 =>
          Option.bind (F357 N y0.2.2.1) fun y5 =>
          iteP (within y4.1 (List.length x3)) (
            Option.bind (x3[Int.toNat y4.1]?) fun y6 =>
            iteP (within y4.1 (List.length x3)) (
              Option.bind (x3[Int.toNat y4.1]?) fun y7 =>
              iteP (within y5.1 (List.length x4)) (
                Option.bind (x4[Int.toNat y5.1]?) fun y8 =>
                iteP (within y5.1 (List.length x4)) (
                  Option.bind (x4[Int.toNat y5.1]?) fun y9 =>
                  Option.bind (f (IntKind.wrap IntKind.i64 (x0 + (1 : Int)), x1, x2, List.set x3 (Int.toNat y4.1) (IntKind.wrap IntKind.i64 (y6 + (1 : Int))), List.set x4 (Int.toNat y5.1) (IntKind.wrap IntKind.i64 (y8 + (1 : Int))))) fun r => some r) (
                  none )) (
                none )) (
              none )) (
            none )))) (
      none )) (
    some ((x3, x4)))
noncomputable def F338_122 (N : Nat) : Nat → P338_122 → Option R338_122
  | 0, _ => none
  | k + 1, x => B338_122 N (F338_122 N k) x
noncomputable def C338_122 (N : Nat) (k : Nat) : Cut := L338_122.cut (F338_122 N k)
theorem C338_122_ok (N : Nat) (k : Nat) : CutAt Tryz.prog false Tryz.f338 [] 122 (C338_122 N k) :=
  L338_122.loopT ownT mix (tab338_ok N) Tryz.f338 [] (cuts := []) trivial (by decide +kernel) (by kernel_rfl) (B338_122 N) (F338_122 N) (fun _ => rfl) (fun _ _ => rfl) (fun f x => by kernel_rfl) k
@[reducible] def w338 : List SP := [⟨[.tup [.sl 0, .sl 1]], [.row (.int .i64) 3, .row (.int .i64) 3]⟩]
noncomputable def F338 (N : Nat) : ((List (Int × (Int × (Int × Unit))))) → Option ((List Int) × (List Int))
  | x0 =>
  Option.bind (F338_122 N N ((0 : Int), (↑(List.length x0) : Int), x0, [(0 : Int), (0 : Int), (0 : Int), (0 : Int), (0 : Int), (0 : Int), (0 : Int), (0 : Int), (0 : Int), (0 : Int), (0 : Int), (0 : Int), (0 : Int), (0 : Int), (0 : Int), (0 : Int), (0 : Int), (0 : Int), (0 : Int), (0 : Int), (0 : Int), (0 : Int), (0 : Int), (0 : Int), (0 : Int), (0 : Int), (0 : Int), (0 : Int), (0 : Int), (0 : Int), (0 : Int), (0 : Int), (0 : Int), (0 : Int), (0 : Int), (0 : Int), (0 : Int), (0 : Int), (0 : Int), (0 : Int), (0 : Int), (0 : Int), (0 : Int), (0 : Int), (0 : Int), (0 : Int), (0 : Int), (0 : Int), (0 : Int), (0 : Int), (0 : Int), (0 : Int), (0 : Int), (0 : Int), (0 : Int), (0 : Int), (0 : Int), (0 : Int), (0 : Int), (0 : Int), (0 : Int), (0 : Int), (0 : Int), (0 : Int), (0 : Int), (0 : Int), (0 : Int), (0 : Int), (0 : Int), (0 : Int), (0 : Int), (0 : Int), (0 : Int), (0 : Int), (0 : Int), (0 : Int), (0 : Int), (0 : Int), (0 : Int), (0 : Int), (0 : Int), (0 : Int), (0 : Int), (0 : Int), (0 : Int), (0 : Int), (0 : Int), (0 : Int), (0 : Int), (0 : Int), (0 : Int), (0 : Int), (0 : Int), (0 : Int), (0 : Int), (0 : Int), (0 : Int), (0 : Int), (0 : Int), (0 : Int), (0 : Int), (0 : Int), (0 : Int), (0 : Int), (0 : Int), (0 : Int), (0 : Int), (0 : Int), (0 : Int), (0 : Int), (0 : Int), (0 : Int), (0 : Int), (0 : Int), (0 : Int), (0 : Int), (0 : Int), (0 : Int), (0 : Int), (0 : Int), (0 : Int), (0 : Int), (0 : Int), (0 : Int), (0 : Int), (0 : Int), (0 : Int), (0 : Int), (0 : Int), (0 : Int), (0 : Int), (0 : Int), (0 : Int), (0 : Int), (0 : Int), (0 : Int), (0 : Int), (0 : Int), (0 : Int), (0 : Int), (0 : Int), (0 : Int), (0 : Int), (0 : Int), (0 : Int), (0 : Int), (0 : Int), (0 : Int), (0 : Int), (0 : Int), (0 : Int), (0 : Int), (0 : Int), (0 : Int), (0 : Int), (0 : Int), (0 : Int), (0 : Int), (0 : Int), (0 : Int), (0 : Int), (0 : Int), (0 : Int), (0 : Int), (0 : Int), (0 : Int), (0 : Int), (0 : Int), (0 : Int), (0 : Int), (0 : Int), (0 : Int), (0 : Int), (0 : Int), (0 : Int), (0 : Int), (0 : Int), (0 : Int), (0 : Int), (0 : Int), (0 : Int), (0 : Int), (0 : Int), (0 : Int), (0 : Int), (0 : Int), (0 : Int), (0 : Int), (0 : Int), (0 : Int), (0 : Int), (0 : Int), (0 : Int), (0 : Int), (0 : Int), (0 : Int), (0 : Int), (0 : Int), (0 : Int), (0 : Int), (0 : Int), (0 : Int), (0 : Int), (0 : Int), (0 : Int), (0 : Int), (0 : Int), (0 : Int), (0 : Int), (0 : Int), (0 : Int), (0 : Int), (0 : Int), (0 : Int), (0 : Int), (0 : Int), (0 : Int), (0 : Int), (0 : Int), (0 : Int), (0 : Int), (0 : Int), (0 : Int), (0 : Int), (0 : Int), (0 : Int), (0 : Int), (0 : Int), (0 : Int), (0 : Int), (0 : Int), (0 : Int), (0 : Int), (0 : Int), (0 : Int), (0 : Int), (0 : Int), (0 : Int), (0 : Int), (0 : Int), (0 : Int), (0 : Int), (0 : Int), (0 : Int), (0 : Int), (0 : Int), (0 : Int), (0 : Int), (0 : Int), (0 : Int), (0 : Int), (0 : Int), (0 : Int), (0 : Int), (0 : Int), (0 : Int), (1 : Int), (0 : Int), (0 : Int), (0 : Int), (0 : Int), (0 : Int), (0 : Int), (0 : Int), (0 : Int), (0 : Int), (0 : Int), (0 : Int), (0 : Int), (0 : Int), (0 : Int), (0 : Int), (0 : Int), (0 : Int), (0 : Int), (0 : Int), (0 : Int), (0 : Int), (0 : Int), (0 : Int), (0 : Int), (0 : Int), (0 : Int), (0 : Int), (0 : Int), (0 : Int)], List.replicate (30 : Nat) (0 : Int))) fun y0 =>
  some ((y0.1, y0.2))
noncomputable def T338 (N : Nat) : Pk → Tr Pk := tellS s338 w338 (F338 N)
theorem T338_ok (N : Nat) : FOK Tryz.prog (338) (T338 N) :=
  (fn_ok2 ownT mix (tab338_ok N) Tryz.func338 s338 w338 [] (cuts := [(122, C338_122 N N)]) ⟨C338_122_ok N N, trivial⟩ (fun _ => by kernel_rfl) (by decide +kernel) (F338 N) (fun x => by kernel_rfl))
@[reducible] def s355 : SP := ⟨[.ro y1, .ro (.int .i64)], []⟩
noncomputable def tab355 (N : Nat) : List (Nat × (Pk → Tr Pk)) := []
theorem tab355_ok (N : Nat) : TabOK Tryz.prog (tab355 N) := trivial
@[reducible] def L355_26 : LD := ⟨26, [8, 7, 0, 9], [(.ret, [4]), (.exit 0, [])], ⟨[.int .i64, .ro (.int .i64), .ro y1, .int .i64], []⟩, [(.ret, ⟨[.bool], []⟩), (.exit 0, ⟨[], []⟩)]⟩
abbrev P355_26 : Type := Int × (List Int) × (List (Int × (Int × Unit))) × Int
abbrev R355_26 : Type := ((Bool) ⊕ (Unit))
noncomputable def B355_26 (N : Nat) (f : P355_26 → Option R355_26) : P355_26 → Option R355_26
  | (x0, x1, x2, x3) =>
  iteP (decide (x3 < x0)) (
    iteP (within x3 (List.length x1)) (
      Option.bind (x1[Int.toNat x3]?) fun y0 =>
      iteP (decide (y0 > (0 : Int))) (
        iteP (decide (x3 ≥ (↑(List.length x2) : Int))) (
          some (.inl (false))) (
          iteP (within x3 (List.length x2)) (
            Option.bind (x2[Int.toNat x3]?) fun y1 =>
            iteP (y1.2.1 == (0 : Int)) (
              some (.inl (false))) (
              Option.bind (f (x0, x1, x2, IntKind.wrap IntKind.i64 (x3 + (1 : Int)))) fun r => match r with | .inl y => some (.inl y) | .inr y => some (.inr y))) (
            none ))) (
        Option.bind (f (x0, x1, x2, IntKind.wrap IntKind.i64 (x3 + (1 : Int)))) fun r => match r with | .inl y => some (.inl y) | .inr y => some (.inr y))) (
      none )) (
    some (.inr (())))
noncomputable def F355_26 (N : Nat) : Nat → P355_26 → Option R355_26
  | 0, _ => none
  | k + 1, x => B355_26 N (F355_26 N k) x
noncomputable def C355_26 (N : Nat) (k : Nat) : Cut := L355_26.cut (F355_26 N k)
theorem C355_26_ok (N : Nat) (k : Nat) : CutAt Tryz.prog false Tryz.f355 [] 26 (C355_26 N k) :=
  L355_26.loopT ownT mix (tab355_ok N) Tryz.f355 [] (cuts := []) trivial (by decide +kernel) (by kernel_rfl) (B355_26 N) (F355_26 N) (fun _ => rfl) (fun _ _ => rfl) (fun f x => by kernel_rfl) k
@[reducible] def w355 : List SP := [⟨[.bool], []⟩]
noncomputable def F355 (N : Nat) : ((List (Int × (Int × Unit))) × (List Int)) → Option (Bool)
  | (x0, x1) =>
  Option.bind (F355_26 N N ((↑(List.length x1) : Int), x1, x0, (0 : Int))) fun y0 =>
  match y0 with
  | .inl y1 =>
    some (y1)
  | .inr y1 =>
    some (true)
noncomputable def T355 (N : Nat) : Pk → Tr Pk := tellS s355 w355 (F355 N)
theorem T355_ok (N : Nat) : FOK Tryz.prog (355) (T355 N) :=
  (fn_ok2 ownT mix (tab355_ok N) Tryz.func355 s355 w355 [] (cuts := [(26, C355_26 N N)]) ⟨C355_26_ok N N, trivial⟩ (fun _ => by kernel_rfl) (by decide +kernel) (F355 N) (fun x => by kernel_rfl))
@[reducible] def s334 : SP := ⟨[.int .u64], []⟩
noncomputable def tab334 (N : Nat) : List (Nat × (Pk → Tr Pk)) := []
theorem tab334_ok (N : Nat) : TabOK Tryz.prog (tab334 N) := trivial
@[reducible] def w334 : List SP := [⟨[.int .u64], []⟩]
noncomputable def F334 (N : Nat) : (Int) → Option (Int)
  | x0 =>
  some (IntKind.wrap IntKind.u64 (↑(BitVec.toNat (BitVec.ofInt (64 : Nat) (Int.fdiv (IntKind.wrap IntKind.u64 (↑(BitVec.toNat (BitVec.ofInt (64 : Nat) (IntKind.wrap IntKind.u64 (↑(BitVec.toNat (BitVec.ofInt (64 : Nat) (Int.fdiv (IntKind.wrap IntKind.u64 (↑(BitVec.toNat (BitVec.ofInt (64 : Nat) (IntKind.wrap IntKind.u64 (↑(BitVec.toNat (BitVec.ofInt (64 : Nat) (Int.fdiv x0 (256 : Int)) &&& BitVec.ofInt (64 : Nat) (71777214294589695 : Int))) : Int)) ||| BitVec.ofInt (64 : Nat) (IntKind.wrap IntKind.u64 (IntKind.wrap IntKind.u64 (↑(BitVec.toNat (BitVec.ofInt (64 : Nat) x0 &&& BitVec.ofInt (64 : Nat) (71777214294589695 : Int))) : Int) * (256 : Int))))) : Int)) (65536 : Int)) &&& BitVec.ofInt (64 : Nat) (281470681808895 : Int))) : Int)) ||| BitVec.ofInt (64 : Nat) (IntKind.wrap IntKind.u64 (IntKind.wrap IntKind.u64 (↑(BitVec.toNat (BitVec.ofInt (64 : Nat) (IntKind.wrap IntKind.u64 (↑(BitVec.toNat (BitVec.ofInt (64 : Nat) (IntKind.wrap IntKind.u64 (↑(BitVec.toNat (BitVec.ofInt (64 : Nat) (Int.fdiv x0 (256 : Int)) &&& BitVec.ofInt (64 : Nat) (71777214294589695 : Int))) : Int)) ||| BitVec.ofInt (64 : Nat) (IntKind.wrap IntKind.u64 (IntKind.wrap IntKind.u64 (↑(BitVec.toNat (BitVec.ofInt (64 : Nat) x0 &&& BitVec.ofInt (64 : Nat) (71777214294589695 : Int))) : Int) * (256 : Int))))) : Int)) &&& BitVec.ofInt (64 : Nat) (281470681808895 : Int))) : Int) * (65536 : Int))))) : Int)) (4294967296 : Int)) ||| BitVec.ofInt (64 : Nat) (IntKind.wrap IntKind.u64 (IntKind.wrap IntKind.u64 (↑(BitVec.toNat (BitVec.ofInt (64 : Nat) (IntKind.wrap IntKind.u64 (↑(BitVec.toNat (BitVec.ofInt (64 : Nat) (Int.fdiv (IntKind.wrap IntKind.u64 (↑(BitVec.toNat (BitVec.ofInt (64 : Nat) (IntKind.wrap IntKind.u64 (↑(BitVec.toNat (BitVec.ofInt (64 : Nat) (Int.fdiv x0 (256 : Int)) &&& BitVec.ofInt (64 : Nat) (71777214294589695 : Int))) : Int)) ||| BitVec.ofInt (64 : Nat) (IntKind.wrap IntKind.u64 (IntKind.wrap IntKind.u64 (↑(BitVec.toNat (BitVec.ofInt (64 : Nat) x0 &&& BitVec.ofInt (64 : Nat) (71777214294589695 : Int))) : Int) * (256 : Int))))) : Int)) (65536 : Int)) &&& BitVec.ofInt (64 : Nat) (281470681808895 : Int))) : Int)) ||| BitVec.ofInt (64 : Nat) (IntKind.wrap IntKind.u64 (IntKind.wrap IntKind.u64 (↑(BitVec.toNat (BitVec.ofInt (64 : Nat) (IntKind.wrap IntKind.u64 (↑(BitVec.toNat (BitVec.ofInt (64 : Nat) (IntKind.wrap IntKind.u64 (↑(BitVec.toNat (BitVec.ofInt (64 : Nat) (Int.fdiv x0 (256 : Int)) &&& BitVec.ofInt (64 : Nat) (71777214294589695 : Int))) : Int)) ||| BitVec.ofInt (64 : Nat) (IntKind.wrap IntKind.u64 (IntKind.wrap IntKind.u64 (↑(BitVec.toNat (BitVec.ofInt (64 : Nat) x0 &&& BitVec.ofInt (64 : Nat) (71777214294589695 : Int))) : Int) * (256 : Int))))) : Int)) &&& BitVec.ofInt (64 : Nat) (281470681808895 : Int))) : Int) * (65536 : Int))))) : Int) * (4294967296 : Int))))) : Int))
noncomputable def T334 (N : Nat) : Pk → Tr Pk := tellS s334 w334 (F334 N)
theorem T334_ok (N : Nat) : FOK Tryz.prog (334) (T334 N) :=
  (fn_ok2 ownT mix (tab334_ok N) Tryz.func334 s334 w334 [] (cuts := []) trivial (fun _ => by kernel_rfl) (by decide +kernel) (F334 N) (fun x => by kernel_rfl))
@[reducible] def s312 : SP := ⟨[.int .u64], []⟩
noncomputable def tab312 (N : Nat) : List (Nat × (Pk → Tr Pk)) := [(334, T334 N)]
theorem tab312_ok (N : Nat) : TabOK Tryz.prog (tab312 N) := ⟨T334_ok N, trivial⟩
@[reducible] def w312 : List SP := [⟨[.int .u64], []⟩]
noncomputable def F312 (N : Nat) : (Int) → Option (Int)
  | x0 =>
  Option.bind (F334 N (IntKind.wrap IntKind.u64 (↑(BitVec.toNat (BitVec.ofInt (64 : Nat) (IntKind.wrap IntKind.u64 (↑(BitVec.toNat (BitVec.ofInt (64 : Nat) (Int.fdiv (IntKind.wrap IntKind.u64 (↑(BitVec.toNat (BitVec.ofInt (64 : Nat) (IntKind.wrap IntKind.u64 (↑(BitVec.toNat (BitVec.ofInt (64 : Nat) (Int.fdiv (IntKind.wrap IntKind.u64 (↑(BitVec.toNat (BitVec.ofInt (64 : Nat) (IntKind.wrap IntKind.u64 (↑(BitVec.toNat (BitVec.ofInt (64 : Nat) (Int.fdiv x0 (2 : Int)) &&& BitVec.ofInt (64 : Nat) (6148914691236517205 : Int))) : Int)) ||| BitVec.ofInt (64 : Nat) (IntKind.wrap IntKind.u64 (IntKind.wrap IntKind.u64 (↑(BitVec.toNat (BitVec.ofInt (64 : Nat) x0 &&& BitVec.ofInt (64 : Nat) (6148914691236517205 : Int))) : Int) * (2 : Int))))) : Int)) (4 : Int)) &&& BitVec.ofInt (64 : Nat) (3689348814741910323 : Int))) : Int)) ||| BitVec.ofInt (64 : Nat) (IntKind.wrap IntKind.u64 (IntKind.wrap IntKind.u64 (↑(BitVec.toNat (BitVec.ofInt (64 : Nat) (IntKind.wrap IntKind.u64 (↑(BitVec.toNat (BitVec.ofInt (64 : Nat) (IntKind.wrap IntKind.u64 (↑(BitVec.toNat (BitVec.ofInt (64 : Nat) (Int.fdiv x0 (2 : Int)) &&& BitVec.ofInt (64 : Nat) (6148914691236517205 : Int))) : Int)) ||| BitVec.ofInt (64 : Nat) (IntKind.wrap IntKind.u64 (IntKind.wrap IntKind.u64 (↑(BitVec.toNat (BitVec.ofInt (64 : Nat) x0 &&& BitVec.ofInt (64 : Nat) (6148914691236517205 : Int))) : Int) * (2 : Int))))) : Int)) &&& BitVec.ofInt (64 : Nat) (3689348814741910323 : Int))) : Int) * (4 : Int))))) : Int)) (16 : Int)) &&& BitVec.ofInt (64 : Nat) (1085102592571150095 : Int))) : Int)) ||| BitVec.ofInt (64 : Nat) (IntKind.wrap IntKind.u64 (IntKind.wrap IntKind.u64 (↑(BitVec.toNat (BitVec.ofInt (64 : Nat) (IntKind.wrap IntKind.u64 (↑(BitVec.toNat (BitVec.ofInt (64 : Nat) (IntKind.wrap IntKind.u64 (↑(BitVec.toNat (BitVec.ofInt (64 : Nat) (Int.fdiv (IntKind.wrap IntKind.u64 (↑(BitVec.toNat (BitVec.ofInt (64 : Nat) (IntKind.wrap IntKind.u64 (↑(BitVec.toNat (BitVec.ofInt (64 : Nat) (Int.fdiv x0 (2 : Int)) &&& BitVec.ofInt (64 : Nat) (6148914691236517205 : Int))) : Int)) ||| BitVec.ofInt (64 : Nat) (IntKind.wrap IntKind.u64 (IntKind.wrap IntKind.u64 (↑(BitVec.toNat (BitVec.ofInt (64 : Nat) x0 &&& BitVec.ofInt (64 : Nat) (6148914691236517205 : Int))) : Int) * (2 : Int))))) : Int)) (4 : Int)) &&& BitVec.ofInt (64 : Nat) (3689348814741910323 : Int))) : Int)) ||| BitVec.ofInt (64 : Nat) (IntKind.wrap IntKind.u64 (IntKind.wrap IntKind.u64 (↑(BitVec.toNat (BitVec.ofInt (64 : Nat) (IntKind.wrap IntKind.u64 (↑(BitVec.toNat (BitVec.ofInt (64 : Nat) (IntKind.wrap IntKind.u64 (↑(BitVec.toNat (BitVec.ofInt (64 : Nat) (Int.fdiv x0 (2 : Int)) &&& BitVec.ofInt (64 : Nat) (6148914691236517205 : Int))) : Int)) ||| BitVec.ofInt (64 : Nat) (IntKind.wrap IntKind.u64 (IntKind.wrap IntKind.u64 (↑(BitVec.toNat (BitVec.ofInt (64 : Nat) x0 &&& BitVec.ofInt (64 : Nat) (6148914691236517205 : Int))) : Int) * (2 : Int))))) : Int)) &&& BitVec.ofInt (64 : Nat) (3689348814741910323 : Int))) : Int) * (4 : Int))))) : Int)) &&& BitVec.ofInt (64 : Nat) (1085102592571150095 : Int))) : Int) * (16 : Int))))) : Int))) fun y0 =>
  some (y0)
noncomputable def T312 (N : Nat) : Pk → Tr Pk := tellS s312 w312 (F312 N)
theorem T312_ok (N : Nat) : FOK Tryz.prog (312) (T312 N) :=
  (fn_ok2 ownT mix (tab312_ok N) Tryz.func312 s312 w312 [] (cuts := []) trivial (fun _ => by kernel_rfl) (by decide +kernel) (F312 N) (fun x => by kernel_rfl))
@[reducible] def s270 : SP := ⟨[.agg [.int .i64, .int .i64]], []⟩
noncomputable def tab270 (N : Nat) : List (Nat × (Pk → Tr Pk)) := [(310, T310 N), (311, T311 N), (312, T312 N)]
theorem tab270_ok (N : Nat) : TabOK Tryz.prog (tab270 N) := ⟨T310_ok N, T311_ok N, T312_ok N, trivial⟩
@[reducible] def w270 : List SP := [⟨[.int .i64], []⟩]
noncomputable def F270 (N : Nat) : (Int × Int) → Option (Int)
  | (x0, x1) =>
  Option.bind (F310 N x1) fun y0 =>
  Option.bind (F311 N (y0, x0)) fun y1 =>
  Option.bind (F312 N (IntKind.wrap IntKind.u64 y1)) fun y2 =>
  iteP (decide (IntKind.wrap IntKind.i64 ((64 : Int) - y0) < (0 : Int))) (
    none ) (
    some (IntKind.wrap IntKind.i64 (Int.fdiv y2 ((2 : Int) ^ min (Int.toNat (IntKind.wrap IntKind.i64 ((64 : Int) - y0))) (64 : Nat)))))
noncomputable def T270 (N : Nat) : Pk → Tr Pk := tellS s270 w270 (F270 N)
theorem T270_ok (N : Nat) : FOK Tryz.prog (270) (T270 N) :=
  (fn_ok2 ownT mix (tab270_ok N) Tryz.func270 s270 w270 [] (cuts := []) trivial (fun _ => by kernel_rfl) (by decide +kernel) (F270 N) (fun x => by kernel_rfl))
@[reducible] def s222 : SP := ⟨[.adr 0 [], .agg [.int .i64, .int .i64]], [.var 221 (.agg [.sl 1, .int .i64, .int .i64]), .row (.int .u8) 5]⟩
noncomputable def tab222 (N : Nat) : List (Nat × (Pk → Tr Pk)) := [(270, T270 N), (269, T269 N)]
theorem tab222_ok (N : Nat) : TabOK Tryz.prog (tab222 N) := ⟨T270_ok N, T269_ok N, trivial⟩
@[reducible] def w222 : List SP := [⟨[.tup []], [.var 221 (.agg [.sl 1, .int .i64, .int .i64]), .row (.int .u8) 5]⟩]
noncomputable def F222 (N : Nat) : (Int × Int × Int × Int × (List Int)) → Option (Int × Int × (List Int))
  | (x0, x1, x2, x3, x4) =>
  Option.bind (F270 N (x0, x1)) fun y0 =>
  Option.bind (F269 N (x1, y0, x2, x3, x4)) fun y1 =>
  some ((y1.1, y1.2.1, y1.2.2))
noncomputable def T222 (N : Nat) : Pk → Tr Pk := tellS s222 w222 (F222 N)
theorem T222_ok (N : Nat) : FOK Tryz.prog (222) (T222 N) :=
  (fn_ok2 ownT mix (tab222_ok N) Tryz.func222 s222 w222 [0] (cuts := []) trivial (fun _ => by kernel_rfl) (by decide +kernel) (F222 N) (fun x => by kernel_rfl))
@[reducible] def s337 : SP := ⟨[.adr 0 [], .ro (.int .i64), .ro (.int .i64), .ro y0], [.var 221 (.agg [.sl 1, .int .i64, .int .i64]), .row (.int .u8) 5]⟩
noncomputable def tab337 (N : Nat) : List (Nat × (Pk → Tr Pk)) := [(335, T335 N), (354, T354 N), (338, T338 N), (355, T355 N), (222, T222 N), (356, T356 N), (269, T269 N), (357, T357 N)]
theorem tab337_ok (N : Nat) : TabOK Tryz.prog (tab337 N) := ⟨T335_ok N, T354_ok N, T338_ok N, T355_ok N, T222_ok N, T356_ok N, T269_ok N, T357_ok N, trivial⟩
@[reducible] def L337_26 : LD := ⟨26, [23, 3, 0, 2, 1, 22, 24], [(.ret, [8]), (.exit 0, [1, 2, 0, 3])], ⟨[.int .i64, .ro y0, .adr 0 [], .ro (.int .i64), .ro (.int .i64), .ro y0, .int .i64], [.var 221 (.agg [.sl 1, .int .i64, .int .i64]), .row (.int .u8) 5]⟩, [(.ret, ⟨[.int .i64], [.var 221 (.agg [.sl 1, .int .i64, .int .i64]), .row (.int .u8) 5]⟩), (.exit 0, ⟨[.ro (.int .i64), .ro (.int .i64), .adr 0 [], .ro y0], [.var 221 (.agg [.sl 1, .int .i64, .int .i64]), .row (.int .u8) 5]⟩)]⟩
abbrev P337_26 : Type := Int × (List (Int × (Int × (Int × Unit)))) × (List Int) × (List Int) × (List (Int × (Int × (Int × Unit)))) × Int × Int × Int × (List Int)
abbrev R337_26 : Type := ((Int × Int × Int × (List Int)) ⊕ ((List Int) × (List Int) × (List (Int × (Int × (Int × Unit)))) × Int × Int × (List Int)))
noncomputable def B337_26 (N : Nat) (f : P337_26 → Option R337_26) : P337_26 → Option R337_26
  | (x0, x1, x2, x3, x4, x5, x6, x7, x8) =>
  iteP (decide (x5 < x0)) (
    iteP (within x5 (List.length x4)) (
      Option.bind (x4[Int.toNat x5]?) fun y0 =>
      Option.bind (F335 N (y0.1, y0.2.1, y0.2.2.1)) fun y1 =>
      iteP (!y1) (
        some (.inl (((1 : Int), x6, x7, x8)))) (
        Option.bind (f (x0, x1, x2, x3, x4, IntKind.wrap IntKind.i64 (x5 + (1 : Int)), x6, x7, x8)) fun r => match r with | .inl y => some (.inl y) | .inr y => some (.inr y))) (
      none )) (
    some (.inr ((x3, x2, x1, x6, x7, x8))))
noncomputable def F337_26 (N : Nat) : Nat → P337_26 → Option R337_26
  | 0, _ => none
  | k + 1, x => B337_26 N (F337_26 N k) x
noncomputable def C337_26 (N : Nat) (k : Nat) : Cut := L337_26.cut (F337_26 N k)
theorem C337_26_ok (N : Nat) (k : Nat) : CutAt Tryz.prog false Tryz.f337 [0] 26 (C337_26 N k) :=
  L337_26.loopT ownT mix (tab337_ok N) Tryz.f337 [0] (cuts := []) trivial (by decide +kernel) (by kernel_rfl) (B337_26 N) (F337_26 N) (fun _ => rfl) (fun _ _ => rfl) (fun f x => by kernel_rfl) k
@[reducible] def L337_1018 : LD := ⟨1018, [67, 66, 65, 13, 0, 11], [(.ret, [8]), (.exit 2, [0, 11])], ⟨[.int .i64, .int .i64, .ro y0, .sl 1, .adr 0 [], .sl 2], [.var 221 (.agg [.sl 3, .int .i64, .int .i64]), .row y1 248, .row y1 248, .row (.int .u8) 5]⟩, [(.exit 2, ⟨[.adr 0 [], .sl 1], [.var 221 (.agg [.sl 2, .int .i64, .int .i64]), .row y1 248, .row (.int .u8) 5]⟩)]⟩
abbrev P337_1018 : Type := Int × Int × (List (Int × (Int × (Int × Unit)))) × Int × Int × (List (Int × (Int × Unit))) × (List (Int × (Int × Unit))) × (List Int)
abbrev R337_1018 : Type := Int × Int × (List (Int × (Int × Unit))) × (List Int)
noncomputable def B337_1018 (N : Nat) (f : P337_1018 → Option R337_1018) : P337_1018 → Option R337_1018
  | (x0, x1, x2, x3, x4, x5, x6, x7) =>
  iteP (decide (x0 < x1)) (
    iteP (within x0 (List.length x2)) (
      Option.bind (x2[Int.toNat x0]?) fun y0 =>
      iteP (y0.2.1 == (0 : Int)) (
        iteP (within y0.1 (List.length x6)) (
          Option.bind (x6[Int.toNat y0.1]?) fun y1 =>
          Option.bind (F222 N (y1.1, y1.2.1, x3, x4, x7)) fun y2 =>
          Option.bind (f (IntKind.wrap IntKind.i64 (x0 + (1 : Int)), x1, x2, y2.1, y2.2.1, x5, x6, y2.2.2)) fun r => some r) (
          none )) (
        Option.bind (F356 N y0.2.1) fun y3 =>
        iteP (within y3.1 (List.length x6)) (
          Option.bind (x6[Int.toNat y3.1]?) fun y4 =>
          Option.bind (F222 N (y4.1, y4.2.1, x3, x4, x7)) fun y5 =>
          Option.bind (F269 N (y3.2.2, y3.2.1, y5.1, y5.2.1, y5.2.2)) fun y6 =>
          Option.bind (F357 N y0.2.2.1) fun y7 =>
          iteP (within y7.1 (List.length x5)) (
            Option.bind (x5[Int.toNat y7.1]?) fun y8 =>
            Option.bind (F222 N (y8.1, y8.2.1, y6.1, y6.2.1, y6.2.2)) fun y9 =>
            Option.bind (F269 N (y7.2.2, y7.2.1, y9.1, y9.2.1, y9.2.2)) fun y10 =>
            Option.bind (f (IntKind.wrap IntKind.i64 (x0 + (1 : Int)), x1, x2, y10.1, y10.2.1, x5, x6, y10.2.2)) fun r => some r) (
            none )) (
          none ))) (
      none )) (
    some ((x3, x4, x6, x7)))
noncomputable def F337_1018 (N : Nat) : Nat → P337_1018 → Option R337_1018
  | 0, _ => none
  | k + 1, x => B337_1018 N (F337_1018 N k) x
noncomputable def C337_1018 (N : Nat) (k : Nat) : Cut := L337_1018.cut (F337_1018 N k)
theorem C337_1018_ok (N : Nat) (k : Nat) : CutAt Tryz.prog false Tryz.f337 [0] 1018 (C337_1018 N k) :=
  L337_1018.loopT ownT mix (tab337_ok N) Tryz.f337 [0] (cuts := [(26, C337_26 N N)]) ⟨C337_26_ok N N, trivial⟩ (by decide +kernel) (by kernel_rfl) (B337_1018 N) (F337_1018 N) (fun _ => rfl) (fun _ _ => rfl) (fun f x => by kernel_rfl) k
@[reducible] def L337_127 : LD := ⟨127, [3, 13, 0, 11], [(.ret, [8]), (.normal, [8])], ⟨[.ro y0, .sl 1, .adr 0 [], .sl 2], [.var 221 (.agg [.sl 3, .int .i64, .int .i64]), .row y1 248, .row y1 248, .row (.int .u8) 5]⟩, [(.ret, ⟨[.int .i64], [.var 221 (.agg [.sl 1, .int .i64, .int .i64]), .row (.int .u8) 5]⟩)]⟩
noncomputable def F337_127 (N : Nat) : ((List (Int × (Int × (Int × Unit)))) × Int × Int × (List (Int × (Int × Unit))) × (List (Int × (Int × Unit))) × (List Int)) → Option (Int × Int × Int × (List Int))
  | (x0, x1, x2, x3, x4, x5) =>
  Option.bind (F337_1018 N N ((0 : Int), (↑(List.length x0) : Int), x0, x1, x2, x3, x4, x5)) fun y0 =>
  iteP (within (256 : Int) (List.length y0.2.2.1)) (
    Option.bind (y0.2.2.1[(256 : Nat)]?) fun y1 =>
    Option.bind (F222 N (y1.1, y1.2.1, y0.1, y0.2.1, y0.2.2.2)) fun y2 =>
    some (((0 : Int), y2.1, y2.2.1, y2.2.2))) (
    none )
noncomputable def C337_127 (N : Nat) (_ : Nat) : Cut := L337_127.cut (F337_127 N)
theorem C337_127_ok (N : Nat) (k : Nat) : CutAt Tryz.prog false Tryz.f337 [0] 127 (C337_127 N k) :=
  L337_127.pieceT ownT mix (tab337_ok N) Tryz.f337 [0] (cuts := [(26, C337_26 N N), (1018, C337_1018 N N)]) ⟨C337_26_ok N N, C337_1018_ok N N, trivial⟩ (by decide +kernel) (by kernel_rfl) (F337_127 N) (fun x => by kernel_rfl)
@[reducible] def w337 : List SP := [⟨[.int .i64], [.var 221 (.agg [.sl 1, .int .i64, .int .i64]), .row (.int .u8) 5]⟩]
noncomputable def F337 (N : Nat) : ((List Int) × (List Int) × (List (Int × (Int × (Int × Unit)))) × Int × Int × (List Int)) → Option (Int × Int × Int × (List Int))
  | (x0, x1, x2, x3, x4, x5) =>
  Option.bind (F337_26 N N ((↑(List.length x2) : Int), x2, x1, x0, x2, (0 : Int), x3, x4, x5)) fun y0 =>
  match y0 with
  | .inl y1 =>
    some ((y1.1, y1.2.1, y1.2.2.1, y1.2.2.2))
  | .inr (y1_0, y1_1, y1_2, y1_3, y1_4, y1_5) =>
    Option.bind (F354 N y1_0) fun y2 =>
    Option.bind (F354 N y1_1) fun y3 =>
    Option.bind (F338 N y1_2) fun y4 =>
    iteP (y2.1 != (0 : Int)) (
      some (((50 : Int), y1_3, y1_4, y1_5))) (
      iteP (y3.1 != (0 : Int)) (
        some (((50 : Int), y1_3, y1_4, y1_5))) (
        Option.bind (F355 N (y2.2, y4.1)) fun y5 =>
        iteP (!y5) (
          some (((50 : Int), y1_3, y1_4, y1_5))) (
          Option.bind (F355 N (y3.2, y4.2)) fun y6 =>
          iteP (!y6) (
            some (((50 : Int), y1_3, y1_4, y1_5))) (
            Option.bind (F337_127 N (y1_2, y1_3, y1_4, y3.2, y2.2, y1_5)) fun y7 =>
            some ((y7.1, y7.2.1, y7.2.2.1, y7.2.2.2))))))
noncomputable def T337 (N : Nat) : Pk → Tr Pk := tellS s337 w337 (F337 N)
theorem T337_ok (N : Nat) : FOK Tryz.prog (337) (T337 N) :=
  (fn_ok2 ownT mix (tab337_ok N) Tryz.func337 s337 w337 [0] (cuts := [(26, C337_26 N N), (1018, C337_1018 N N), (127, C337_127 N N)]) ⟨C337_26_ok N N, C337_1018_ok N N, C337_127_ok N N, trivial⟩ (fun _ => by kernel_rfl) (by decide +kernel) (F337 N) (fun x => by kernel_rfl))
@[reducible] def y2 : Ty := (.cons (.int .i64) (.cons (.sl (.int .i64)) .unit))
@[reducible] def y3 : Ty := (.sl (.cons (.int .i64) (.cons (.sl (.int .i64)) .unit)))
@[reducible] def s388 : SP := ⟨[.nilsl, .int .i64], []⟩
noncomputable def tab388 (N : Nat) : List (Nat × (Pk → Tr Pk)) := []
theorem tab388_ok (N : Nat) : TabOK Tryz.prog (tab388 N) := trivial
@[reducible] def w388 : List SP := [⟨[.slp 0 (.c 0) (.c 0)], [.row y2 391]⟩, ⟨[.sl 0], [.row y2 391]⟩]
noncomputable def F388 (N : Nat) : (Int) → Option ((((List (Int × ((List Int) × Unit)))) ⊕ ((List (Int × ((List Int) × Unit))))))
  | x0 =>
  iteP (decide (x0 < (0 : Int))) (
    none ) (
    iteP (decide (IntKind.wrap IntKind.i64 (x0 - (0 : Int)) > (0 : Int))) (
      iteP (decide ((0 : Int) < IntKind.wrap IntKind.i64 (x0 - (0 : Int)) ∧ IntKind.wrap IntKind.i64 (x0 - (0 : Int)) * (32 : Int) ≤ (140737488355328 : Int) ∧ IntKind.wrap IntKind.i64 (x0 - (0 : Int)) ≤ (140737488355328 : Int))) (
        iteP (decide ((0 : Int) ≤ (0 : Int) ∧ (0 : Int) ≤ (↑(List.length (List.replicate (Int.toNat (IntKind.wrap IntKind.i64 (x0 - (0 : Int)))) ((0 : Int), nilT (Ty.den (Ty.int IntKind.i64)), ()))) : Int))) (
          some (.inl (List.replicate (Int.toNat (IntKind.wrap IntKind.i64 (x0 - (0 : Int)))) ((0 : Int), nilT (Ty.den (Ty.int IntKind.i64)), ())))) (
          none )) (
        none )) (
      some (.inr ([]))))
noncomputable def T388 (N : Nat) : Pk → Tr Pk := postT (trimP (Ty.cons (Ty.int IntKind.i64) (Ty.cons (Ty.sl (Ty.int IntKind.i64)) (Ty.unit))) 391) (tellS s388 w388 (F388 N))
theorem T388_ok (N : Nat) : FOK Tryz.prog (388) (T388 N) :=
  postT_ok (trimP_ok _ _) (fn_ok2 ownT mix (tab388_ok N) Tryz.func388 s388 w388 [] (cuts := []) trivial (fun _ => by kernel_rfl) (by decide +kernel) (F388 N) (fun x => by kernel_rfl)) (by decide +kernel)
@[reducible] def s383 : SP := ⟨[.sl 0], [.row y3 387]⟩
noncomputable def tab383 (N : Nat) : List (Nat × (Pk → Tr Pk)) := [(388, T388 N)]
theorem tab383_ok (N : Nat) : TabOK Tryz.prog (tab383 N) := ⟨T388_ok N, trivial⟩
@[reducible] def L383_58 : LD := ⟨58, [3, 11, 10, 0, 9], [(.ret, [2]), (.exit 0, [3, 0])], ⟨[.int .i64, .int .i64, .int .i64, .sl 0, .sl 0], [.row y3 387]⟩, [(.exit 0, ⟨[.int .i64, .sl 0], [.row y3 387]⟩)]⟩
abbrev P383_58 : Type := Int × Int × Int × (List (List (Int × ((List Int) × Unit))))
abbrev R383_58 : Type := Int × (List (List (Int × ((List Int) × Unit))))
noncomputable def B383_58 (N : Nat) (f : P383_58 → Option R383_58) : P383_58 → Option R383_58
  | (x0, x1, x2, x3) =>
  iteP (decide (x1 < x2)) (
    iteP (within x1 (List.length x3)) (
      Option.bind (x3[Int.toNat x1]?) fun y0 =>
      iteP (decide (IntKind.wrap IntKind.i64 (x0 + (↑(List.length y0) : Int)) < (0 : Int))) (
        none ) (
        Option.bind (f (IntKind.wrap IntKind.i64 (x0 + (↑(List.length y0) : Int)), IntKind.wrap IntKind.i64 (x1 + (1 : Int)), x2, x3)) fun r => some r)) (
      none )) (
    some ((x0, x3)))
noncomputable def F383_58 (N : Nat) : Nat → P383_58 → Option R383_58
  | 0, _ => none
  | k + 1, x => B383_58 N (F383_58 N k) x
noncomputable def C383_58 (N : Nat) (k : Nat) : Cut := L383_58.cut (F383_58 N k)
theorem C383_58_ok (N : Nat) (k : Nat) : CutAt Tryz.prog false Tryz.f383 [] 58 (C383_58 N k) :=
  L383_58.loopT ownT mix (tab383_ok N) Tryz.f383 [] (cuts := []) trivial (by decide +kernel) (by kernel_rfl) (B383_58 N) (F383_58 N) (fun _ => rfl) (fun _ _ => rfl) (fun f x => by kernel_rfl) k
@[reducible] def L383_250 : LD := ⟨250, [6, 27, 26, 25], [(.ret, [2]), (.exit 2, [6])], ⟨[.sl 0, .int .i64, .int .i64, .sl 1], [.row y2 391, .row y3 387]⟩, [(.exit 2, ⟨[.sl 0], [.row y2 391]⟩)]⟩
abbrev P383_250 : Type := Int × Int × (List (Int × ((List Int) × Unit))) × (List (List (Int × ((List Int) × Unit))))
abbrev R383_250 : Type := (List (Int × ((List Int) × Unit)))
noncomputable def B383_250 (N : Nat) (f : P383_250 → Option R383_250) : P383_250 → Option R383_250
  | (x0, x1, x2, x3) =>
  iteP (decide (x0 < x1)) (
    iteP (within x0 (List.length x3)) (
      Option.bind (x3[Int.toNat x0]?) fun y0 =>
      iteP (decide ((List.length x2 + List.length y0) * (32 : Nat) ≤ (140737488355328 : Nat) ∧ List.length x2 + List.length y0 ≤ (140737488355328 : Nat))) (
        Option.bind (f (IntKind.wrap IntKind.i64 (x0 + (1 : Int)), x1, x2 ++ y0, x3)) fun r => some r) (
        none )) (
      none )) (
    some (x2))
noncomputable def F383_250 (N : Nat) : Nat → P383_250 → Option R383_250
  | 0, _ => none
  | k + 1, x => B383_250 N (F383_250 N k) x
noncomputable def C383_250 (N : Nat) (k : Nat) : Cut := L383_250.cut (F383_250 N k)
theorem C383_250_ok (N : Nat) (k : Nat) : CutAt Tryz.prog false Tryz.f383 [] 250 (C383_250 N k) :=
  L383_250.loopT ownT mix (tab383_ok N) Tryz.f383 [] (cuts := [(58, C383_58 N N)]) ⟨C383_58_ok N N, trivial⟩ (by decide +kernel) (by kernel_rfl) (B383_250 N) (F383_250 N) (fun _ => rfl) (fun _ _ => rfl) (fun f x => by kernel_rfl) k
@[reducible] def w383 : List SP := [⟨[.sl 0], [.row y2 391]⟩]
noncomputable def F383 (N : Nat) : ((List (List (Int × ((List Int) × Unit))))) → Option ((List (Int × ((List Int) × Unit))))
  | x0 =>
  Option.bind (F383_58 N N ((0 : Int), (0 : Int), (↑(List.length x0) : Int), x0)) fun y0 =>
  Option.bind (F388 N y0.1) fun y1 =>
  match y1 with
  | .inl y2 =>
    Option.bind (F383_250 N N ((0 : Int), (↑(List.length y0.2) : Int), [], y0.2)) fun y3 =>
    some (y3)
  | .inr y2 =>
    Option.bind (F383_250 N N ((0 : Int), (↑(List.length y0.2) : Int), y2, y0.2)) fun y4 =>
    some (y4)
noncomputable def T383 (N : Nat) : Pk → Tr Pk := tellS s383 w383 (F383 N)
theorem T383_ok (N : Nat) : FOK Tryz.prog (383) (T383 N) :=
  (fn_ok2 ownT mix (tab383_ok N) Tryz.func383 s383 w383 [] (cuts := [(58, C383_58 N N), (250, C383_250 N N)]) ⟨C383_58_ok N N, C383_250_ok N N, trivial⟩ (fun _ => by kernel_rfl) (by decide +kernel) (F383 N) (fun x => by kernel_rfl))
@[reducible] def s390 : SP := ⟨[.int .i64], []⟩
noncomputable def tab390 (N : Nat) : List (Nat × (Pk → Tr Pk)) := []
theorem tab390_ok (N : Nat) : TabOK Tryz.prog (tab390 N) := trivial
@[reducible] def w390 : List SP := [⟨[.bool], []⟩]
noncomputable def F390 (N : Nat) : (Int) → Option (Bool)
  | x0 =>
  some (x0 != x0)
noncomputable def T390 (N : Nat) : Pk → Tr Pk := tellS s390 w390 (F390 N)
theorem T390_ok (N : Nat) : FOK Tryz.prog (390) (T390 N) :=
  (fn_ok2 ownT mix (tab390_ok N) Tryz.func390 s390 w390 [] (cuts := []) trivial (fun _ => by kernel_rfl) (by decide +kernel) (F390 N) (fun x => by kernel_rfl))
@[reducible] def s386 : SP := ⟨[.int .i64, .int .i64], []⟩
noncomputable def tab386 (N : Nat) : List (Nat × (Pk → Tr Pk)) := [(390, T390 N)]
theorem tab386_ok (N : Nat) : TabOK Tryz.prog (tab386 N) := ⟨T390_ok N, trivial⟩
@[reducible] def w386 : List SP := [⟨[.int .i64], []⟩]
noncomputable def F386 (N : Nat) : (Int × Int) → Option (Int)
  | (x0, x1) =>
  Option.bind (F390 N x0) fun y0 =>
  Option.bind (F390 N x1) fun y1 =>
  iteP (y0) (
    iteP (y1) (
      some ((0 : Int))) (
      some ((-1 : Int)))) (
    iteP (y1) (
      some ((1 : Int))) (
      iteP (decide (x0 < x1)) (
        some ((-1 : Int))) (
        iteP (decide (x0 > x1)) (
          some ((1 : Int))) (
          some ((0 : Int))))))
noncomputable def T386 (N : Nat) : Pk → Tr Pk := tellS s386 w386 (F386 N)
theorem T386_ok (N : Nat) : FOK Tryz.prog (386) (T386 N) :=
  (fn_ok2 ownT mix (tab386_ok N) Tryz.func386 s386 w386 [] (cuts := []) trivial (fun _ => by kernel_rfl) (by decide +kernel) (F386 N) (fun x => by kernel_rfl))
@[reducible] def s385 : SP := ⟨[.agg [.int .i64, .ro (.int .i64)], .agg [.int .i64, .ro (.int .i64)]], []⟩
noncomputable def tab385 (N : Nat) : List (Nat × (Pk → Tr Pk)) := [(386, T386 N)]
theorem tab385_ok (N : Nat) : TabOK Tryz.prog (tab385 N) := ⟨T386_ok N, trivial⟩
@[reducible] def w385 : List SP := [⟨[.int .i64], []⟩]
noncomputable def F385 (N : Nat) : (Int × (List Int) × Int × (List Int)) → Option (Int)
  | (x0, x1, x2, x3) =>
  Option.bind (F386 N (x0, x2)) fun y0 =>
  some (y0)
noncomputable def T385 (N : Nat) : Pk → Tr Pk := tellS s385 w385 (F385 N)
theorem T385_ok (N : Nat) : FOK Tryz.prog (385) (T385 N) :=
  (fn_ok2 ownT mix (tab385_ok N) Tryz.func385 s385 w385 [] (cuts := []) trivial (fun _ => by kernel_rfl) (by decide +kernel) (F385 N) (fun x => by kernel_rfl))
@[reducible] def s391 : SP := ⟨[.slp 0 .h .h, .int .i64, .int .i64, .fn 385], [.row y2 391]⟩
noncomputable def tab391 (N : Nat) : List (Nat × (Pk → Tr Pk)) := [(385, T385 N)]
theorem tab391_ok (N : Nat) : TabOK Tryz.prog (tab391 N) := ⟨T385_ok N, trivial⟩
@[reducible] def L391_402 : LD := ⟨402, [9, 3, 1, 2, 8, 0], [(.exit 2, [8, 2, 1, 3, 0]), (.exit 1, [8, 2, 1, 3, 0])], ⟨[.int .i64, .fn 385, .int .i64, .int .i64, .int .i64, .slp 0 .h .h], [.row y2 391]⟩, [(.exit 2, ⟨[.int .i64, .int .i64, .int .i64, .fn 385, .slp 0 .h .h], [.row y2 391]⟩)]⟩
abbrev P391_402 : Type := Int × Int × Int × Int × Nat × Nat × (List (Int × ((List Int) × Unit)))
abbrev R391_402 : Type := Int × Int × Int × Nat × Nat × (List (Int × ((List Int) × Unit)))
noncomputable def B391_402 (N : Nat) (f : P391_402 → Option R391_402) : P391_402 → Option R391_402
  | (x0, x1, x2, x3, x4, x5, x6) =>
  iteP (decide (x0 > x1)) (
    iteP (within x0 x5) (
      Option.bind (x6[x4 + Int.toNat x0]?) fun y0 =>
      iteP (within (IntKind.wrap IntKind.i64 (x0 - (1 : Int))) x5) (
        Option.bind (x6[x4 + Int.toNat (IntKind.wrap IntKind.i64 (x0 - (1 : Int)))]?) fun y1 =>
        Option.bind (F385 N (y0.1, y0.2.1, y1.1, y1.2.1)) fun y2 =>
        iteP (decide (y2 < (0 : Int))) (
          iteP (within (IntKind.wrap IntKind.i64 (x0 - (1 : Int))) x5) (
            Option.bind (x6[x4 + Int.toNat (IntKind.wrap IntKind.i64 (x0 - (1 : Int)))]?) fun y3 =>
            iteP (within x0 x5) (
              Option.bind (x6[x4 + Int.toNat x0]?) fun y4 =>
              iteP (within x0 x5) (
                Option.bind (x6[x4 + Int.toNat x0]?) fun y5 =>
                iteP (within (IntKind.wrap IntKind.i64 (x0 - (1 : Int))) x5) (
                  Option.bind ((List.set x6 (x4 + Int.toNat x0) (y3.1, y3.2.1, ()))[x4 + Int.toNat (IntKind.wrap IntKind.i64 (x0 - (1 : Int)))]?) fun y6 =>
                  Option.bind (f (IntKind.wrap IntKind.i64 (x0 - (1 : Int)), x1, x2, x3, x4, x5, List.set (List.set x6 (x4 + Int.toNat x0) (y3.1, y3.2.1, ())) (x4 + Int.toNat (IntKind.wrap IntKind.i64 (x0 - (1 : Int)))) (y4.1, y4.2.1, ()))) fun r => some r) (
                  none )) (
                none )) (
              none )) (
            none )) (
          some ((x3, x2, x1, x4, x5, x6)))) (
        none )) (
      none )) (
    some ((x3, x2, x1, x4, x5, x6)))
noncomputable def F391_402 (N : Nat) : Nat → P391_402 → Option R391_402
  | 0, _ => none
  | k + 1, x => B391_402 N (F391_402 N k) x
noncomputable def C391_402 (N : Nat) (k : Nat) : Cut := L391_402.cut (F391_402 N k)
theorem C391_402_ok (N : Nat) (k : Nat) : CutAt Tryz.prog false Tryz.f391 [0] 402 (C391_402 N k) :=
  L391_402.loopT ownT mix (tab391_ok N) Tryz.f391 [0] (cuts := []) trivial (by decide +kernel) (by kernel_rfl) (B391_402 N) (F391_402 N) (fun _ => rfl) (fun _ _ => rfl) (fun f x => by kernel_rfl) k
@[reducible] def L391_6 : LD := ⟨6, [2, 1, 3, 8, 0], [(.exit 0, [])], ⟨[.int .i64, .int .i64, .fn 385, .int .i64, .slp 0 .h .h], [.row y2 391]⟩, [(.exit 0, ⟨[], [.row y2 391]⟩)]⟩
abbrev P391_6 : Type := Int × Int × Int × Nat × Nat × (List (Int × ((List Int) × Unit)))
abbrev R391_6 : Type := (List (Int × ((List Int) × Unit)))
noncomputable def B391_6 (N : Nat) (f : P391_6 → Option R391_6) : P391_6 → Option R391_6
  | (x0, x1, x2, x3, x4, x5) =>
  iteP (decide (x2 < x0)) (
    Option.bind (F391_402 N N (x2, x1, x0, x2, x3, x4, x5)) fun (y0_0, y0_1, y0_2, y0_3, y0_4, y0_5) =>
    Option.bind (f (y0_1, y0_2, IntKind.wrap IntKind.i64 (y0_0 + (1 : Int)), y0_3, y0_4, y0_5)) fun r => some r) (
    some (x5))
noncomputable def F391_6 (N : Nat) : Nat → P391_6 → Option R391_6
  | 0, _ => none
  | k + 1, x => B391_6 N (F391_6 N k) x
noncomputable def C391_6 (N : Nat) (k : Nat) : Cut := L391_6.cut (F391_6 N k)
theorem C391_6_ok (N : Nat) (k : Nat) : CutAt Tryz.prog false Tryz.f391 [0] 6 (C391_6 N k) :=
  L391_6.loopT ownT mix (tab391_ok N) Tryz.f391 [0] (cuts := [(402, C391_402 N N)]) ⟨C391_402_ok N N, trivial⟩ (by decide +kernel) (by kernel_rfl) (B391_6 N) (F391_6 N) (fun _ => rfl) (fun _ _ => rfl) (fun f x => by kernel_rfl) k
@[reducible] def w391 : List SP := [⟨[.tup []], [.row y2 391]⟩]
noncomputable def F391 (N : Nat) : (Nat × Nat × Int × Int × (List (Int × ((List Int) × Unit)))) → Option ((List (Int × ((List Int) × Unit))))
  | (x0, x1, x2, x3, x4) =>
  Option.bind (F391_6 N N (x3, x2, IntKind.wrap IntKind.i64 (x2 + (1 : Int)), x0, x1, x4)) fun y0 =>
  some (y0)
noncomputable def T391 (N : Nat) : Pk → Tr Pk := tellS s391 w391 (F391 N)
theorem T391_ok (N : Nat) : FOK Tryz.prog (391) (T391 N) :=
  (fn_ok2 ownT mix (tab391_ok N) Tryz.func391 s391 w391 [0] (cuts := [(402, C391_402 N N), (6, C391_6 N N)]) ⟨C391_402_ok N N, C391_6_ok N N, trivial⟩ (fun _ => by kernel_rfl) (by decide +kernel) (F391 N) (fun x => by kernel_rfl))
@[reducible] def s394 : SP := ⟨[.slp 0 .h .h, .int .i64, .int .i64, .int .i64, .fn 385], [.row y2 391]⟩
noncomputable def tab394 (N : Nat) : List (Nat × (Pk → Tr Pk)) := []
theorem tab394_ok (N : Nat) : TabOK Tryz.prog (tab394 N) := trivial
@[reducible] def L394_6 : LD := ⟨6, [10, 3, 2, 0, 1], [(.exit 0, [])], ⟨[.int .i64, .int .i64, .int .i64, .slp 0 .h .h, .int .i64], [.row y2 391]⟩, [(.exit 0, ⟨[], [.row y2 391]⟩)]⟩
abbrev P394_6 : Type := Int × Int × Int × Nat × Nat × Int × (List (Int × ((List Int) × Unit)))
abbrev R394_6 : Type := (List (Int × ((List Int) × Unit)))
noncomputable def B394_6 (N : Nat) (f : P394_6 → Option R394_6) : P394_6 → Option R394_6
  | (x0, x1, x2, x3, x4, x5, x6) =>
  iteP (decide (x0 < x1)) (
    iteP (within (IntKind.wrap IntKind.i64 (x2 + x0)) x4) (
      Option.bind (x6[x3 + Int.toNat (IntKind.wrap IntKind.i64 (x2 + x0))]?) fun y0 =>
      iteP (within (IntKind.wrap IntKind.i64 (x5 + x0)) x4) (
        Option.bind (x6[x3 + Int.toNat (IntKind.wrap IntKind.i64 (x5 + x0))]?) fun y1 =>
        iteP (within (IntKind.wrap IntKind.i64 (x5 + x0)) x4) (
          Option.bind (x6[x3 + Int.toNat (IntKind.wrap IntKind.i64 (x5 + x0))]?) fun y2 =>
          iteP (within (IntKind.wrap IntKind.i64 (x2 + x0)) x4) (
            Option.bind ((List.set x6 (x3 + Int.toNat (IntKind.wrap IntKind.i64 (x5 + x0))) (y0.1, y0.2.1, ()))[x3 + Int.toNat (IntKind.wrap IntKind.i64 (x2 + x0))]?) fun y3 =>
            Option.bind (f (IntKind.wrap IntKind.i64 (x0 + (1 : Int)), x1, x2, x3, x4, x5, List.set (List.set x6 (x3 + Int.toNat (IntKind.wrap IntKind.i64 (x5 + x0))) (y0.1, y0.2.1, ())) (x3 + Int.toNat (IntKind.wrap IntKind.i64 (x2 + x0))) (y1.1, y1.2.1, ()))) fun r => some r) (
            none )) (
          none )) (
        none )) (
      none )) (
    some (x6))
noncomputable def F394_6 (N : Nat) : Nat → P394_6 → Option R394_6
  | 0, _ => none
  | k + 1, x => B394_6 N (F394_6 N k) x
noncomputable def C394_6 (N : Nat) (k : Nat) : Cut := L394_6.cut (F394_6 N k)
theorem C394_6_ok (N : Nat) (k : Nat) : CutAt Tryz.prog false Tryz.f394 [0] 6 (C394_6 N k) :=
  L394_6.loopT ownT mix (tab394_ok N) Tryz.f394 [0] (cuts := []) trivial (by decide +kernel) (by kernel_rfl) (B394_6 N) (F394_6 N) (fun _ => rfl) (fun _ _ => rfl) (fun f x => by kernel_rfl) k
@[reducible] def w394 : List SP := [⟨[.tup []], [.row y2 391]⟩]
noncomputable def F394 (N : Nat) : (Nat × Nat × Int × Int × Int × (List (Int × ((List Int) × Unit)))) → Option ((List (Int × ((List Int) × Unit))))
  | (x0, x1, x2, x3, x4, x5) =>
  Option.bind (F394_6 N N ((0 : Int), x4, x3, x0, x1, x2, x5)) fun y0 =>
  some (y0)
noncomputable def T394 (N : Nat) : Pk → Tr Pk := tellS s394 w394 (F394 N)
theorem T394_ok (N : Nat) : FOK Tryz.prog (394) (T394 N) :=
  (fn_ok2 ownT mix (tab394_ok N) Tryz.func394 s394 w394 [0] (cuts := [(6, C394_6 N N)]) ⟨C394_6_ok N N, trivial⟩ (fun _ => by kernel_rfl) (by decide +kernel) (F394 N) (fun x => by kernel_rfl))
end Go.Proofs.YtfcamlibbfnldaaGreat.Am
