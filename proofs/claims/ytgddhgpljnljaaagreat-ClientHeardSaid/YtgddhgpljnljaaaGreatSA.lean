/- The seat's Go functions come to the Lean functions written here, wherever these give an answer (part A). -/
import Derived.Test.YtgddhgpljnljaaaGreatAmC
import Derived.KernelRfl
import Derived.Test.YtgddhgpljnljaaaGreatChecked
import Derived.Lib.UnsafeStr
import Derived.Lib.LazyBuf
import Derived.Shelf.RegionOpenPlain
import Derived.WalkKit
import Derived.Test.YtgddhgpljnljaaaGreatProg
set_option linter.unusedSimpArgs false
set_option linter.unusedVariables false
set_option linter.unusedSectionVars false
set_option maxRecDepth 100000
set_option maxHeartbeats 2000000
namespace Go.Proofs.YtgddhgpljnljaaaGreat.Am
open Go Go.Am
noncomputable instance instP : Inhabited Program := ⟨Tryz.prog⟩
theorem loadInts {P : Program} {w : World} : ∀ (l : List Int) (a : Addr) (acc : ByteArray), (∀ j x, l[j]? = some x → w.cell? (a.add j) = some (.int .u8 x)) →
    (loadBytes a acc l.length).run P w = .ok ⟨acc.data ++ (l.map fun n => UInt8.ofNat n.toNat).toArray⟩ w
  | [], a, acc, _ => by simp [loadBytes]
  | x :: l, a, acc, h => by
    have h0 : w.cell? a = some (.int .u8 x) := by
      have := h 0 x rfl
      simpa [Addr.add] using this
    have ih := loadInts (P := P) l (a.add 1) (acc.push (UInt8.ofNat x.toNat)) (fun j y hy => by
      have := h (j + 1) y (by simpa using hy)
      have e : (a.add 1).add j = a.add (j + 1) := by
        unfold Addr.add
        by_cases hj : j = 0
        · subst hj; simp
        · simp [hj]; omega
      rw [e]; exact this)
    simp only [List.length_cons, loadBytes, Sem.run_bind, run_load, h0, Result.andThen]
    rw [show (x.toNat).toUInt8 = UInt8.ofNat x.toNat from rfl, ih]
    congr 1
    apply ByteArray.ext
    simp [ByteArray.push]
theorem unsafeInts {P : Program} {w : World} (pt it ty e : TypeId) (hp : P.underlying pt = some (.pointer e)) (hc : P.cellsOf e = 1) (g cells : Nat) (hsh : w.shape? g = some (e, cells)) (l : List Int) (h0 : l ≠ []) (hn : l.length ≤ cells) (h63 : l.length ≤ 9223372036854775807)
    (hcell : ∀ j x, l[j]? = some x → w.cell? ((⟨g, 0, none⟩ : Addr).add j) = some (.int .u8 x)) :
    (Builtin.unsafeString_ #[pt, it] ty #[.pointer (some ⟨g, 0, none⟩), .int .i64 l.length]).run P w = .ok (.string (stringOf l)) (w.freeze ⟨g, 0, none⟩ l.length) := by
  have hl : l.length ≠ 0 := by simpa using h0
  have hlb := loadInts (P := P) (w := w) l ⟨g, 0, none⟩ .empty hcell
  have hlies := Lib.liesAt_bytes (P := P) hc (cells / P.cellsOf e) l.length (by rw [hc]; simpa using hn)
  have h63' : ¬ (9223372036854775807 : Int) < (l.length : Int) := by omega
  have hdef : Builtin.unsafeString_ #[pt, it] ty #[.pointer (some ⟨g, 0, none⟩), .int .i64 l.length] =
      (do
        let n ← asInt (.int .i64 l.length)
        if n < 0 then runtimePanic (.error "unsafe.String: len out of range")
        if n > IntKind.i64.max then unsupported (.unsafePointer "String: a length above the largest int")
        if n = 0 then pure (.string .empty)
        else if ← variablesAt ⟨g, 0, none⟩ (← elemOf pt) n.toNat then do
          let s ← loadBytes ⟨g, 0, none⟩ .empty n.toNat
          freeze ⟨g, 0, none⟩ n.toNat
          pure (.string s)
        else unsupported (.unsafePointer "String: not so many bytes at ptr")) := rfl
  rw [hdef]
  have hmax : IntKind.i64.max = 9223372036854775807 := rfl
  have hneg : ¬ (l.length : Int) < 0 := by omega
  simp [asInt, asIntOf, hmax, h63', hneg, hl, variablesAt, hsh, elemOf, run_underlying hp, hlies, hlb, stringOf]
set_option maxHeartbeats 4000000 in
theorem str36a : StrOK1 Tryz.prog 36 5 := by
  intro b o n c w gk cs fr xs h1 h2 h3 h4 h5 h6 h7
  subst h6
  have c1 : w.drew.cell? ⟨b, o + 1, none⟩ = some (.slice (some ⟨gk, 0, none⟩) xs.length c) := h1
  have hSD : (Builtin.unsafeSliceData_ #[80] 107 #[.slice (some ⟨gk, 0, none⟩) xs.length c]).run Tryz.prog w.drew = .ok (.pointer (some ⟨gk, 0, none⟩)) w.drew :=
    Lib.run_unsafeSliceData_row _ _ _ _ _ _ (by omega)
  have hsz : xs.length ≤ cs.size := by
    have := h7 (xs.length - 1) (.int .u8 (xs[xs.length - 1]'(by omega))) (by simp)
    unfold World.cell? at this
    rw [h5] at this
    simp at this
    have := (Array.getElem?_eq_some_iff.1 this).1
    omega
  have hUS : (Builtin.unsafeString_ #[107, 3] 9 #[.pointer (some ⟨gk, 0, none⟩), .int .i64 xs.length]).run Tryz.prog w.drew = .ok (.string (stringOf xs)) (w.drew.freeze ⟨gk, 0, none⟩ xs.length) := by
    refine unsafeInts 107 3 9 5 Tryz.underlying107 (by kernel_rfl) gk cs.size (by have hg' : w.drew.heap[gk]? = some (.cells cs 5 fr) := h5; simp [World.shape?, hg']) xs (by intro e; rw [e] at h2; simp at h2) hsz (by unfold maxRow at h3; omega) ?_
    intro j x hx
    have := h7 j (.int .u8 x) (by simp [hx])
    by_cases e : j = 0
    · subst e; simpa [Addr.add] using this
    · simpa [Addr.add, e] using this
  have mixed : Tryz.prog.follows .mixedOrders = true := by kernel_rfl
  go_enter Tryz.func36, Tryz.ntmps36
  go_wp2
  go_region_o
  all_goals (go_wp2; go_ret; exact ⟨rfl, rfl⟩)
set_option maxHeartbeats 4000000 in
theorem str36z : StrOK0 Tryz.prog 36 5 := by
  intro b o c w a h1 h2
  have c1 : w.drew.cell? ⟨b, o + 1, none⟩ = some (.slice a 0 c) := h1
  have hUS : ∀ (p : Option Addr) (w' : World), (Builtin.unsafeString_ #[107, 3] 9 #[.pointer p, .int .i64 0]).run Tryz.prog w' = .ok (.string .empty) w' := fun p w' => Lib.run_unsafeString_none ..
  have mixed : Tryz.prog.follows .mixedOrders = true := by kernel_rfl
  rcases h2 with rfl | ⟨gk, cs, fr, rfl, hg⟩
  · have hSD : (Builtin.unsafeSliceData_ #[80] 107 #[.slice none 0 c]).run Tryz.prog w.drew = .ok (.pointer none) w.drew := Lib.run_unsafeSliceData_nil ..
    go_enter Tryz.func36, Tryz.ntmps36
    go_wp2
    go_region_o
    all_goals (go_wp2; go_ret; exact ⟨rfl, Grow.drew w⟩)
  · by_cases hc : c = 0
    · subst hc
      have hSD : (Builtin.unsafeSliceData_ #[80] 107 #[.slice (some ⟨gk, 0, none⟩) 0 0]).run Tryz.prog w.drew = .ok (.pointer (some ⟨w.drew.heap.size, 0, none⟩)) (w.drew.alloc (.view ⟨gk, 0, none⟩ 5)) :=
        Lib.run_unsafeSliceData_zero _ _ _ _ Tryz.underlying107 _ _ (5, cs.size) (by have hg' : w.drew.heap[gk]? = some (.cells cs 5 fr) := hg; simp [World.shape?, hg'])
      have hb : b < w.drew.heap.size := World.block_lt_of_cell? _ _ c1
      have c2 : (w.drew.alloc (.view ⟨gk, 0, none⟩ 5)).cell? ⟨b, o + 1, none⟩ = some (.slice (some ⟨gk, 0, none⟩) 0 0) := by
        rw [← c1]
        exact World.cell?_of_block ((Grow.alloc w.drew (.view ⟨gk, 0, none⟩ 5)).block b hb)
      have c3 : (w.alloc (.view ⟨gk, 0, none⟩ 5)).cell? ⟨b, o + 1, none⟩ = some (.slice (some ⟨gk, 0, none⟩) 0 0) := c2
      go_enter Tryz.func36, Tryz.ntmps36
      go_wp2
      go_region_o
      all_goals (go_wp2; go_ret; exact ⟨rfl, (Grow.drew w).trans (Grow.alloc w.drew _)⟩)
    · have hSD : (Builtin.unsafeSliceData_ #[80] 107 #[.slice (some ⟨gk, 0, none⟩) 0 c]).run Tryz.prog w.drew = .ok (.pointer (some ⟨gk, 0, none⟩)) w.drew :=
        Lib.run_unsafeSliceData_row _ _ _ _ _ _ hc
      go_enter Tryz.func36, Tryz.ntmps36
      go_wp2
      go_region_o
      all_goals (go_wp2; go_ret; exact ⟨rfl, Grow.drew w⟩)
theorem str36 : StrOK Tryz.prog 36 5 := ⟨(fun e => by cases e), (fun h => absurd h (by decide)), fun _ _ => ⟨str36a, str36z⟩⟩
theorem wpList_app {P : Program} {ops : Array Oper} {Q : Exit → Act → World → Prop} {rest : List Oper} {a : Act} {w w' : World} {o : Oper} {x y : Operand} {T1 T2 : TypeId} {v : Value} (ho : o.op = .call { callee := .builtin .append, args := #[x, y], argTypes := #[T1, T2] })
    (hrun : (Builtin.append_ #[T1, T2] o.type #[a.eval x, a.eval y]).run P w = .ok v w') (hw : Region.wanted o (yielded ops a.tmps) = true) (h : wpList P ops Q rest (a.put o.dst v) w') : wpList P ops Q (o :: rest) a w := by
  unfold wpList
  rw [if_pos hw]
  refine .inl ?_
  have hexec : (execOp a.eval o).run P w = .ok (.value v) w' := by
    unfold execOp
    simp only [ho]
    rw [Sem.run_bind]
    simp [resolve, invoke, builtin, hrun]
  unfold Oper.wp
  rw [hexec]
  exact h
set_option maxHeartbeats 4000000 in
theorem clone53 : CloneOK Tryz.prog 53 36 := by
  intro a n c w
  have mixed : Tryz.prog.follows .mixedOrders = true := by kernel_rfl
  refine ⟨fun ha hn => ?_, fun ad ha => ?_⟩
  · subst ha
    subst hn
    have hE : (binOp .eql 36 (.slice none 0 c) (.slice none 0 0)).run Tryz.prog w = .ok (.bool true) w := Go.run_eql_slice_nil w 36 3 none 0 c Tryz.underlying36
    go_enter Tryz.func53, Tryz.ntmps53
    go_wp2
    all_goals (go_ret; exact ⟨rfl, Grow.refl _⟩)
  · subst ha
    have hE : (binOp .eql 36 (.slice (some ad) n c) (.slice none 0 0)).run Tryz.prog w = .ok (.bool false) w := Go.run_eql_slice_nil w 36 3 (some ad) n c Tryz.underlying36
    refine ⟨w.alloc (.cells #[] 3 (0, 0)), ⟨w.heap.size, 0, none⟩, Grow.alloc _ _, fun v w' hA => ?_⟩
    go_enter Tryz.func53, Tryz.ntmps53
    go_wp2_with (refine wpList_app (x := .tmp 5) (y := .tmp 6) rfl hA rfl ?_)
    all_goals (go_ret; exact ⟨rfl, rfl⟩)
set_option maxHeartbeats 4000000 in
theorem clone52 : CloneOK Tryz.prog 52 24 := by
  intro a n c w
  have mixed : Tryz.prog.follows .mixedOrders = true := by kernel_rfl
  refine ⟨fun ha hn => ?_, fun ad ha => ?_⟩
  · subst ha
    subst hn
    have hE : (binOp .eql 24 (.slice none 0 c) (.slice none 0 0)).run Tryz.prog w = .ok (.bool true) w := Go.run_eql_slice_nil w 24 38 none 0 c Tryz.underlying24
    go_enter Tryz.func52, Tryz.ntmps52
    go_wp2
    all_goals (go_ret; exact ⟨rfl, Grow.refl _⟩)
  · subst ha
    have hE : (binOp .eql 24 (.slice (some ad) n c) (.slice none 0 0)).run Tryz.prog w = .ok (.bool false) w := Go.run_eql_slice_nil w 24 38 (some ad) n c Tryz.underlying24
    refine ⟨w.alloc (.cells #[] 38 (0, 0)), ⟨w.heap.size, 0, none⟩, Grow.alloc _ _, fun v w' hA => ?_⟩
    go_enter Tryz.func52, Tryz.ntmps52
    go_wp2_with (refine wpList_app (x := .tmp 5) (y := .tmp 6) rfl hA rfl ?_)
    all_goals (go_ret; exact ⟨rfl, rfl⟩)
theorem strsAll : ∀ k ∈ [(36, 5), (53, 1000036), (52, 1000024)], StrOK Tryz.prog k.1 k.2 ∧ ∃ fn, Tryz.prog.funcs[k.1]? = some fn ∧ fn.body.isNone = false ∧ (fn.name == "runtime.NumGoroutine") = false := by
  intro k hk
  rcases List.mem_cons.1 hk with rfl | hk
  · exact ⟨str36, _, Tryz.func36, by decide +kernel, by decide +kernel⟩
  rcases List.mem_cons.1 hk with rfl | hk
  · exact ⟨⟨(fun e => by cases e), (fun _ => clone53), fun _ h => absurd h (by decide)⟩, _, Tryz.func53, by decide +kernel, by decide +kernel⟩
  rcases List.mem_cons.1 hk with rfl | hk
  · exact ⟨⟨(fun e => by cases e), (fun _ => clone52), fun _ h => absurd h (by decide)⟩, _, Tryz.func52, by decide +kernel, by decide +kernel⟩
  cases hk
def ownT : FuncId → List Nat := ownL [(0, [29, 46, 59, 71, 83, 95]), (3, [0, 0, 0, 0]), (4, [0]), (36, [78, 5]), (52, [78, 1000024]), (53, [78, 1000036]), (62, [77]), (67, [2]), (73, [4]), (75, [2]), (85, [2]), (92, [0, 1]), (102, [2]), (126, [0, 0, 0, 0, 0, 4]), (135, [0, 5, 5]), (139, [0, 5, 5, 5]), (144, [2, 0, 0]), (146, [1, 0, 0]), (157, [1, 0]), (158, [1]), (159, [1, 0, 0, 0]), (160, [1, 0, 0]), (166, [2]), (167, [2, 0]), (169, [2]), (173, [1, 0]), (177, [2]), (183, [2, 0]), (185, [2]), (188, [1]), (210, [2]), (213, [2]), (214, [1, 0, 0])]
theorem mix : MixP Tryz.prog ownT := ⟨rfl, by kernel_rfl, ne_one 62 (by decide +kernel) Tryz.func62 (by decide +kernel) (by decide +kernel) (by kernel_rfl) (by kernel_rfl), str_some [(36, 5), (53, 1000036), (52, 1000024)] (by decide +kernel) strsAll⟩
@[reducible] def y0 : Ty := (.cons (.int .i64) (.cons .bool (.cons (.int .i64) (.cons (.cons (.int .i64) (.cons (.int .i64) (.cons (.int .i64) (.cons (.int .i64) .unit)))) (.cons (.cons (.int .i64) (.cons (.int .i64) (.cons .bool (.cons .bool (.cons (.int .i64) (.cons (.int .i64) (.cons (.int .i64) (.cons (.int .i64) (.cons (.int .i64) (.cons (.int .i64) .unit)))))))))) (.cons (.sl (.int .i64)) (.cons .str .unit)))))))
@[reducible] def s7 : SP := ⟨[], []⟩
noncomputable def tab7 (N : Nat) : List (Nat × (Pk → Tr Pk)) := []
theorem tab7_ok (N : Nat) : TabOK Tryz.prog (tab7 N) := trivial
@[reducible] def w7 : List SP := [⟨[.adr 0 []], [.var 74 (.agg [.nilp, .str, .str, .fv, .int .i64, .agg [.sl 1], .agg [.agg [.agg [.agg [.bool, .str], .int .i64]]], .agg [.int .i64, .int .i64, .bool, .bool, .int .i64, .int .i64, .int .i64, .int .i64, .int .i64, .int .i64], .int .i64, .int .i64, .int .i64]), .row y0 38]⟩]
noncomputable def F7 (N : Nat) : (Unit) → Option (ByteArray × ByteArray × Nat × Int × Bool × ByteArray × Int × Int × Int × Bool × Bool × Int × Int × Int × Int × Int × Int × Int × Int × Int × (List (Int × (Bool × (Int × ((Int × (Int × (Int × (Int × Unit)))) × ((Int × (Int × (Bool × (Bool × (Int × (Int × (Int × (Int × (Int × (Int × Unit)))))))))) × ((List Int) × (ByteArray × Unit)))))))))
  | () =>
  some ((ByteArray.mk #[], ByteArray.mk #[], (29 : Nat), (0 : Int), false, ByteArray.mk #[], (0 : Int), (0 : Int), (0 : Int), false, false, (0 : Int), (0 : Int), (0 : Int), (0 : Int), (0 : Int), (0 : Int), (0 : Int), (0 : Int), (0 : Int), []))
noncomputable def T7 (N : Nat) : Pk → Tr Pk := tellS s7 w7 (F7 N)
theorem T7_ok (N : Nat) : FOK Tryz.prog (7) (T7 N) :=
  (fn_ok2 ownT mix (tab7_ok N) Tryz.func7 s7 w7 [] (cuts := []) trivial (fun _ => by kernel_rfl) (by decide +kernel) (F7 N) (fun x => by kernel_rfl))
@[reducible] def s17 : SP := ⟨[], []⟩
noncomputable def tab17 (N : Nat) : List (Nat × (Pk → Tr Pk)) := []
theorem tab17_ok (N : Nat) : TabOK Tryz.prog (tab17 N) := trivial
@[reducible] def w17 : List SP := [⟨[.agg [.int .i64, .int .i64, .bool, .bool, .int .i64, .int .i64, .int .i64, .int .i64, .int .i64, .int .i64]], []⟩]
noncomputable def F17 (N : Nat) : (Unit) → Option (Int × Int × Bool × Bool × Int × Int × Int × Int × Int × Int)
  | () =>
  some (((32 : Int), (24 : Int), false, true, (255 : Int), (255 : Int), (255 : Int), (16 : Int), (8 : Int), (0 : Int)))
noncomputable def T17 (N : Nat) : Pk → Tr Pk := tellS s17 w17 (F17 N)
theorem T17_ok (N : Nat) : FOK Tryz.prog (17) (T17 N) :=
  (fn_ok2 ownT mix (tab17_ok N) Tryz.func17 s17 w17 [] (cuts := []) trivial (fun _ => by kernel_rfl) (by decide +kernel) (F17 N) (fun x => by kernel_rfl))
@[reducible] def y1 : Ty := (.cons (.int .i64) (.cons (.int .i64) .unit))
@[reducible] def s26 : SP := ⟨[.agg [.int .i64, .int .i64, .bool, .bool, .int .i64, .int .i64, .int .i64, .int .i64, .int .i64, .int .i64]], []⟩
noncomputable def tab26 (N : Nat) : List (Nat × (Pk → Tr Pk)) := []
theorem tab26_ok (N : Nat) : TabOK Tryz.prog (tab26 N) := trivial
@[reducible] def w26 : List SP := [⟨[.arr y1 3], []⟩]
noncomputable def F26 (N : Nat) : (Int × Int × Bool × Bool × Int × Int × Int × Int × Int × Int) → Option ((List (Int × (Int × Unit))))
  | (x0, x1, x2, x3, x4, x5, x6, x7, x8, x9) =>
  some ([(x4, x7, ()), (x5, x8, ()), (x6, x9, ())])
noncomputable def T26 (N : Nat) : Pk → Tr Pk := tellS s26 w26 (F26 N)
theorem T26_ok (N : Nat) : FOK Tryz.prog (26) (T26 N) :=
  (fn_ok2 ownT mix (tab26_ok N) Tryz.func26 s26 w26 [] (cuts := []) trivial (fun _ => by kernel_rfl) (by decide +kernel) (F26 N) (fun x => by kernel_rfl))
@[reducible] def s55 : SP := ⟨[.int .u64], []⟩
noncomputable def tab55 (N : Nat) : List (Nat × (Pk → Tr Pk)) := []
theorem tab55_ok (N : Nat) : TabOK Tryz.prog (tab55 N) := trivial
@[reducible] def w55 : List SP := [⟨[.int .i64], []⟩]
noncomputable def F55 (N : Nat) : (Int) → Option (Int)
  | x0 =>
  iteP (decide (x0 ≥ (4294967296 : Int))) (
    iteP (decide (Int.fdiv x0 (4294967296 : Int) ≥ (65536 : Int))) (
      iteP (decide (Int.fdiv (Int.fdiv x0 (4294967296 : Int)) (65536 : Int) ≥ (256 : Int))) (
        iteP (decide ((0 : Int) ≤ IntKind.wrap IntKind.u8 (Int.fdiv (Int.fdiv (Int.fdiv x0 (4294967296 : Int)) (65536 : Int)) (256 : Int)))) (
          Option.bind ((ByteArray.mk #[(0 : UInt8), (1 : UInt8), (2 : UInt8), (2 : UInt8), (3 : UInt8), (3 : UInt8), (3 : UInt8), (3 : UInt8), (4 : UInt8), (4 : UInt8), (4 : UInt8), (4 : UInt8), (4 : UInt8), (4 : UInt8), (4 : UInt8), (4 : UInt8), (5 : UInt8), (5 : UInt8), (5 : UInt8), (5 : UInt8), (5 : UInt8), (5 : UInt8), (5 : UInt8), (5 : UInt8), (5 : UInt8), (5 : UInt8), (5 : UInt8), (5 : UInt8), (5 : UInt8), (5 : UInt8), (5 : UInt8), (5 : UInt8), (6 : UInt8), (6 : UInt8), (6 : UInt8), (6 : UInt8), (6 : UInt8), (6 : UInt8), (6 : UInt8), (6 : UInt8), (6 : UInt8), (6 : UInt8), (6 : UInt8), (6 : UInt8), (6 : UInt8), (6 : UInt8), (6 : UInt8), (6 : UInt8), (6 : UInt8), (6 : UInt8), (6 : UInt8), (6 : UInt8), (6 : UInt8), (6 : UInt8), (6 : UInt8), (6 : UInt8), (6 : UInt8), (6 : UInt8), (6 : UInt8), (6 : UInt8), (6 : UInt8), (6 : UInt8), (6 : UInt8), (6 : UInt8), (7 : UInt8), (7 : UInt8), (7 : UInt8), (7 : UInt8), (7 : UInt8), (7 : UInt8), (7 : UInt8), (7 : UInt8), (7 : UInt8), (7 : UInt8), (7 : UInt8), (7 : UInt8), (7 : UInt8), (7 : UInt8), (7 : UInt8), (7 : UInt8), (7 : UInt8), (7 : UInt8), (7 : UInt8), (7 : UInt8), (7 : UInt8), (7 : UInt8), (7 : UInt8), (7 : UInt8), (7 : UInt8), (7 : UInt8), (7 : UInt8), (7 : UInt8), (7 : UInt8), (7 : UInt8), (7 : UInt8), (7 : UInt8), (7 : UInt8), (7 : UInt8), (7 : UInt8), (7 : UInt8), (7 : UInt8), (7 : UInt8), (7 : UInt8), (7 : UInt8), (7 : UInt8), (7 : UInt8), (7 : UInt8), (7 : UInt8), (7 : UInt8), (7 : UInt8), (7 : UInt8), (7 : UInt8), (7 : UInt8), (7 : UInt8), (7 : UInt8), (7 : UInt8), (7 : UInt8), (7 : UInt8), (7 : UInt8), (7 : UInt8), (7 : UInt8), (7 : UInt8), (7 : UInt8), (7 : UInt8), (7 : UInt8), (7 : UInt8), (7 : UInt8), (7 : UInt8), (8 : UInt8), (8 : UInt8), (8 : UInt8), (8 : UInt8), (8 : UInt8), (8 : UInt8), (8 : UInt8), (8 : UInt8), (8 : UInt8), (8 : UInt8), (8 : UInt8), (8 : UInt8), (8 : UInt8), (8 : UInt8), (8 : UInt8), (8 : UInt8), (8 : UInt8), (8 : UInt8), (8 : UInt8), (8 : UInt8), (8 : UInt8), (8 : UInt8), (8 : UInt8), (8 : UInt8), (8 : UInt8), (8 : UInt8), (8 : UInt8), (8 : UInt8), (8 : UInt8), (8 : UInt8), (8 : UInt8), (8 : UInt8), (8 : UInt8), (8 : UInt8), (8 : UInt8), (8 : UInt8), (8 : UInt8), (8 : UInt8), (8 : UInt8), (8 : UInt8), (8 : UInt8), (8 : UInt8), (8 : UInt8), (8 : UInt8), (8 : UInt8), (8 : UInt8), (8 : UInt8), (8 : UInt8), (8 : UInt8), (8 : UInt8), (8 : UInt8), (8 : UInt8), (8 : UInt8), (8 : UInt8), (8 : UInt8), (8 : UInt8), (8 : UInt8), (8 : UInt8), (8 : UInt8), (8 : UInt8), (8 : UInt8), (8 : UInt8), (8 : UInt8), (8 : UInt8), (8 : UInt8), (8 : UInt8), (8 : UInt8), (8 : UInt8), (8 : UInt8), (8 : UInt8), (8 : UInt8), (8 : UInt8), (8 : UInt8), (8 : UInt8), (8 : UInt8), (8 : UInt8), (8 : UInt8), (8 : UInt8), (8 : UInt8), (8 : UInt8), (8 : UInt8), (8 : UInt8), (8 : UInt8), (8 : UInt8), (8 : UInt8), (8 : UInt8), (8 : UInt8), (8 : UInt8), (8 : UInt8), (8 : UInt8), (8 : UInt8), (8 : UInt8), (8 : UInt8), (8 : UInt8), (8 : UInt8), (8 : UInt8), (8 : UInt8), (8 : UInt8), (8 : UInt8), (8 : UInt8), (8 : UInt8), (8 : UInt8), (8 : UInt8), (8 : UInt8), (8 : UInt8), (8 : UInt8), (8 : UInt8), (8 : UInt8), (8 : UInt8), (8 : UInt8), (8 : UInt8), (8 : UInt8), (8 : UInt8), (8 : UInt8), (8 : UInt8), (8 : UInt8), (8 : UInt8), (8 : UInt8), (8 : UInt8), (8 : UInt8), (8 : UInt8), (8 : UInt8), (8 : UInt8), (8 : UInt8), (8 : UInt8), (8 : UInt8), (8 : UInt8), (8 : UInt8)])[Int.toNat (IntKind.wrap IntKind.u8 (Int.fdiv (Int.fdiv (Int.fdiv x0 (4294967296 : Int)) (65536 : Int)) (256 : Int)))]?) fun y0 =>
          some (IntKind.wrap IntKind.i64 ((56 : Int) + IntKind.wrap IntKind.i64 (↑(UInt8.toNat y0) : Int)))) (
          none )) (
        iteP (decide ((0 : Int) ≤ IntKind.wrap IntKind.u8 (Int.fdiv (Int.fdiv x0 (4294967296 : Int)) (65536 : Int)))) (
          Option.bind ((ByteArray.mk #[(0 : UInt8), (1 : UInt8), (2 : UInt8), (2 : UInt8), (3 : UInt8), (3 : UInt8), (3 : UInt8), (3 : UInt8), (4 : UInt8), (4 : UInt8), (4 : UInt8), (4 : UInt8), (4 : UInt8), (4 : UInt8), (4 : UInt8), (4 : UInt8), (5 : UInt8), (5 : UInt8), (5 : UInt8), (5 : UInt8), (5 : UInt8), (5 : UInt8), (5 : UInt8), (5 : UInt8), (5 : UInt8), (5 : UInt8), (5 : UInt8), (5 : UInt8), (5 : UInt8), (5 : UInt8), (5 : UInt8), (5 : UInt8), (6 : UInt8), (6 : UInt8), (6 : UInt8), (6 : UInt8), (6 : UInt8), (6 : UInt8), (6 : UInt8), (6 : UInt8), (6 : UInt8), (6 : UInt8), (6 : UInt8), (6 : UInt8), (6 : UInt8), (6 : UInt8), (6 : UInt8), (6 : UInt8), (6 : UInt8), (6 : UInt8), (6 : UInt8), (6 : UInt8), (6 : UInt8), (6 : UInt8), (6 : UInt8), (6 : UInt8), (6 : UInt8), (6 : UInt8), (6 : UInt8), (6 : UInt8), (6 : UInt8), (6 : UInt8), (6 : UInt8), (6 : UInt8), (7 : UInt8), (7 : UInt8), (7 : UInt8), (7 : UInt8), (7 : UInt8), (7 : UInt8), (7 : UInt8), (7 : UInt8), (7 : UInt8), (7 : UInt8), (7 : UInt8), (7 : UInt8), (7 : UInt8), (7 : UInt8), (7 : UInt8), (7 : UInt8), (7 : UInt8), (7 : UInt8), (7 : UInt8), (7 : UInt8), (7 : UInt8), (7 : UInt8), (7 : UInt8), (7 : UInt8), (7 : UInt8), (7 : UInt8), (7 : UInt8), (7 : UInt8), (7 : UInt8), (7 : UInt8), (7 : UInt8), (7 : UInt8), (7 : UInt8), (7 : UInt8), (7 : UInt8), (7 : UInt8), (7 : UInt8), (7 : UInt8), (7 : UInt8), (7 : UInt8), (7 : UInt8), (7 : UInt8), (7 : UInt8), (7 : UInt8), (7 : UInt8), (7 : UInt8), (7 : UInt8), (7 : UInt8), (7 : UInt8), (7 : UInt8), (7 : UInt8), (7 : UInt8), (7 : UInt8), (7 : UInt8), (7 : UInt8), (7 : UInt8), (7 : UInt8), (7 : UInt8), (7 : UInt8), (7 : UInt8), (7 : UInt8), (7 : UInt8), (7 : UInt8), (7 : UInt8), (8 : UInt8), (8 : UInt8), (8 : UInt8), (8 : UInt8), (8 : UInt8), (8 : UInt8), (8 : UInt8), (8 : UInt8), (8 : UInt8), (8 : UInt8), (8 : UInt8), (8 : UInt8), (8 : UInt8), (8 : UInt8), (8 : UInt8), (8 : UInt8), (8 : UInt8), (8 : UInt8), (8 : UInt8), (8 : UInt8), (8 : UInt8), (8 : UInt8), (8 : UInt8), (8 : UInt8), (8 : UInt8), (8 : UInt8), (8 : UInt8), (8 : UInt8), (8 : UInt8), (8 : UInt8), (8 : UInt8), (8 : UInt8), (8 : UInt8), (8 : UInt8), (8 : UInt8), (8 : UInt8), (8 : UInt8), (8 : UInt8), (8 : UInt8), (8 : UInt8), (8 : UInt8), (8 : UInt8), (8 : UInt8), (8 : UInt8), (8 : UInt8), (8 : UInt8), (8 : UInt8), (8 : UInt8), (8 : UInt8), (8 : UInt8), (8 : UInt8), (8 : UInt8), (8 : UInt8), (8 : UInt8), (8 : UInt8), (8 : UInt8), (8 : UInt8), (8 : UInt8), (8 : UInt8), (8 : UInt8), (8 : UInt8), (8 : UInt8), (8 : UInt8), (8 : UInt8), (8 : UInt8), (8 : UInt8), (8 : UInt8), (8 : UInt8), (8 : UInt8), (8 : UInt8), (8 : UInt8), (8 : UInt8), (8 : UInt8), (8 : UInt8), (8 : UInt8), (8 : UInt8), (8 : UInt8), (8 : UInt8), (8 : UInt8), (8 : UInt8), (8 : UInt8), (8 : UInt8), (8 : UInt8), (8 : UInt8), (8 : UInt8), (8 : UInt8), (8 : UInt8), (8 : UInt8), (8 : UInt8), (8 : UInt8), (8 : UInt8), (8 : UInt8), (8 : UInt8), (8 : UInt8), (8 : UInt8), (8 : UInt8), (8 : UInt8), (8 : UInt8), (8 : UInt8), (8 : UInt8), (8 : UInt8), (8 : UInt8), (8 : UInt8), (8 : UInt8), (8 : UInt8), (8 : UInt8), (8 : UInt8), (8 : UInt8), (8 : UInt8), (8 : UInt8), (8 : UInt8), (8 : UInt8), (8 : UInt8), (8 : UInt8), (8 : UInt8), (8 : UInt8), (8 : UInt8), (8 : UInt8), (8 : UInt8), (8 : UInt8), (8 : UInt8), (8 : UInt8), (8 : UInt8), (8 : UInt8), (8 : UInt8), (8 : UInt8), (8 : UInt8), (8 : UInt8)])[Int.toNat (IntKind.wrap IntKind.u8 (Int.fdiv (Int.fdiv x0 (4294967296 : Int)) (65536 : Int)))]?) fun y1 =>
          some (IntKind.wrap IntKind.i64 ((48 : Int) + IntKind.wrap IntKind.i64 (↑(UInt8.toNat y1) : Int)))) (
          none ))) (
      iteP (decide (Int.fdiv x0 (4294967296 : Int) ≥ (256 : Int))) (
        iteP (decide ((0 : Int) ≤ IntKind.wrap IntKind.u8 (Int.fdiv (Int.fdiv x0 (4294967296 : Int)) (256 : Int)))) (
          Option.bind ((ByteArray.mk #[(0 : UInt8), (1 : UInt8), (2 : UInt8), (2 : UInt8), (3 : UInt8), (3 : UInt8), (3 : UInt8), (3 : UInt8), (4 : UInt8), (4 : UInt8), (4 : UInt8), (4 : UInt8), (4 : UInt8), (4 : UInt8), (4 : UInt8), (4 : UInt8), (5 : UInt8), (5 : UInt8), (5 : UInt8), (5 : UInt8), (5 : UInt8), (5 : UInt8), (5 : UInt8), (5 : UInt8), (5 : UInt8), (5 : UInt8), (5 : UInt8), (5 : UInt8), (5 : UInt8), (5 : UInt8), (5 : UInt8), (5 : UInt8), (6 : UInt8), (6 : UInt8), (6 : UInt8), (6 : UInt8), (6 : UInt8), (6 : UInt8), (6 : UInt8), (6 : UInt8), (6 : UInt8), (6 : UInt8), (6 : UInt8), (6 : UInt8), (6 : UInt8), (6 : UInt8), (6 : UInt8), (6 : UInt8), (6 : UInt8), (6 : UInt8), (6 : UInt8), (6 : UInt8), (6 : UInt8), (6 : UInt8), (6 : UInt8), (6 : UInt8), (6 : UInt8), (6 : UInt8), (6 : UInt8), (6 : UInt8), (6 : UInt8), (6 : UInt8), (6 : UInt8), (6 : UInt8), (7 : UInt8), (7 : UInt8), (7 : UInt8), (7 : UInt8), (7 : UInt8), (7 : UInt8), (7 : UInt8), (7 : UInt8), (7 : UInt8), (7 : UInt8), (7 : UInt8), (7 : UInt8), (7 : UInt8), (7 : UInt8), (7 : UInt8), (7 : UInt8), (7 : UInt8), (7 : UInt8), (7 : UInt8), (7 : UInt8), (7 : UInt8), (7 : UInt8), (7 : UInt8), (7 : UInt8), (7 : UInt8), (7 : UInt8), (7 : UInt8), (7 : UInt8), (7 : UInt8), (7 : UInt8), (7 : UInt8), (7 : UInt8), (7 : UInt8), (7 : UInt8), (7 : UInt8), (7 : UInt8), (7 : UInt8), (7 : UInt8), (7 : UInt8), (7 : UInt8), (7 : UInt8), (7 : UInt8), (7 : UInt8), (7 : UInt8), (7 : UInt8), (7 : UInt8), (7 : UInt8), (7 : UInt8), (7 : UInt8), (7 : UInt8), (7 : UInt8), (7 : UInt8), (7 : UInt8), (7 : UInt8), (7 : UInt8), (7 : UInt8), (7 : UInt8), (7 : UInt8), (7 : UInt8), (7 : UInt8), (7 : UInt8), (7 : UInt8), (7 : UInt8), (7 : UInt8), (8 : UInt8), (8 : UInt8), (8 : UInt8), (8 : UInt8), (8 : UInt8), (8 : UInt8), (8 : UInt8), (8 : UInt8), (8 : UInt8), (8 : UInt8), (8 : UInt8), (8 : UInt8), (8 : UInt8), (8 : UInt8), (8 : UInt8), (8 : UInt8), (8 : UInt8), (8 : UInt8), (8 : UInt8), (8 : UInt8), (8 : UInt8), (8 : UInt8), (8 : UInt8), (8 : UInt8), (8 : UInt8), (8 : UInt8), (8 : UInt8), (8 : UInt8), (8 : UInt8), (8 : UInt8), (8 : UInt8), (8 : UInt8), (8 : UInt8), (8 : UInt8), (8 : UInt8), (8 : UInt8), (8 : UInt8), (8 : UInt8), (8 : UInt8), (8 : UInt8), (8 : UInt8), (8 : UInt8), (8 : UInt8), (8 : UInt8), (8 : UInt8), (8 : UInt8), (8 : UInt8), (8 : UInt8), (8 : UInt8), (8 : UInt8), (8 : UInt8), (8 : UInt8), (8 : UInt8), (8 : UInt8), (8 : UInt8), (8 : UInt8), (8 : UInt8), (8 : UInt8), (8 : UInt8), (8 : UInt8), (8 : UInt8), (8 : UInt8), (8 : UInt8), (8 : UInt8), (8 : UInt8), (8 : UInt8), (8 : UInt8), (8 : UInt8), (8 : UInt8), (8 : UInt8), (8 : UInt8), (8 : UInt8), (8 : UInt8), (8 : UInt8), (8 : UInt8), (8 : UInt8), (8 : UInt8), (8 : UInt8), (8 : UInt8), (8 : UInt8), (8 : UInt8), (8 : UInt8), (8 : UInt8), (8 : UInt8), (8 : UInt8), (8 : UInt8), (8 : UInt8), (8 : UInt8), (8 : UInt8), (8 : UInt8), (8 : UInt8), (8 : UInt8), (8 : UInt8), (8 : UInt8), (8 : UInt8), (8 : UInt8), (8 : UInt8), (8 : UInt8), (8 : UInt8), (8 : UInt8), (8 : UInt8), (8 : UInt8), (8 : UInt8), (8 : UInt8), (8 : UInt8), (8 : UInt8), (8 : UInt8), (8 : UInt8), (8 : UInt8), (8 : UInt8), (8 : UInt8), (8 : UInt8), (8 : UInt8), (8 : UInt8), (8 : UInt8), (8 : UInt8), (8 : UInt8), (8 : UInt8), (8 : UInt8), (8 : UInt8), (8 : UInt8), (8 : UInt8), (8 : UInt8), (8 : UInt8), (8 : UInt8), (8 : UInt8), (8 : UInt8), (8 : UInt8)])[Int.toNat (IntKind.wrap IntKind.u8 (Int.fdiv (Int.fdiv x0 (4294967296 : Int)) (256 : Int)))]?) fun y2 =>
          some (IntKind.wrap IntKind.i64 ((40 : Int) + IntKind.wrap IntKind.i64 (↑(UInt8.toNat y2) : Int)))) (
          none )) (
        iteP (decide ((0 : Int) ≤ IntKind.wrap IntKind.u8 (Int.fdiv x0 (4294967296 : Int)))) (
          Option.bind ((ByteArray.mk #[(0 : UInt8), (1 : UInt8), (2 : UInt8), (2 : UInt8), (3 : UInt8), (3 : UInt8), (3 : UInt8), (3 : UInt8), (4 : UInt8), (4 : UInt8), (4 : UInt8), (4 : UInt8), (4 : UInt8), (4 : UInt8), (4 : UInt8), (4 : UInt8), (5 : UInt8), (5 : UInt8), (5 : UInt8), (5 : UInt8), (5 : UInt8), (5 : UInt8), (5 : UInt8), (5 : UInt8), (5 : UInt8), (5 : UInt8), (5 : UInt8), (5 : UInt8), (5 : UInt8), (5 : UInt8), (5 : UInt8), (5 : UInt8), (6 : UInt8), (6 : UInt8), (6 : UInt8), (6 : UInt8), (6 : UInt8), (6 : UInt8), (6 : UInt8), (6 : UInt8), (6 : UInt8), (6 : UInt8), (6 : UInt8), (6 : UInt8), (6 : UInt8), (6 : UInt8), (6 : UInt8), (6 : UInt8), (6 : UInt8), (6 : UInt8), (6 : UInt8), (6 : UInt8), (6 : UInt8), (6 : UInt8), (6 : UInt8), (6 : UInt8), (6 : UInt8), (6 : UInt8), (6 : UInt8), (6 : UInt8), (6 : UInt8), (6 : UInt8), (6 : UInt8), (6 : UInt8), (7 : UInt8), (7 : UInt8), (7 : UInt8), (7 : UInt8), (7 : UInt8), (7 : UInt8), (7 : UInt8), (7 : UInt8), (7 : UInt8), (7 : UInt8), (7 : UInt8), (7 : UInt8), (7 : UInt8), (7 : UInt8), (7 : UInt8), (7 : UInt8), (7 : UInt8), (7 : UInt8), (7 : UInt8), (7 : UInt8), (7 : UInt8), (7 : UInt8), (7 : UInt8), (7 : UInt8), (7 : UInt8), (7 : UInt8), (7 : UInt8), (7 : UInt8), (7 : UInt8), (7 : UInt8), (7 : UInt8), (7 : UInt8), (7 : UInt8), (7 : UInt8), (7 : UInt8), (7 : UInt8), (7 : UInt8), (7 : UInt8), (7 : UInt8), (7 : UInt8), (7 : UInt8), (7 : UInt8), (7 : UInt8), (7 : UInt8), (7 : UInt8), (7 : UInt8), (7 : UInt8), (7 : UInt8), (7 : UInt8), (7 : UInt8), (7 : UInt8), (7 : UInt8), (7 : UInt8), (7 : UInt8), (7 : UInt8), (7 : UInt8), (7 : UInt8), (7 : UInt8), (7 : UInt8), (7 : UInt8), (7 : UInt8), (7 : UInt8), (7 : UInt8), (7 : UInt8), (8 : UInt8), (8 : UInt8), (8 : UInt8), (8 : UInt8), (8 : UInt8), (8 : UInt8), (8 : UInt8), (8 : UInt8), (8 : UInt8), (8 : UInt8), (8 : UInt8), (8 : UInt8), (8 : UInt8), (8 : UInt8), (8 : UInt8), (8 : UInt8), (8 : UInt8), (8 : UInt8), (8 : UInt8), (8 : UInt8), (8 : UInt8), (8 : UInt8), (8 : UInt8), (8 : UInt8), (8 : UInt8), (8 : UInt8), (8 : UInt8), (8 : UInt8), (8 : UInt8), (8 : UInt8), (8 : UInt8), (8 : UInt8), (8 : UInt8), (8 : UInt8), (8 : UInt8), (8 : UInt8), (8 : UInt8), (8 : UInt8), (8 : UInt8), (8 : UInt8), (8 : UInt8), (8 : UInt8), (8 : UInt8), (8 : UInt8), (8 : UInt8), (8 : UInt8), (8 : UInt8), (8 : UInt8), (8 : UInt8), (8 : UInt8), (8 : UInt8), (8 : UInt8), (8 : UInt8), (8 : UInt8), (8 : UInt8), (8 : UInt8), (8 : UInt8), (8 : UInt8), (8 : UInt8), (8 : UInt8), (8 : UInt8), (8 : UInt8), (8 : UInt8), (8 : UInt8), (8 : UInt8), (8 : UInt8), (8 : UInt8), (8 : UInt8), (8 : UInt8), (8 : UInt8), (8 : UInt8), (8 : UInt8), (8 : UInt8), (8 : UInt8), (8 : UInt8), (8 : UInt8), (8 : UInt8), (8 : UInt8), (8 : UInt8), (8 : UInt8), (8 : UInt8), (8 : UInt8), (8 : UInt8), (8 : UInt8), (8 : UInt8), (8 : UInt8), (8 : UInt8), (8 : UInt8), (8 : UInt8), (8 : UInt8), (8 : UInt8), (8 : UInt8), (8 : UInt8), (8 : UInt8), (8 : UInt8), (8 : UInt8), (8 : UInt8), (8 : UInt8), (8 : UInt8), (8 : UInt8), (8 : UInt8), (8 : UInt8), (8 : UInt8), (8 : UInt8), (8 : UInt8), (8 : UInt8), (8 : UInt8), (8 : UInt8), (8 : UInt8), (8 : UInt8), (8 : UInt8), (8 : UInt8), (8 : UInt8), (8 : UInt8), (8 : UInt8), (8 : UInt8), (8 : UInt8), (8 : UInt8), (8 : UInt8), (8 : UInt8), (8 : UInt8), (8 : UInt8), (8 : UInt8), (8 : UInt8), (8 : UInt8), (8 : UInt8), (8 : UInt8), (8 : UInt8)])[Int.toNat (IntKind.wrap IntKind.u8 (Int.fdiv x0 (4294967296 : Int)))]?) fun y3 =>
          some (IntKind.wrap IntKind.i64 ((32 : Int) + IntKind.wrap IntKind.i64 (↑(UInt8.toNat y3) : Int)))) (
          none )))) (
    iteP (decide (x0 ≥ (65536 : Int))) (
      iteP (decide (Int.fdiv x0 (65536 : Int) ≥ (256 : Int))) (
        iteP (decide ((0 : Int) ≤ IntKind.wrap IntKind.u8 (Int.fdiv (Int.fdiv x0 (65536 : Int)) (256 : Int)))) (
          Option.bind ((ByteArray.mk #[(0 : UInt8), (1 : UInt8), (2 : UInt8), (2 : UInt8), (3 : UInt8), (3 : UInt8), (3 : UInt8), (3 : UInt8), (4 : UInt8), (4 : UInt8), (4 : UInt8), (4 : UInt8), (4 : UInt8), (4 : UInt8), (4 : UInt8), (4 : UInt8), (5 : UInt8), (5 : UInt8), (5 : UInt8), (5 : UInt8), (5 : UInt8), (5 : UInt8), (5 : UInt8), (5 : UInt8), (5 : UInt8), (5 : UInt8), (5 : UInt8), (5 : UInt8), (5 : UInt8), (5 : UInt8), (5 : UInt8), (5 : UInt8), (6 : UInt8), (6 : UInt8), (6 : UInt8), (6 : UInt8), (6 : UInt8), (6 : UInt8), (6 : UInt8), (6 : UInt8), (6 : UInt8), (6 : UInt8), (6 : UInt8), (6 : UInt8), (6 : UInt8), (6 : UInt8), (6 : UInt8), (6 : UInt8), (6 : UInt8), (6 : UInt8), (6 : UInt8), (6 : UInt8), (6 : UInt8), (6 : UInt8), (6 : UInt8), (6 : UInt8), (6 : UInt8), (6 : UInt8), (6 : UInt8), (6 : UInt8), (6 : UInt8), (6 : UInt8), (6 : UInt8), (6 : UInt8), (7 : UInt8), (7 : UInt8), (7 : UInt8), (7 : UInt8), (7 : UInt8), (7 : UInt8), (7 : UInt8), (7 : UInt8), (7 : UInt8), (7 : UInt8), (7 : UInt8), (7 : UInt8), (7 : UInt8), (7 : UInt8), (7 : UInt8), (7 : UInt8), (7 : UInt8), (7 : UInt8), (7 : UInt8), (7 : UInt8), (7 : UInt8), (7 : UInt8), (7 : UInt8), (7 : UInt8), (7 : UInt8), (7 : UInt8), (7 : UInt8), (7 : UInt8), (7 : UInt8), (7 : UInt8), (7 : UInt8), (7 : UInt8), (7 : UInt8), (7 : UInt8), (7 : UInt8), (7 : UInt8), (7 : UInt8), (7 : UInt8), (7 : UInt8), (7 : UInt8), (7 : UInt8), (7 : UInt8), (7 : UInt8), (7 : UInt8), (7 : UInt8), (7 : UInt8), (7 : UInt8), (7 : UInt8), (7 : UInt8), (7 : UInt8), (7 : UInt8), (7 : UInt8), (7 : UInt8), (7 : UInt8), (7 : UInt8), (7 : UInt8), (7 : UInt8), (7 : UInt8), (7 : UInt8), (7 : UInt8), (7 : UInt8), (7 : UInt8), (7 : UInt8), (7 : UInt8), (8 : UInt8), (8 : UInt8), (8 : UInt8), (8 : UInt8), (8 : UInt8), (8 : UInt8), (8 : UInt8), (8 : UInt8), (8 : UInt8), (8 : UInt8), (8 : UInt8), (8 : UInt8), (8 : UInt8), (8 : UInt8), (8 : UInt8), (8 : UInt8), (8 : UInt8), (8 : UInt8), (8 : UInt8), (8 : UInt8), (8 : UInt8), (8 : UInt8), (8 : UInt8), (8 : UInt8), (8 : UInt8), (8 : UInt8), (8 : UInt8), (8 : UInt8), (8 : UInt8), (8 : UInt8), (8 : UInt8), (8 : UInt8), (8 : UInt8), (8 : UInt8), (8 : UInt8), (8 : UInt8), (8 : UInt8), (8 : UInt8), (8 : UInt8), (8 : UInt8), (8 : UInt8), (8 : UInt8), (8 : UInt8), (8 : UInt8), (8 : UInt8), (8 : UInt8), (8 : UInt8), (8 : UInt8), (8 : UInt8), (8 : UInt8), (8 : UInt8), (8 : UInt8), (8 : UInt8), (8 : UInt8), (8 : UInt8), (8 : UInt8), (8 : UInt8), (8 : UInt8), (8 : UInt8), (8 : UInt8), (8 : UInt8), (8 : UInt8), (8 : UInt8), (8 : UInt8), (8 : UInt8), (8 : UInt8), (8 : UInt8), (8 : UInt8), (8 : UInt8), (8 : UInt8), (8 : UInt8), (8 : UInt8), (8 : UInt8), (8 : UInt8), (8 : UInt8), (8 : UInt8), (8 : UInt8), (8 : UInt8), (8 : UInt8), (8 : UInt8), (8 : UInt8), (8 : UInt8), (8 : UInt8), (8 : UInt8), (8 : UInt8), (8 : UInt8), (8 : UInt8), (8 : UInt8), (8 : UInt8), (8 : UInt8), (8 : UInt8), (8 : UInt8), (8 : UInt8), (8 : UInt8), (8 : UInt8), (8 : UInt8), (8 : UInt8), (8 : UInt8), (8 : UInt8), (8 : UInt8), (8 : UInt8), (8 : UInt8), (8 : UInt8), (8 : UInt8), (8 : UInt8), (8 : UInt8), (8 : UInt8), (8 : UInt8), (8 : UInt8), (8 : UInt8), (8 : UInt8), (8 : UInt8), (8 : UInt8), (8 : UInt8), (8 : UInt8), (8 : UInt8), (8 : UInt8), (8 : UInt8), (8 : UInt8), (8 : UInt8), (8 : UInt8), (8 : UInt8), (8 : UInt8), (8 : UInt8), (8 : UInt8), (8 : UInt8), (8 : UInt8), (8 : UInt8)])[Int.toNat (IntKind.wrap IntKind.u8 (Int.fdiv (Int.fdiv x0 (65536 : Int)) (256 : Int)))]?) fun y4 =>
          some (IntKind.wrap IntKind.i64 ((24 : Int) + IntKind.wrap IntKind.i64 (↑(UInt8.toNat y4) : Int)))) (
          none )) (
        iteP (decide ((0 : Int) ≤ IntKind.wrap IntKind.u8 (Int.fdiv x0 (65536 : Int)))) (
          Option.bind ((ByteArray.mk #[(0 : UInt8), (1 : UInt8), (2 : UInt8), (2 : UInt8), (3 : UInt8), (3 : UInt8), (3 : UInt8), (3 : UInt8), (4 : UInt8), (4 : UInt8), (4 : UInt8), (4 : UInt8), (4 : UInt8), (4 : UInt8), (4 : UInt8), (4 : UInt8), (5 : UInt8), (5 : UInt8), (5 : UInt8), (5 : UInt8), (5 : UInt8), (5 : UInt8), (5 : UInt8), (5 : UInt8), (5 : UInt8), (5 : UInt8), (5 : UInt8), (5 : UInt8), (5 : UInt8), (5 : UInt8), (5 : UInt8), (5 : UInt8), (6 : UInt8), (6 : UInt8), (6 : UInt8), (6 : UInt8), (6 : UInt8), (6 : UInt8), (6 : UInt8), (6 : UInt8), (6 : UInt8), (6 : UInt8), (6 : UInt8), (6 : UInt8), (6 : UInt8), (6 : UInt8), (6 : UInt8), (6 : UInt8), (6 : UInt8), (6 : UInt8), (6 : UInt8), (6 : UInt8), (6 : UInt8), (6 : UInt8), (6 : UInt8), (6 : UInt8), (6 : UInt8), (6 : UInt8), (6 : UInt8), (6 : UInt8), (6 : UInt8), (6 : UInt8), (6 : UInt8), (6 : UInt8), (7 : UInt8), (7 : UInt8), (7 : UInt8), (7 : UInt8), (7 : UInt8), (7 : UInt8), (7 : UInt8), (7 : UInt8), (7 : UInt8), (7 : UInt8), (7 : UInt8), (7 : UInt8), (7 : UInt8), (7 : UInt8), (7 : UInt8), (7 : UInt8), (7 : UInt8), (7 : UInt8), (7 : UInt8), (7 : UInt8), (7 : UInt8), (7 : UInt8), (7 : UInt8), (7 : UInt8), (7 : UInt8), (7 : UInt8), (7 : UInt8), (7 : UInt8), (7 : UInt8), (7 : UInt8), (7 : UInt8), (7 : UInt8), (7 : UInt8), (7 : UInt8), (7 : UInt8), (7 : UInt8), (7 : UInt8), (7 : UInt8), (7 : UInt8), (7 : UInt8), (7 : UInt8), (7 : UInt8), (7 : UInt8), (7 : UInt8), (7 : UInt8), (7 : UInt8), (7 : UInt8), (7 : UInt8), (7 : UInt8), (7 : UInt8), (7 : UInt8), (7 : UInt8), (7 : UInt8), (7 : UInt8), (7 : UInt8), (7 : UInt8), (7 : UInt8), (7 : UInt8), (7 : UInt8), (7 : UInt8), (7 : UInt8), (7 : UInt8), (7 : UInt8), (7 : UInt8), (8 : UInt8), (8 : UInt8), (8 : UInt8), (8 : UInt8), (8 : UInt8), (8 : UInt8), (8 : UInt8), (8 : UInt8), (8 : UInt8), (8 : UInt8), (8 : UInt8), (8 : UInt8), (8 : UInt8), (8 : UInt8), (8 : UInt8), (8 : UInt8), (8 : UInt8), (8 : UInt8), (8 : UInt8), (8 : UInt8), (8 : UInt8), (8 : UInt8), (8 : UInt8), (8 : UInt8), (8 : UInt8), (8 : UInt8), (8 : UInt8), (8 : UInt8), (8 : UInt8), (8 : UInt8), (8 : UInt8), (8 : UInt8), (8 : UInt8), (8 : UInt8), (8 : UInt8), (8 : UInt8), (8 : UInt8), (8 : UInt8), (8 : UInt8), (8 : UInt8), (8 : UInt8), (8 : UInt8), (8 : UInt8), (8 : UInt8), (8 : UInt8), (8 : UInt8), (8 : UInt8), (8 : UInt8), (8 : UInt8), (8 : UInt8), (8 : UInt8), (8 : UInt8), (8 : UInt8), (8 : UInt8), (8 : UInt8), (8 : UInt8), (8 : UInt8), (8 : UInt8), (8 : UInt8), (8 : UInt8), (8 : UInt8), (8 : UInt8), (8 : UInt8), (8 : UInt8), (8 : UInt8), (8 : UInt8), (8 : UInt8), (8 : UInt8), (8 : UInt8), (8 : UInt8), (8 : UInt8), (8 : UInt8), (8 : UInt8), (8 : UInt8), (8 : UInt8), (8 : UInt8), (8 : UInt8), (8 : UInt8), (8 : UInt8), (8 : UInt8), (8 : UInt8), (8 : UInt8), (8 : UInt8), (8 : UInt8), (8 : UInt8), (8 : UInt8), (8 : UInt8), (8 : UInt8), (8 : UInt8), (8 : UInt8), (8 : UInt8), (8 : UInt8), (8 : UInt8), (8 : UInt8), (8 : UInt8), (8 : UInt8), (8 : UInt8), (8 : UInt8), (8 : UInt8), (8 : UInt8), (8 : UInt8), (8 : UInt8), (8 : UInt8), (8 : UInt8), (8 : UInt8), (8 : UInt8), (8 : UInt8), (8 : UInt8), (8 : UInt8), (8 : UInt8), (8 : UInt8), (8 : UInt8), (8 : UInt8), (8 : UInt8), (8 : UInt8), (8 : UInt8), (8 : UInt8), (8 : UInt8), (8 : UInt8), (8 : UInt8), (8 : UInt8), (8 : UInt8), (8 : UInt8), (8 : UInt8), (8 : UInt8), (8 : UInt8), (8 : UInt8), (8 : UInt8)])[Int.toNat (IntKind.wrap IntKind.u8 (Int.fdiv x0 (65536 : Int)))]?) fun y5 =>
          some (IntKind.wrap IntKind.i64 ((16 : Int) + IntKind.wrap IntKind.i64 (↑(UInt8.toNat y5) : Int)))) (
          none ))) (
      iteP (decide (x0 ≥ (256 : Int))) (
        iteP (decide ((0 : Int) ≤ IntKind.wrap IntKind.u8 (Int.fdiv x0 (256 : Int)))) (
          Option.bind ((ByteArray.mk #[(0 : UInt8), (1 : UInt8), (2 : UInt8), (2 : UInt8), (3 : UInt8), (3 : UInt8), (3 : UInt8), (3 : UInt8), (4 : UInt8), (4 : UInt8), (4 : UInt8), (4 : UInt8), (4 : UInt8), (4 : UInt8), (4 : UInt8), (4 : UInt8), (5 : UInt8), (5 : UInt8), (5 : UInt8), (5 : UInt8), (5 : UInt8), (5 : UInt8), (5 : UInt8), (5 : UInt8), (5 : UInt8), (5 : UInt8), (5 : UInt8), (5 : UInt8), (5 : UInt8), (5 : UInt8), (5 : UInt8), (5 : UInt8), (6 : UInt8), (6 : UInt8), (6 : UInt8), (6 : UInt8), (6 : UInt8), (6 : UInt8), (6 : UInt8), (6 : UInt8), (6 : UInt8), (6 : UInt8), (6 : UInt8), (6 : UInt8), (6 : UInt8), (6 : UInt8), (6 : UInt8), (6 : UInt8), (6 : UInt8), (6 : UInt8), (6 : UInt8), (6 : UInt8), (6 : UInt8), (6 : UInt8), (6 : UInt8), (6 : UInt8), (6 : UInt8), (6 : UInt8), (6 : UInt8), (6 : UInt8), (6 : UInt8), (6 : UInt8), (6 : UInt8), (6 : UInt8), (7 : UInt8), (7 : UInt8), (7 : UInt8), (7 : UInt8), (7 : UInt8), (7 : UInt8), (7 : UInt8), (7 : UInt8), (7 : UInt8), (7 : UInt8), (7 : UInt8), (7 : UInt8), (7 : UInt8), (7 : UInt8), (7 : UInt8), (7 : UInt8), (7 : UInt8), (7 : UInt8), (7 : UInt8), (7 : UInt8), (7 : UInt8), (7 : UInt8), (7 : UInt8), (7 : UInt8), (7 : UInt8), (7 : UInt8), (7 : UInt8), (7 : UInt8), (7 : UInt8), (7 : UInt8), (7 : UInt8), (7 : UInt8), (7 : UInt8), (7 : UInt8), (7 : UInt8), (7 : UInt8), (7 : UInt8), (7 : UInt8), (7 : UInt8), (7 : UInt8), (7 : UInt8), (7 : UInt8), (7 : UInt8), (7 : UInt8), (7 : UInt8), (7 : UInt8), (7 : UInt8), (7 : UInt8), (7 : UInt8), (7 : UInt8), (7 : UInt8), (7 : UInt8), (7 : UInt8), (7 : UInt8), (7 : UInt8), (7 : UInt8), (7 : UInt8), (7 : UInt8), (7 : UInt8), (7 : UInt8), (7 : UInt8), (7 : UInt8), (7 : UInt8), (7 : UInt8), (8 : UInt8), (8 : UInt8), (8 : UInt8), (8 : UInt8), (8 : UInt8), (8 : UInt8), (8 : UInt8), (8 : UInt8), (8 : UInt8), (8 : UInt8), (8 : UInt8), (8 : UInt8), (8 : UInt8), (8 : UInt8), (8 : UInt8), (8 : UInt8), (8 : UInt8), (8 : UInt8), (8 : UInt8), (8 : UInt8), (8 : UInt8), (8 : UInt8), (8 : UInt8), (8 : UInt8), (8 : UInt8), (8 : UInt8), (8 : UInt8), (8 : UInt8), (8 : UInt8), (8 : UInt8), (8 : UInt8), (8 : UInt8), (8 : UInt8), (8 : UInt8), (8 : UInt8), (8 : UInt8), (8 : UInt8), (8 : UInt8), (8 : UInt8), (8 : UInt8), (8 : UInt8), (8 : UInt8), (8 : UInt8), (8 : UInt8), (8 : UInt8), (8 : UInt8), (8 : UInt8), (8 : UInt8), (8 : UInt8), (8 : UInt8), (8 : UInt8), (8 : UInt8), (8 : UInt8), (8 : UInt8), (8 : UInt8), (8 : UInt8), (8 : UInt8), (8 : UInt8), (8 : UInt8), (8 : UInt8), (8 : UInt8), (8 : UInt8), (8 : UInt8), (8 : UInt8), (8 : UInt8), (8 : UInt8), (8 : UInt8), (8 : UInt8), (8 : UInt8), (8 : UInt8), (8 : UInt8), (8 : UInt8), (8 : UInt8), (8 : UInt8), (8 : UInt8), (8 : UInt8), (8 : UInt8), (8 : UInt8), (8 : UInt8), (8 : UInt8), (8 : UInt8), (8 : UInt8), (8 : UInt8), (8 : UInt8), (8 : UInt8), (8 : UInt8), (8 : UInt8), (8 : UInt8), (8 : UInt8), (8 : UInt8), (8 : UInt8), (8 : UInt8), (8 : UInt8), (8 : UInt8), (8 : UInt8), (8 : UInt8), (8 : UInt8), (8 : UInt8), (8 : UInt8), (8 : UInt8), (8 : UInt8), (8 : UInt8), (8 : UInt8), (8 : UInt8), (8 : UInt8), (8 : UInt8), (8 : UInt8), (8 : UInt8), (8 : UInt8), (8 : UInt8), (8 : UInt8), (8 : UInt8), (8 : UInt8), (8 : UInt8), (8 : UInt8), (8 : UInt8), (8 : UInt8), (8 : UInt8), (8 : UInt8), (8 : UInt8), (8 : UInt8), (8 : UInt8), (8 : UInt8), (8 : UInt8), (8 : UInt8), (8 : UInt8), (8 : UInt8), (8 : UInt8)])[Int.toNat (IntKind.wrap IntKind.u8 (Int.fdiv x0 (256 : Int)))]?) fun y6 =>
          some (IntKind.wrap IntKind.i64 ((8 : Int) + IntKind.wrap IntKind.i64 (↑(UInt8.toNat y6) : Int)))) (
          none )) (
        iteP (decide ((0 : Int) ≤ IntKind.wrap IntKind.u8 x0)) (
          Option.bind ((ByteArray.mk #[(0 : UInt8), (1 : UInt8), (2 : UInt8), (2 : UInt8), (3 : UInt8), (3 : UInt8), (3 : UInt8), (3 : UInt8), (4 : UInt8), (4 : UInt8), (4 : UInt8), (4 : UInt8), (4 : UInt8), (4 : UInt8), (4 : UInt8), (4 : UInt8), (5 : UInt8), (5 : UInt8), (5 : UInt8), (5 : UInt8), (5 : UInt8), (5 : UInt8), (5 : UInt8), (5 : UInt8), (5 : UInt8), (5 : UInt8), (5 : UInt8), (5 : UInt8), (5 : UInt8), (5 : UInt8), (5 : UInt8), (5 : UInt8), (6 : UInt8), (6 : UInt8), (6 : UInt8), (6 : UInt8), (6 : UInt8), (6 : UInt8), (6 : UInt8), (6 : UInt8), (6 : UInt8), (6 : UInt8), (6 : UInt8), (6 : UInt8), (6 : UInt8), (6 : UInt8), (6 : UInt8), (6 : UInt8), (6 : UInt8), (6 : UInt8), (6 : UInt8), (6 : UInt8), (6 : UInt8), (6 : UInt8), (6 : UInt8), (6 : UInt8), (6 : UInt8), (6 : UInt8), (6 : UInt8), (6 : UInt8), (6 : UInt8), (6 : UInt8), (6 : UInt8), (6 : UInt8), (7 : UInt8), (7 : UInt8), (7 : UInt8), (7 : UInt8), (7 : UInt8), (7 : UInt8), (7 : UInt8), (7 : UInt8), (7 : UInt8), (7 : UInt8), (7 : UInt8), (7 : UInt8), (7 : UInt8), (7 : UInt8), (7 : UInt8), (7 : UInt8), (7 : UInt8), (7 : UInt8), (7 : UInt8), (7 : UInt8), (7 : UInt8), (7 : UInt8), (7 : UInt8), (7 : UInt8), (7 : UInt8), (7 : UInt8), (7 : UInt8), (7 : UInt8), (7 : UInt8), (7 : UInt8), (7 : UInt8), (7 : UInt8), (7 : UInt8), (7 : UInt8), (7 : UInt8), (7 : UInt8), (7 : UInt8), (7 : UInt8), (7 : UInt8), (7 : UInt8), (7 : UInt8), (7 : UInt8), (7 : UInt8), (7 : UInt8), (7 : UInt8), (7 : UInt8), (7 : UInt8), (7 : UInt8), (7 : UInt8), (7 : UInt8), (7 : UInt8), (7 : UInt8), (7 : UInt8), (7 : UInt8), (7 : UInt8), (7 : UInt8), (7 : UInt8), (7 : UInt8), (7 : UInt8), (7 : UInt8), (7 : UInt8), (7 : UInt8), (7 : UInt8), (7 : UInt8), (8 : UInt8), (8 : UInt8), (8 : UInt8), (8 : UInt8), (8 : UInt8), (8 : UInt8), (8 : UInt8), (8 : UInt8), (8 : UInt8), (8 : UInt8), (8 : UInt8), (8 : UInt8), (8 : UInt8), (8 : UInt8), (8 : UInt8), (8 : UInt8), (8 : UInt8), (8 : UInt8), (8 : UInt8), (8 : UInt8), (8 : UInt8), (8 : UInt8), (8 : UInt8), (8 : UInt8), (8 : UInt8), (8 : UInt8), (8 : UInt8), (8 : UInt8), (8 : UInt8), (8 : UInt8), (8 : UInt8), (8 : UInt8), (8 : UInt8), (8 : UInt8), (8 : UInt8), (8 : UInt8), (8 : UInt8), (8 : UInt8), (8 : UInt8), (8 : UInt8), (8 : UInt8), (8 : UInt8), (8 : UInt8), (8 : UInt8), (8 : UInt8), (8 : UInt8), (8 : UInt8), (8 : UInt8), (8 : UInt8), (8 : UInt8), (8 : UInt8), (8 : UInt8), (8 : UInt8), (8 : UInt8), (8 : UInt8), (8 : UInt8), (8 : UInt8), (8 : UInt8), (8 : UInt8), (8 : UInt8), (8 : UInt8), (8 : UInt8), (8 : UInt8), (8 : UInt8), (8 : UInt8), (8 : UInt8), (8 : UInt8), (8 : UInt8), (8 : UInt8), (8 : UInt8), (8 : UInt8), (8 : UInt8), (8 : UInt8), (8 : UInt8), (8 : UInt8), (8 : UInt8), (8 : UInt8), (8 : UInt8), (8 : UInt8), (8 : UInt8), (8 : UInt8), (8 : UInt8), (8 : UInt8), (8 : UInt8), (8 : UInt8), (8 : UInt8), (8 : UInt8), (8 : UInt8), (8 : UInt8), (8 : UInt8), (8 : UInt8), (8 : UInt8), (8 : UInt8), (8 : UInt8), (8 : UInt8), (8 : UInt8), (8 : UInt8), (8 : UInt8), (8 : UInt8), (8 : UInt8), (8 : UInt8), (8 : UInt8), (8 : UInt8), (8 : UInt8), (8 : UInt8), (8 : UInt8), (8 : UInt8), (8 : UInt8), (8 : UInt8), (8 : UInt8), (8 : UInt8), (8 : UInt8), (8 : UInt8), (8 : UInt8), (8 : UInt8), (8 : UInt8), (8 : UInt8), (8 : UInt8), (8 : UInt8), (8 : UInt8), (8 : UInt8), (8 : UInt8), (8 : UInt8), (8 : UInt8), (8 : UInt8), (8 : UInt8), (8 : UInt8), (8 : UInt8)])[Int.toNat (IntKind.wrap IntKind.u8 x0)]?) fun y7 =>
          some (IntKind.wrap IntKind.i64 ((0 : Int) + IntKind.wrap IntKind.i64 (↑(UInt8.toNat y7) : Int)))) (
          none ))))
noncomputable def T55 (N : Nat) : Pk → Tr Pk := tellS s55 w55 (F55 N)
theorem T55_ok (N : Nat) : FOK Tryz.prog (55) (T55 N) :=
  (fn_ok2 ownT mix (tab55_ok N) Tryz.func55 s55 w55 [] (cuts := []) trivial (fun _ => by kernel_rfl) (by decide +kernel) (F55 N) (fun x => by kernel_rfl))
@[reducible] def s44 : SP := ⟨[.int .u64], []⟩
noncomputable def tab44 (N : Nat) : List (Nat × (Pk → Tr Pk)) := [(55, T55 N)]
theorem tab44_ok (N : Nat) : TabOK Tryz.prog (tab44 N) := ⟨T55_ok N, trivial⟩
@[reducible] def w44 : List SP := [⟨[.int .i64], []⟩]
noncomputable def F44 (N : Nat) : (Int) → Option (Int)
  | x0 =>
  Option.bind (F55 N x0) fun y0 =>
  some (y0)
noncomputable def T44 (N : Nat) : Pk → Tr Pk := tellS s44 w44 (F44 N)
theorem T44_ok (N : Nat) : FOK Tryz.prog (44) (T44 N) :=
  (fn_ok2 ownT mix (tab44_ok N) Tryz.func44 s44 w44 [] (cuts := []) trivial (fun _ => by kernel_rfl) (by decide +kernel) (F44 N) (fun x => by kernel_rfl))
@[reducible] def s27 : SP := ⟨[.agg [.int .i64, .int .i64], .int .i64], []⟩
noncomputable def tab27 (N : Nat) : List (Nat × (Pk → Tr Pk)) := [(44, T44 N)]
theorem tab27_ok (N : Nat) : TabOK Tryz.prog (tab27 N) := ⟨T44_ok N, trivial⟩
@[reducible] def w27 : List SP := [⟨[.bool], []⟩]
noncomputable def F27 (N : Nat) : (Int × Int × Int) → Option (Bool)
  | (x0, x1, x2) =>
  iteP (decide (x0 < (1 : Int))) (
    some (false)) (
    iteP (decide (x0 > (65535 : Int))) (
      some (false)) (
      iteP (IntKind.wrap IntKind.i64 (↑(BitVec.toNat (BitVec.ofInt (64 : Nat) x0 &&& BitVec.ofInt (64 : Nat) (IntKind.wrap IntKind.i64 (x0 + (1 : Int))))) : Int) != (0 : Int)) (
        some (false)) (
        iteP (decide (x1 < (0 : Int))) (
          some (false)) (
          iteP (decide (x1 > x2)) (
            some (false)) (
            Option.bind (F44 N (IntKind.wrap IntKind.u64 x0)) fun y0 =>
            some (decide (IntKind.wrap IntKind.i64 (x1 + y0) ≤ x2)))))))
noncomputable def T27 (N : Nat) : Pk → Tr Pk := tellS s27 w27 (F27 N)
theorem T27_ok (N : Nat) : FOK Tryz.prog (27) (T27 N) :=
  (fn_ok2 ownT mix (tab27_ok N) Tryz.func27 s27 w27 [] (cuts := []) trivial (fun _ => by kernel_rfl) (by decide +kernel) (F27 N) (fun x => by kernel_rfl))
@[reducible] def s28 : SP := ⟨[.agg [.int .i64, .int .i64]], []⟩
noncomputable def tab28 (N : Nat) : List (Nat × (Pk → Tr Pk)) := []
theorem tab28_ok (N : Nat) : TabOK Tryz.prog (tab28 N) := trivial
@[reducible] def w28 : List SP := [⟨[.int .i64], []⟩]
noncomputable def F28 (N : Nat) : (Int × Int) → Option (Int)
  | (x0, x1) =>
  iteP (decide (x1 < (0 : Int))) (
    none ) (
    some (IntKind.wrap IntKind.i64 (x0 * (2 : Int) ^ min (Int.toNat x1) (64 : Nat))))
noncomputable def T28 (N : Nat) : Pk → Tr Pk := tellS s28 w28 (F28 N)
theorem T28_ok (N : Nat) : FOK Tryz.prog (28) (T28 N) :=
  (fn_ok2 ownT mix (tab28_ok N) Tryz.func28 s28 w28 [] (cuts := []) trivial (fun _ => by kernel_rfl) (by decide +kernel) (F28 N) (fun x => by kernel_rfl))
@[reducible] def s6 : SP := ⟨[.agg [.int .i64, .int .i64, .bool, .bool, .int .i64, .int .i64, .int .i64, .int .i64, .int .i64, .int .i64]], []⟩
noncomputable def tab6 (N : Nat) : List (Nat × (Pk → Tr Pk)) := [(26, T26 N), (27, T27 N), (28, T28 N)]
theorem tab6_ok (N : Nat) : TabOK Tryz.prog (tab6 N) := ⟨T26_ok N, T27_ok N, T28_ok N, trivial⟩
@[reducible] def L6_250 : LD := ⟨250, [28, 1, 29, 3], [(.ret, [2]), (.exit 1, [])], ⟨[.arr y1 3, .adr 0 [], .int .i64, .int .i64], [.var 23 (.agg [.int .i64, .int .i64, .bool, .bool, .int .i64, .int .i64, .int .i64, .int .i64, .int .i64, .int .i64])]⟩, [(.ret, ⟨[.bool], []⟩), (.exit 1, ⟨[], []⟩)]⟩
abbrev P6_250 : Type := (List (Int × (Int × Unit))) × Int × Int × Int × Int × Bool × Bool × Int × Int × Int × Int × Int × Int
abbrev R6_250 : Type := ((Bool) ⊕ (Unit))
noncomputable def B6_250 (N : Nat) (f : P6_250 → Option R6_250) : P6_250 → Option R6_250
  | (x0, x1, x2, x3, x4, x5, x6, x7, x8, x9, x10, x11, x12) =>
  iteP (decide (x1 < (3 : Int))) (
    iteP (within x1 (List.length x0)) (
      Option.bind (x0[Int.toNat x1]?) fun y0 =>
      Option.bind (F27 N (y0.1, y0.2.1, x3)) fun y1 =>
      iteP (!y1) (
        some (.inl (false))) (
        Option.bind (F28 N (y0.1, y0.2.1)) fun y2 =>
        iteP (IntKind.wrap IntKind.i64 (↑(BitVec.toNat (BitVec.ofInt (64 : Nat) x2 &&& BitVec.ofInt (64 : Nat) y2)) : Int) != (0 : Int)) (
          some (.inl (false))) (
          Option.bind (F28 N (y0.1, y0.2.1)) fun y3 =>
          Option.bind (f (x0, IntKind.wrap IntKind.i64 (x1 + (1 : Int)), IntKind.wrap IntKind.i64 (↑(BitVec.toNat (BitVec.ofInt (64 : Nat) x2 ||| BitVec.ofInt (64 : Nat) y3)) : Int), x3, x4, x5, x6, x7, x8, x9, x10, x11, x12)) fun r => match r with | .inl y => some (.inl y) | .inr y => some (.inr y)))) (
      none )) (
    some (.inr (())))
noncomputable def F6_250 (N : Nat) : Nat → P6_250 → Option R6_250
  | 0, _ => none
  | k + 1, x => B6_250 N (F6_250 N k) x
noncomputable def C6_250 (N : Nat) (k : Nat) : Cut := L6_250.cut (F6_250 N k)
theorem C6_250_ok (N : Nat) (k : Nat) : CutAt Tryz.prog false Tryz.f6 [] 250 (C6_250 N k) :=
  L6_250.loopT ownT mix (tab6_ok N) Tryz.f6 [] (cuts := []) trivial (by decide +kernel) (by kernel_rfl) (B6_250 N) (F6_250 N) (fun _ => rfl) (fun _ _ => rfl) (fun f x => by kernel_rfl) k
@[reducible] def L6_7 : LD := ⟨7, [1], [(.ret, [2]), (.normal, [2])], ⟨[.adr 0 []], [.var 23 (.agg [.int .i64, .int .i64, .bool, .bool, .int .i64, .int .i64, .int .i64, .int .i64, .int .i64, .int .i64])]⟩, [(.ret, ⟨[.bool], []⟩)]⟩
noncomputable def F6_7 (N : Nat) : (Int × Int × Bool × Bool × Int × Int × Int × Int × Int × Int) → Option (Bool)
  | (x0, x1, x2, x3, x4, x5, x6, x7, x8, x9) =>
  iteP (decide (x1 < (1 : Int))) (
    some (false)) (
    iteP (decide (x1 > x0)) (
      some (false)) (
      iteP (!x3) (
        some (false)) (
        Option.bind (F26 N (x0, x1, x2, x3, x4, x5, x6, x7, x8, x9)) fun y0 =>
        Option.bind (F6_250 N N (y0, (0 : Int), (0 : Int), x0, x1, x2, x3, x4, x5, x6, x7, x8, x9)) fun y1 =>
        match y1 with
        | .inl y2 =>
          some (y2)
        | .inr y2 =>
          some (true))))
noncomputable def C6_7 (N : Nat) (_ : Nat) : Cut := L6_7.cut (F6_7 N)
theorem C6_7_ok (N : Nat) (k : Nat) : CutAt Tryz.prog false Tryz.f6 [] 7 (C6_7 N k) :=
  L6_7.pieceT ownT mix (tab6_ok N) Tryz.f6 [] (cuts := [(250, C6_250 N N)]) ⟨C6_250_ok N N, trivial⟩ (by decide +kernel) (by kernel_rfl) (F6_7 N) (fun x => by kernel_rfl)
@[reducible] def w6 : List SP := [⟨[.bool], []⟩]
noncomputable def F6 (N : Nat) : (Int × Int × Bool × Bool × Int × Int × Int × Int × Int × Int) → Option (Bool)
  | (x0, x1, x2, x3, x4, x5, x6, x7, x8, x9) =>
  iteP (x0 == (8 : Int)) (
    Option.bind (F6_7 N (x0, x1, x2, x3, x4, x5, x6, x7, x8, x9)) fun y0 =>
    some (y0)) (
    iteP (x0 == (16 : Int)) (
      Option.bind (F6_7 N (x0, x1, x2, x3, x4, x5, x6, x7, x8, x9)) fun y1 =>
      some (y1)) (
      iteP (x0 == (32 : Int)) (
        Option.bind (F6_7 N (x0, x1, x2, x3, x4, x5, x6, x7, x8, x9)) fun y2 =>
        some (y2)) (
        some (false))))
noncomputable def T6 (N : Nat) : Pk → Tr Pk := tellS s6 w6 (F6 N)
theorem T6_ok (N : Nat) : FOK Tryz.prog (6) (T6 N) :=
  (fn_ok2 ownT mix (tab6_ok N) Tryz.func6 s6 w6 [] (cuts := [(250, C6_250 N N), (7, C6_7 N N)]) ⟨C6_250_ok N N, C6_7_ok N N, trivial⟩ (fun _ => by kernel_rfl) (by decide +kernel) (F6 N) (fun x => by kernel_rfl))
@[reducible] def s39 : SP := ⟨[.adr 0 [], .bool, .int .i64], [.var 95 (.agg [.agg [.nilp, .sl 1], .int .i64]), .row (.int .u8) 5]⟩
noncomputable def tab39 (N : Nat) : List (Nat × (Pk → Tr Pk)) := []
theorem tab39_ok (N : Nat) : TabOK Tryz.prog (tab39 N) := trivial
@[reducible] def w39 : List SP := [⟨[.tup []], [.var 95 (.agg [.agg [.nilp, .sl 1], .int .i64]), .row (.int .u8) 5]⟩]
noncomputable def F39 (N : Nat) : (Bool × Int × Int × (List Int)) → Option (Int × (List Int))
  | (x0, x1, x2, x3) =>
  iteP (!x0) (
    iteP (x2 == (0 : Int)) (
      some ((x1, x3))) (
      some ((x2, x3)))) (
    some ((x2, x3)))
noncomputable def T39 (N : Nat) : Pk → Tr Pk := tellS s39 w39 (F39 N)
theorem T39_ok (N : Nat) : FOK Tryz.prog (39) (T39 N) :=
  (fn_ok2 ownT mix (tab39_ok N) Tryz.func39 s39 w39 [0] (cuts := []) trivial (fun _ => by kernel_rfl) (by decide +kernel) (F39 N) (fun x => by kernel_rfl))
@[reducible] def s72 : SP := ⟨[.int .i64], []⟩
noncomputable def tab72 (N : Nat) : List (Nat × (Pk → Tr Pk)) := []
theorem tab72_ok (N : Nat) : TabOK Tryz.prog (tab72 N) := trivial
@[reducible] def w72 : List SP := [⟨[.bool], []⟩]
noncomputable def F72 (N : Nat) : (Int) → Option (Bool)
  | x0 =>
  iteP (x0 == (1 : Int)) (
    some (true)) (
    iteP (x0 == (2 : Int)) (
      some (true)) (
      some (x0 == (4 : Int))))
noncomputable def T72 (N : Nat) : Pk → Tr Pk := tellS s72 w72 (F72 N)
theorem T72_ok (N : Nat) : FOK Tryz.prog (72) (T72 N) :=
  (fn_ok2 ownT mix (tab72_ok N) Tryz.func72 s72 w72 [] (cuts := []) trivial (fun _ => by kernel_rfl) (by decide +kernel) (F72 N) (fun x => by kernel_rfl))
@[reducible] def s60 : SP := ⟨[.int .i64, .int .i64], []⟩
noncomputable def tab60 (N : Nat) : List (Nat × (Pk → Tr Pk)) := [(72, T72 N)]
theorem tab60_ok (N : Nat) : TabOK Tryz.prog (tab60 N) := ⟨T72_ok N, trivial⟩
@[reducible] def L60_122 : LD := ⟨122, [25, 24, 6, 1], [(.ret, [4, 5]), (.exit 0, [6])], ⟨[.int .i64, .int .i64, .sl 0, .int .i64], [.row (.int .u8) 5]⟩, [(.exit 0, ⟨[.sl 0], [.row (.int .u8) 5]⟩)]⟩
abbrev P60_122 : Type := Int × Int × Int × (List Int)
abbrev R60_122 : Type := (List Int)
noncomputable def B60_122 (N : Nat) (f : P60_122 → Option R60_122) : P60_122 → Option R60_122
  | (x0, x1, x2, x3) =>
  iteP (decide (x0 < x1)) (
    iteP (decide (IntKind.wrap IntKind.i64 ((8 : Int) * x0) < (0 : Int))) (
      none ) (
      iteP (within x0 (List.length x3)) (
        Option.bind (x3[Int.toNat x0]?) fun y0 =>
        Option.bind (f (IntKind.wrap IntKind.i64 (x0 + (1 : Int)), x1, x2, List.set x3 (Int.toNat x0) (IntKind.wrap IntKind.u8 (Int.fdiv x2 ((2 : Int) ^ min (Int.toNat (IntKind.wrap IntKind.i64 ((8 : Int) * x0))) (64 : Nat)))))) fun r => some r) (
        none ))) (
    some (x3))
noncomputable def F60_122 (N : Nat) : Nat → P60_122 → Option R60_122
  | 0, _ => none
  | k + 1, x => B60_122 N (F60_122 N k) x
noncomputable def C60_122 (N : Nat) (k : Nat) : Cut := L60_122.cut (F60_122 N k)
theorem C60_122_ok (N : Nat) (k : Nat) : CutAt Tryz.prog false Tryz.f60 [] 122 (C60_122 N k) :=
  L60_122.loopT ownT mix (tab60_ok N) Tryz.f60 [] (cuts := []) trivial (by decide +kernel) (by kernel_rfl) (B60_122 N) (F60_122 N) (fun _ => rfl) (fun _ _ => rfl) (fun f x => by kernel_rfl) k
@[reducible] def w60 : List SP := [⟨[.tup [.str, .int .i64]], []⟩]
noncomputable def F60 (N : Nat) : (Int × Int) → Option (ByteArray × Int)
  | (x0, x1) =>
  Option.bind (F72 N x0) fun y0 =>
  iteP (!y0) (
    some ((ByteArray.mk #[], (1 : Int)))) (
    iteP (decide (x1 < (0 : Int))) (
      some ((ByteArray.mk #[], (1 : Int)))) (
      iteP (decide (IntKind.wrap IntKind.i64 ((8 : Int) * x0) < (0 : Int))) (
        none ) (
        iteP (Int.fdiv x1 ((2 : Int) ^ min (Int.toNat (IntKind.wrap IntKind.i64 ((8 : Int) * x0))) (64 : Nat)) != (0 : Int)) (
          some ((ByteArray.mk #[], (1 : Int)))) (
          iteP (decide ((0 : Int) ≤ x0 ∧ x0 ≤ x0 ∧ x0 * (1 : Int) ≤ (140737488355328 : Int) ∧ x0 ≤ (140737488355328 : Int))) (
            Option.bind (F60_122 N N ((0 : Int), x0, x1, List.replicate (Int.toNat x0) (0 : Int))) fun y1 =>
            some ((stringOf y1, (0 : Int)))) (
            none )))))
noncomputable def T60 (N : Nat) : Pk → Tr Pk := tellS s60 w60 (F60 N)
theorem T60_ok (N : Nat) : FOK Tryz.prog (60) (T60 N) :=
  (fn_ok2 ownT mix (tab60_ok N) Tryz.func60 s60 w60 [] (cuts := [(122, C60_122 N N)]) ⟨C60_122_ok N N, trivial⟩ (fun _ => by kernel_rfl) (by decide +kernel) (F60 N) (fun x => by kernel_rfl))
@[reducible] def s73 : SP := ⟨[.slp 0 .h .h], [.row (.int .u8) 5]⟩
noncomputable def tab73 (N : Nat) : List (Nat × (Pk → Tr Pk)) := []
theorem tab73_ok (N : Nat) : TabOK Tryz.prog (tab73 N) := trivial
@[reducible] def L73_6 : LD := ⟨6, [2, 3, 0], [(.exit 0, [])], ⟨[.int .i64, .int .i64, .slp 0 .h .h], [.row (.int .u8) 5]⟩, [(.exit 0, ⟨[], [.row (.int .u8) 5]⟩)]⟩
abbrev P73_6 : Type := Int × Int × Nat × Nat × (List Int)
abbrev R73_6 : Type := (List Int)
noncomputable def B73_6 (N : Nat) (f : P73_6 → Option R73_6) : P73_6 → Option R73_6
  | (x0, x1, x2, x3, x4) =>
  iteP (decide (x0 < x1)) (
    iteP (within x1 x3) (
      Option.bind (x4[x2 + Int.toNat x1]?) fun y0 =>
      iteP (within x0 x3) (
        Option.bind (x4[x2 + Int.toNat x0]?) fun y1 =>
        iteP (within x0 x3) (
          Option.bind (x4[x2 + Int.toNat x0]?) fun y2 =>
          iteP (within x1 x3) (
            Option.bind ((List.set x4 (x2 + Int.toNat x0) y0)[x2 + Int.toNat x1]?) fun y3 =>
            Option.bind (f (IntKind.wrap IntKind.i64 (x0 + (1 : Int)), IntKind.wrap IntKind.i64 (x1 - (1 : Int)), x2, x3, List.set (List.set x4 (x2 + Int.toNat x0) y0) (x2 + Int.toNat x1) y1)) fun r => some r) (
            none )) (
          none )) (
        none )) (
      none )) (
    some (x4))
noncomputable def F73_6 (N : Nat) : Nat → P73_6 → Option R73_6
  | 0, _ => none
  | k + 1, x => B73_6 N (F73_6 N k) x
noncomputable def C73_6 (N : Nat) (k : Nat) : Cut := L73_6.cut (F73_6 N k)
theorem C73_6_ok (N : Nat) (k : Nat) : CutAt Tryz.prog false Tryz.f73 [0] 6 (C73_6 N k) :=
  L73_6.loopT ownT mix (tab73_ok N) Tryz.f73 [0] (cuts := []) trivial (by decide +kernel) (by kernel_rfl) (B73_6 N) (F73_6 N) (fun _ => rfl) (fun _ _ => rfl) (fun f x => by kernel_rfl) k
@[reducible] def w73 : List SP := [⟨[.tup []], [.row (.int .u8) 5]⟩]
noncomputable def F73 (N : Nat) : (Nat × Nat × (List Int)) → Option ((List Int))
  | (x0, x1, x2) =>
  Option.bind (F73_6 N N ((0 : Int), IntKind.wrap IntKind.i64 ((↑x1 : Int) - (1 : Int)), x0, x1, x2)) fun y0 =>
  some (y0)
noncomputable def T73 (N : Nat) : Pk → Tr Pk := tellS s73 w73 (F73 N)
theorem T73_ok (N : Nat) : FOK Tryz.prog (73) (T73 N) :=
  (fn_ok2 ownT mix (tab73_ok N) Tryz.func73 s73 w73 [0] (cuts := [(6, C73_6 N N)]) ⟨C73_6_ok N N, trivial⟩ (fun _ => by kernel_rfl) (by decide +kernel) (F73 N) (fun x => by kernel_rfl))
@[reducible] def s61 : SP := ⟨[.str], []⟩
noncomputable def tab61 (N : Nat) : List (Nat × (Pk → Tr Pk)) := [(73, T73 N)]
theorem tab61_ok (N : Nat) : TabOK Tryz.prog (tab61 N) := ⟨T73_ok N, trivial⟩
@[reducible] def w61 : List SP := [⟨[.str], []⟩]
noncomputable def F61 (N : Nat) : (ByteArray) → Option (ByteArray)
  | x0 =>
  iteP (decide (ByteArray.size x0 ≤ (140737488355328 : Nat))) (
    Option.bind (F73 N ((0 : Nat), List.length (bytesOf x0), bytesOf x0)) fun y0 =>
    some (stringOf y0)) (
    none )
noncomputable def T61 (N : Nat) : Pk → Tr Pk := tellS s61 w61 (F61 N)
theorem T61_ok (N : Nat) : FOK Tryz.prog (61) (T61 N) :=
  (fn_ok2 ownT mix (tab61_ok N) Tryz.func61 s61 w61 [] (cuts := []) trivial (fun _ => by kernel_rfl) (by decide +kernel) (F61 N) (fun x => by kernel_rfl))
@[reducible] def s48 : SP := ⟨[.int .i64, .int .i64], []⟩
noncomputable def tab48 (N : Nat) : List (Nat × (Pk → Tr Pk)) := [(60, T60 N), (61, T61 N)]
theorem tab48_ok (N : Nat) : TabOK Tryz.prog (tab48 N) := ⟨T60_ok N, T61_ok N, trivial⟩
@[reducible] def w48 : List SP := [⟨[.tup [.str, .int .i64]], []⟩]
noncomputable def F48 (N : Nat) : (Int × Int) → Option (ByteArray × Int)
  | (x0, x1) =>
  Option.bind (F60 N (x0, x1)) fun y0 =>
  Option.bind (F61 N y0.1) fun y1 =>
  some ((y1, y0.2))
noncomputable def T48 (N : Nat) : Pk → Tr Pk := tellS s48 w48 (F48 N)
theorem T48_ok (N : Nat) : FOK Tryz.prog (48) (T48 N) :=
  (fn_ok2 ownT mix (tab48_ok N) Tryz.func48 s48 w48 [] (cuts := []) trivial (fun _ => by kernel_rfl) (by decide +kernel) (F48 N) (fun x => by kernel_rfl))
@[reducible] def s49 : SP := ⟨[.adr 0 [.f 0 0]], [.var 95 (.agg [.agg [.nilp, .sl 1], .int .i64]), .row (.int .u8) 5]⟩
noncomputable def tab49 (N : Nat) : List (Nat × (Pk → Tr Pk)) := []
theorem tab49_ok (N : Nat) : TabOK Tryz.prog (tab49 N) := trivial
@[reducible] def w49 : List SP := [⟨[.tup []], [.var 95 (.agg [.agg [.adr 0 [.f 0 0], .sl 1], .int .i64]), .row (.int .u8) 5]⟩]
noncomputable def F49 (N : Nat) : (Int × (List Int)) → Option (Int × (List Int))
  | (x0, x1) =>
  some ((x0, x1))
noncomputable def T49 (N : Nat) : Pk → Tr Pk := tellS s49 w49 (F49 N)
theorem T49_ok (N : Nat) : FOK Tryz.prog (49) (T49 N) :=
  (fn_ok2 ownT mix (tab49_ok N) Tryz.func49 s49 w49 [0] (cuts := []) trivial (fun _ => by kernel_rfl) (by decide +kernel) (F49 N) (fun x => by kernel_rfl))
@[reducible] def s32 : SP := ⟨[.adr 0 [.f 0 0], .str], [.var 95 (.agg [.agg [.nilp, .sl 1], .int .i64]), .row (.int .u8) 5]⟩
noncomputable def tab32 (N : Nat) : List (Nat × (Pk → Tr Pk)) := [(49, T49 N)]
theorem tab32_ok (N : Nat) : TabOK Tryz.prog (tab32 N) := ⟨T49_ok N, trivial⟩
@[reducible] def w32 : List SP := [⟨[.tup [.int .i64, .nili]], [.var 95 (.agg [.agg [.adr 0 [.f 0 0], .sl 1], .int .i64]), .row (.int .u8) 5]⟩]
noncomputable def F32 (N : Nat) : (ByteArray × Int × (List Int)) → Option (Int × Int × (List Int))
  | (x0, x1, x2) =>
  Option.bind (F49 N (x1, x2)) fun y0 =>
  iteP (decide ((List.length y0.2 + List.length (bytesOf x0)) * (1 : Nat) ≤ (140737488355328 : Nat) ∧ List.length y0.2 + List.length (bytesOf x0) ≤ (140737488355328 : Nat))) (
    some (((↑(ByteArray.size x0) : Int), y0.1, y0.2 ++ bytesOf x0))) (
    none )
noncomputable def T32 (N : Nat) : Pk → Tr Pk := tellS s32 w32 (F32 N)
theorem T32_ok (N : Nat) : FOK Tryz.prog (32) (T32 N) :=
  (fn_ok2 ownT mix (tab32_ok N) Tryz.func32 s32 w32 [0] (cuts := []) trivial (fun _ => by kernel_rfl) (by decide +kernel) (F32 N) (fun x => by kernel_rfl))
@[reducible] def s39a : SP := ⟨[.adr 0 [], .bool, .int .i64], [.var 95 (.agg [.agg [.adr 0 [.f 0 0], .sl 1], .int .i64]), .row (.int .u8) 5]⟩
noncomputable def tab39a (N : Nat) : List (Nat × (Pk → Tr Pk)) := []
theorem tab39a_ok (N : Nat) : TabOK Tryz.prog (tab39a N) := trivial
@[reducible] def w39a : List SP := [⟨[.tup []], [.var 95 (.agg [.agg [.adr 0 [.f 0 0], .sl 1], .int .i64]), .row (.int .u8) 5]⟩]
noncomputable def F39a (N : Nat) : (Bool × Int × Int × (List Int)) → Option (Int × (List Int))
  | (x0, x1, x2, x3) =>
  iteP (!x0) (
    iteP (x2 == (0 : Int)) (
      some ((x1, x3))) (
      some ((x2, x3)))) (
    some ((x2, x3)))
noncomputable def T39a (N : Nat) : Pk → Tr Pk := tellS s39a w39a (F39a N)
theorem T39a_ok (N : Nat) : FOK Tryz.prog (39) (T39a N) :=
  (fn_ok2 ownT mix (tab39a_ok N) Tryz.func39 s39a w39a [0, 0] (cuts := []) trivial (fun _ => by kernel_rfl) (by decide +kernel) (F39a N) (fun x => by kernel_rfl))
@[reducible] def s49a : SP := ⟨[.adr 0 [.f 0 0]], [.var 95 (.agg [.agg [.adr 0 [.f 0 0], .sl 1], .int .i64]), .row (.int .u8) 5]⟩
noncomputable def tab49a (N : Nat) : List (Nat × (Pk → Tr Pk)) := []
theorem tab49a_ok (N : Nat) : TabOK Tryz.prog (tab49a N) := trivial
@[reducible] def w49a : List SP := [⟨[.tup []], [.var 95 (.agg [.agg [.adr 0 [.f 0 0], .sl 1], .int .i64]), .row (.int .u8) 5]⟩]
noncomputable def F49a (N : Nat) : (Int × (List Int)) → Option (Int × (List Int))
  | (x0, x1) =>
  some ((x0, x1))
noncomputable def T49a (N : Nat) : Pk → Tr Pk := tellS s49a w49a (F49a N)
theorem T49a_ok (N : Nat) : FOK Tryz.prog (49) (T49a N) :=
  (fn_ok2 ownT mix (tab49a_ok N) Tryz.func49 s49a w49a [0, 0] (cuts := []) trivial (fun _ => by kernel_rfl) (by decide +kernel) (F49a N) (fun x => by kernel_rfl))
@[reducible] def s32a : SP := ⟨[.adr 0 [.f 0 0], .str], [.var 95 (.agg [.agg [.adr 0 [.f 0 0], .sl 1], .int .i64]), .row (.int .u8) 5]⟩
noncomputable def tab32a (N : Nat) : List (Nat × (Pk → Tr Pk)) := [(49, T49a N)]
theorem tab32a_ok (N : Nat) : TabOK Tryz.prog (tab32a N) := ⟨T49a_ok N, trivial⟩
@[reducible] def w32a : List SP := [⟨[.tup [.int .i64, .nili]], [.var 95 (.agg [.agg [.adr 0 [.f 0 0], .sl 1], .int .i64]), .row (.int .u8) 5]⟩]
noncomputable def F32a (N : Nat) : (ByteArray × Int × (List Int)) → Option (Int × Int × (List Int))
  | (x0, x1, x2) =>
  Option.bind (F49a N (x1, x2)) fun y0 =>
  iteP (decide ((List.length y0.2 + List.length (bytesOf x0)) * (1 : Nat) ≤ (140737488355328 : Nat) ∧ List.length y0.2 + List.length (bytesOf x0) ≤ (140737488355328 : Nat))) (
    some (((↑(ByteArray.size x0) : Int), y0.1, y0.2 ++ bytesOf x0))) (
    none )
noncomputable def T32a (N : Nat) : Pk → Tr Pk := tellS s32a w32a (F32a N)
theorem T32a_ok (N : Nat) : FOK Tryz.prog (32) (T32a N) :=
  (fn_ok2 ownT mix (tab32a_ok N) Tryz.func32 s32a w32a [0, 0] (cuts := []) trivial (fun _ => by kernel_rfl) (by decide +kernel) (F32a N) (fun x => by kernel_rfl))
@[reducible] def s37 : SP := ⟨[.adr 0 [], .int .i64, .ro (.int .i64)], [.var 95 (.agg [.agg [.nilp, .sl 1], .int .i64]), .row (.int .u8) 5]⟩
noncomputable def tab37 (N : Nat) : List (Nat × (Pk → Tr Pk)) := [(48, T48 N), (39, orT s39.I (T39 N) (T39a N)), (32, orT s32.I (T32 N) (T32a N))]
theorem tab37_ok (N : Nat) : TabOK Tryz.prog (tab37 N) := ⟨T48_ok N, orT_ok (T39_ok N) (T39a_ok N), orT_ok (T32_ok N) (T32a_ok N), trivial⟩
@[reducible] def L37_6n : LD := ⟨6, [12, 11, 10, 1, 0], [(.exit 0, [])], ⟨[.int .i64, .int .i64, .ro (.int .i64), .int .i64, .adr 0 []], [.var 95 (.agg [.agg [.adr 0 [.f 0 0], .sl 1], .int .i64]), .row (.int .u8) 5]⟩, [(.exit 0, ⟨[], [.var 95 (.agg [.agg [.adr 0 [.f 0 0], .sl 1], .int .i64]), .row (.int .u8) 5]⟩), (.exit 0, ⟨[], [.var 95 (.agg [.agg [.nilp, .sl 1], .int .i64]), .row (.int .u8) 5]⟩)]⟩
abbrev P37_6n : Type := Int × Int × (List Int) × Int × Int × (List Int)
abbrev R37_6n : Type := ((Int × (List Int)) ⊕ (Int × (List Int)))
noncomputable def B37_6n (N : Nat) (f : P37_6n → Option R37_6n) : P37_6n → Option R37_6n
  | (x0, x1, x2, x3, x4, x5) =>
  iteP (decide (x0 < x1)) (
    iteP (within x0 (List.length x2)) (
      Option.bind (x2[Int.toNat x0]?) fun y0 =>
      Option.bind (F48 N (x3, y0)) fun y1 =>
      Option.bind (F39a N (y1.2 == (0 : Int), (1 : Int), x4, x5)) fun y2 =>
      Option.bind (F32a N (y1.1, y2.1, y2.2)) fun y3 =>
      Option.bind (f (IntKind.wrap IntKind.i64 (x0 + (1 : Int)), x1, x2, x3, y3.2.1, y3.2.2)) fun r => match r with | .inl y => some (.inl y) | .inr y => some (.inr y)) (
      none )) (
    some (.inl ((x4, x5))))
noncomputable def F37_6n (N : Nat) : Nat → P37_6n → Option R37_6n
  | 0, _ => none
  | k + 1, x => B37_6n N (F37_6n N k) x
noncomputable def C37_6n (N : Nat) (k : Nat) : Cut := L37_6n.cut (F37_6n N k)
theorem C37_6n_ok (N : Nat) (k : Nat) : CutAt Tryz.prog false Tryz.f37 [0] 6 (C37_6n N k) :=
  L37_6n.loopT ownT mix (tab37_ok N) Tryz.f37 [0] (cuts := []) trivial (by decide +kernel) (by kernel_rfl) (B37_6n N) (F37_6n N) (fun _ => rfl) (fun _ _ => rfl) (fun f x => by kernel_rfl) k
@[reducible] def L37_6 : LD := ⟨6, L37_6n.live, L37_6n.out, ⟨[.int .i64, .int .i64, .ro (.int .i64), .int .i64, .adr 0 []], [.var 95 (.agg [.agg [.nilp, .sl 1], .int .i64]), .row (.int .u8) 5]⟩, L37_6n.w⟩
noncomputable def B37_6 (N : Nat) (f : (Int × Int × (List Int) × Int × Int × (List Int)) → Option (((Int × (List Int)) ⊕ (Int × (List Int))))) : (Int × Int × (List Int) × Int × Int × (List Int)) → Option (((Int × (List Int)) ⊕ (Int × (List Int))))
  | (x0, x1, x2, x3, x4, x5) =>
  iteP (decide (x0 < x1)) (
    iteP (within x0 (List.length x2)) (
      Option.bind (x2[Int.toNat x0]?) fun y0 =>
      Option.bind (F48 N (x3, y0)) fun y1 =>
      Option.bind (F39 N (y1.2 == (0 : Int), (1 : Int), x4, x5)) fun y2 =>
      Option.bind (F32 N (y1.1, y2.1, y2.2)) fun y3 =>
      Option.bind (f (IntKind.wrap IntKind.i64 (x0 + (1 : Int)), x1, x2, x3, y3.2.1, y3.2.2)) fun r => match r with | .inl y => some (.inl y) | .inr y => some (.inr y)) (
      none )) (
    some (.inr ((x4, x5))))
noncomputable def F37_6 (N : Nat) (k : Nat) : (Int × Int × (List Int) × Int × Int × (List Int)) → Option (((Int × (List Int)) ⊕ (Int × (List Int)))) := B37_6 N (F37_6n N k)
noncomputable def C37_6 (N : Nat) (k : Nat) : Cut := L37_6.cut (F37_6 N k)
theorem C37_6_ok (N : Nat) (k : Nat) : CutAt Tryz.prog false Tryz.f37 [0] 6 (C37_6 N k) :=
  L37_6.loop2T ownT mix (tab37_ok N) L37_6n.s Tryz.f37 [0] (cuts := [(6, C37_6n N N)]) ⟨C37_6n_ok N N, trivial⟩ (by decide +kernel) (by kernel_rfl) (B37_6 N) (B37_6n N) (F37_6n N) (fun _ => rfl) (fun _ _ => rfl) (fun f g x => by kernel_rfl) (fun f g x => by kernel_rfl) k
@[reducible] def w37 : List SP := [⟨[.tup []], [.var 95 (.agg [.agg [.adr 0 [.f 0 0], .sl 1], .int .i64]), .row (.int .u8) 5]⟩, ⟨[.tup []], [.var 95 (.agg [.agg [.nilp, .sl 1], .int .i64]), .row (.int .u8) 5]⟩]
noncomputable def F37 (N : Nat) : (Int × (List Int) × Int × (List Int)) → Option (((Int × (List Int)) ⊕ (Int × (List Int))))
  | (x0, x1, x2, x3) =>
  Option.bind (F37_6 N N ((0 : Int), (↑(List.length x1) : Int), x1, x0, x2, x3)) fun y0 =>
  match y0 with
  | .inl y1 =>
    some (.inl ((y1.1, y1.2)))
  | .inr y1 =>
    some (.inr ((y1.1, y1.2)))
noncomputable def T37 (N : Nat) : Pk → Tr Pk := tellS s37 w37 (F37 N)
theorem T37_ok (N : Nat) : FOK Tryz.prog (37) (T37 N) :=
  (fn_ok2 ownT mix (tab37_ok N) Tryz.func37 s37 w37 [0] (cuts := [(6, orC L37_6n.s.I (C37_6n N N) (C37_6 N N))]) ⟨fun c' h => orC_ok (C37_6n_ok N N c' h) (C37_6_ok N N c' h) rfl rfl, trivial⟩ (fun _ => by kernel_rfl) (by decide +kernel) (F37 N) (fun x => by kernel_rfl))
@[reducible] def s50 : SP := ⟨[.bool], []⟩
noncomputable def tab50 (N : Nat) : List (Nat × (Pk → Tr Pk)) := []
theorem tab50_ok (N : Nat) : TabOK Tryz.prog (tab50 N) := trivial
@[reducible] def w50 : List SP := [⟨[.int .i64], []⟩]
noncomputable def F50 (N : Nat) : (Bool) → Option (Int)
  | x0 =>
  iteP (x0) (
    some ((1 : Int))) (
    some ((0 : Int)))
noncomputable def T50 (N : Nat) : Pk → Tr Pk := tellS s50 w50 (F50 N)
theorem T50_ok (N : Nat) : FOK Tryz.prog (50) (T50 N) :=
  (fn_ok2 ownT mix (tab50_ok N) Tryz.func50 s50 w50 [] (cuts := []) trivial (fun _ => by kernel_rfl) (by decide +kernel) (F50 N) (fun x => by kernel_rfl))
@[reducible] def s33 : SP := ⟨[.agg [.int .i64, .int .i64, .bool, .bool, .int .i64, .int .i64, .int .i64, .int .i64, .int .i64, .int .i64]], []⟩
noncomputable def tab33 (N : Nat) : List (Nat × (Pk → Tr Pk)) := [(50, T50 N), (48, T48 N)]
theorem tab33_ok (N : Nat) : TabOK Tryz.prog (tab33 N) := ⟨T50_ok N, T48_ok N, trivial⟩
@[reducible] def L33_58 : LD := ⟨58, [40, 41, 3], [(.ret, [2]), (.exit 0, [3])], ⟨[.arr y1 10, .int .i64, .str], []⟩, [(.ret, ⟨[.str], []⟩), (.exit 0, ⟨[.str], []⟩)]⟩
abbrev P33_58 : Type := (List (Int × (Int × Unit))) × Int × ByteArray
abbrev R33_58 : Type := ((ByteArray) ⊕ (ByteArray))
noncomputable def B33_58 (N : Nat) (f : P33_58 → Option R33_58) : P33_58 → Option R33_58
  | (x0, x1, x2) =>
  iteP (decide (x1 < (10 : Int))) (
    iteP (within x1 (List.length x0)) (
      Option.bind (x0[Int.toNat x1]?) fun y0 =>
      Option.bind (F48 N (y0.1, y0.2.1)) fun y1 =>
      iteP (y1.2 != (0 : Int)) (
        some (.inl (ByteArray.mk #[]))) (
        iteP (decide ((↑(ByteArray.size x2 + ByteArray.size y1.1) : Int) > (9223372036854775807 : Int))) (
          none ) (
          Option.bind (f (x0, IntKind.wrap IntKind.i64 (x1 + (1 : Int)), x2 ++ y1.1)) fun r => match r with | .inl y => some (.inl y) | .inr y => some (.inr y)))) (
      none )) (
    some (.inr (x2)))
noncomputable def F33_58 (N : Nat) : Nat → P33_58 → Option R33_58
  | 0, _ => none
  | k + 1, x => B33_58 N (F33_58 N k) x
noncomputable def C33_58 (N : Nat) (k : Nat) : Cut := L33_58.cut (F33_58 N k)
theorem C33_58_ok (N : Nat) (k : Nat) : CutAt Tryz.prog false Tryz.f33 [] 58 (C33_58 N k) :=
  L33_58.loopT ownT mix (tab33_ok N) Tryz.f33 [] (cuts := []) trivial (by decide +kernel) (by kernel_rfl) (B33_58 N) (F33_58 N) (fun _ => rfl) (fun _ _ => rfl) (fun f x => by kernel_rfl) k
@[reducible] def w33 : List SP := [⟨[.str], []⟩]
noncomputable def F33 (N : Nat) : (Int × Int × Bool × Bool × Int × Int × Int × Int × Int × Int) → Option (ByteArray)
  | (x0, x1, x2, x3, x4, x5, x6, x7, x8, x9) =>
  Option.bind (F50 N x2) fun y0 =>
  Option.bind (F50 N x3) fun y1 =>
  Option.bind (F33_58 N N ([((1 : Int), x0, ()), ((1 : Int), x1, ()), ((1 : Int), y0, ()), ((1 : Int), y1, ()), ((2 : Int), x4, ()), ((2 : Int), x5, ()), ((2 : Int), x6, ()), ((1 : Int), x7, ()), ((1 : Int), x8, ()), ((1 : Int), x9, ())], (0 : Int), ByteArray.mk #[])) fun y2 =>
  match y2 with
  | .inl y3 =>
    some (y3)
  | .inr y3 =>
    iteP (decide ((↑(ByteArray.size y3 + (3 : Nat)) : Int) > (9223372036854775807 : Int))) (
      none ) (
      some (y3 ++ ByteArray.mk #[(0 : UInt8), (0 : UInt8), (0 : UInt8)]))
noncomputable def T33 (N : Nat) : Pk → Tr Pk := tellS s33 w33 (F33 N)
theorem T33_ok (N : Nat) : FOK Tryz.prog (33) (T33 N) :=
  (fn_ok2 ownT mix (tab33_ok N) Tryz.func33 s33 w33 [] (cuts := [(58, C33_58 N N)]) ⟨C33_58_ok N N, trivial⟩ (fun _ => by kernel_rfl) (by decide +kernel) (F33 N) (fun x => by kernel_rfl))
@[reducible] def s37a : SP := ⟨[.adr 0 [], .int .i64, .ro (.int .i64)], [.var 95 (.agg [.agg [.adr 0 [.f 0 0], .sl 1], .int .i64]), .row (.int .u8) 5]⟩
noncomputable def tab37a (N : Nat) : List (Nat × (Pk → Tr Pk)) := [(48, T48 N), (39, T39a N), (32, T32a N)]
theorem tab37a_ok (N : Nat) : TabOK Tryz.prog (tab37a N) := ⟨T48_ok N, T39a_ok N, T32a_ok N, trivial⟩
@[reducible] def L37a_6 : LD := ⟨6, [12, 11, 10, 1, 0], [(.exit 0, [])], ⟨[.int .i64, .int .i64, .ro (.int .i64), .int .i64, .adr 0 []], [.var 95 (.agg [.agg [.adr 0 [.f 0 0], .sl 1], .int .i64]), .row (.int .u8) 5]⟩, [(.exit 0, ⟨[], [.var 95 (.agg [.agg [.adr 0 [.f 0 0], .sl 1], .int .i64]), .row (.int .u8) 5]⟩)]⟩
abbrev P37a_6 : Type := Int × Int × (List Int) × Int × Int × (List Int)
abbrev R37a_6 : Type := Int × (List Int)
noncomputable def B37a_6 (N : Nat) (f : P37a_6 → Option R37a_6) : P37a_6 → Option R37a_6
  | (x0, x1, x2, x3, x4, x5) =>
  iteP (decide (x0 < x1)) (
    iteP (within x0 (List.length x2)) (
      Option.bind (x2[Int.toNat x0]?) fun y0 =>
      Option.bind (F48 N (x3, y0)) fun y1 =>
      Option.bind (F39a N (y1.2 == (0 : Int), (1 : Int), x4, x5)) fun y2 =>
      Option.bind (F32a N (y1.1, y2.1, y2.2)) fun y3 =>
      Option.bind (f (IntKind.wrap IntKind.i64 (x0 + (1 : Int)), x1, x2, x3, y3.2.1, y3.2.2)) fun r => some r) (
      none )) (
    some ((x4, x5)))
noncomputable def F37a_6 (N : Nat) : Nat → P37a_6 → Option R37a_6
  | 0, _ => none
  | k + 1, x => B37a_6 N (F37a_6 N k) x
noncomputable def C37a_6 (N : Nat) (k : Nat) : Cut := L37a_6.cut (F37a_6 N k)
theorem C37a_6_ok (N : Nat) (k : Nat) : CutAt Tryz.prog false Tryz.f37 [0, 0] 6 (C37a_6 N k) :=
  L37a_6.loopT ownT mix (tab37a_ok N) Tryz.f37 [0, 0] (cuts := []) trivial (by decide +kernel) (by kernel_rfl) (B37a_6 N) (F37a_6 N) (fun _ => rfl) (fun _ _ => rfl) (fun f x => by kernel_rfl) k
@[reducible] def w37a : List SP := [⟨[.tup []], [.var 95 (.agg [.agg [.adr 0 [.f 0 0], .sl 1], .int .i64]), .row (.int .u8) 5]⟩]
noncomputable def F37a (N : Nat) : (Int × (List Int) × Int × (List Int)) → Option (Int × (List Int))
  | (x0, x1, x2, x3) =>
  Option.bind (F37a_6 N N ((0 : Int), (↑(List.length x1) : Int), x1, x0, x2, x3)) fun y0 =>
  some ((y0.1, y0.2))
noncomputable def T37a (N : Nat) : Pk → Tr Pk := tellS s37a w37a (F37a N)
theorem T37a_ok (N : Nat) : FOK Tryz.prog (37) (T37a N) :=
  (fn_ok2 ownT mix (tab37a_ok N) Tryz.func37 s37a w37a [0, 0] (cuts := [(6, C37a_6 N N)]) ⟨C37a_6_ok N N, trivial⟩ (fun _ => by kernel_rfl) (by decide +kernel) (F37a N) (fun x => by kernel_rfl))
@[reducible] def s38 : SP := ⟨[.adr 0 [], .str], [.var 95 (.agg [.agg [.adr 0 [.f 0 0], .sl 1], .int .i64]), .row (.int .u8) 5]⟩
noncomputable def tab38 (N : Nat) : List (Nat × (Pk → Tr Pk)) := [(39, T39a N), (37, T37a N), (32, T32a N)]
theorem tab38_ok (N : Nat) : TabOK Tryz.prog (tab38 N) := ⟨T39a_ok N, T37a_ok N, T32a_ok N, trivial⟩
@[reducible] def w38 : List SP := [⟨[.tup []], [.var 95 (.agg [.agg [.adr 0 [.f 0 0], .sl 1], .int .i64]), .row (.int .u8) 5]⟩]
noncomputable def F38 (N : Nat) : (ByteArray × Int × (List Int)) → Option (Int × (List Int))
  | (x0, x1, x2) =>
  Option.bind (F39a N (decide ((↑(ByteArray.size x0) : Int) ≤ (4096 : Int)), (1 : Int), x1, x2)) fun y0 =>
  Option.bind (F37a N ((4 : Int), [(↑(ByteArray.size x0) : Int)], y0.1, y0.2)) fun y1 =>
  Option.bind (F32a N (x0, y1.1, y1.2)) fun y2 =>
  some ((y2.2.1, y2.2.2))
noncomputable def T38 (N : Nat) : Pk → Tr Pk := tellS s38 w38 (F38 N)
theorem T38_ok (N : Nat) : FOK Tryz.prog (38) (T38 N) :=
  (fn_ok2 ownT mix (tab38_ok N) Tryz.func38 s38 w38 [0, 0] (cuts := []) trivial (fun _ => by kernel_rfl) (by decide +kernel) (F38 N) (fun x => by kernel_rfl))
@[reducible] def s40 : SP := ⟨[.adr 0 []], [.var 95 (.agg [.agg [.adr 0 [.f 0 0], .sl 1], .int .i64]), .row (.int .u8) 5]⟩
noncomputable def tab40 (N : Nat) : List (Nat × (Pk → Tr Pk)) := []
theorem tab40_ok (N : Nat) : TabOK Tryz.prog (tab40 N) := trivial
@[reducible] def w40 : List SP := [⟨[.tup [.str, .int .i64]], [.var 95 (.agg [.agg [.adr 0 [.f 0 0], .sl 1], .int .i64]), .row (.int .u8) 5]⟩, ⟨[.tup [.str, .int .i64]], [.var 95 (.agg [.agg [.adr 0 [.f 0 0], .ro (.int .u8)], .int .i64])]⟩]
noncomputable def F40 (N : Nat) : (Int × (List Int)) → Option (((ByteArray × Int × Int × (List Int)) ⊕ (ByteArray × Int × (List Int) × Int)))
  | (x0, x1) =>
  iteP (x0 != (0 : Int)) (
    some (.inl ((ByteArray.mk #[], x0, x0, x1)))) (
    iteP (decide ((0 : Nat) < List.length x1 ∧ List.length x1 ≤ (140737488355328 : Nat))) (
      some (.inr ((stringOf x1, (0 : Int), x1, x0)))) (
      iteP (decide (List.length x1 = (0 : Nat))) (
        some (.inl ((ByteArray.empty, (0 : Int), x0, x1)))) (
        none )))
noncomputable def T40 (N : Nat) : Pk → Tr Pk := tellS s40 w40 (F40 N)
theorem T40_ok (N : Nat) : FOK Tryz.prog (40) (T40 N) :=
  (fn_ok2 ownT mix (tab40_ok N) Tryz.func40 s40 w40 [0, 0] (cuts := []) trivial (fun _ => by kernel_rfl) (by decide +kernel) (F40 N) (fun x => by kernel_rfl))
@[reducible] def s30 : SP := ⟨[.agg [.int .i64, .int .i64, .agg [.int .i64, .int .i64, .bool, .bool, .int .i64, .int .i64, .int .i64, .int .i64, .int .i64, .int .i64], .str]], []⟩
noncomputable def tab30 (N : Nat) : List (Nat × (Pk → Tr Pk)) := [(6, T6 N), (39, T39 N), (37, T37 N), (33, T33 N), (32, orT s32a.I (T32a N) (T32 N)), (38, T38 N), (40, T40 N)]
theorem tab30_ok (N : Nat) : TabOK Tryz.prog (tab30 N) := ⟨T6_ok N, T39_ok N, T37_ok N, T33_ok N, orT_ok (T32a_ok N) (T32_ok N), T38_ok N, T40_ok N, trivial⟩
@[reducible] def w30 : List SP := [⟨[.tup [.str, .int .i64]], []⟩]
noncomputable def F30 (N : Nat) : (Int × Int × Int × Int × Bool × Bool × Int × Int × Int × Int × Int × Int × ByteArray) → Option (ByteArray × Int)
  | (x0, x1, x2, x3, x4, x5, x6, x7, x8, x9, x10, x11, x12) =>
  Option.bind (F6 N (x2, x3, x4, x5, x6, x7, x8, x9, x10, x11)) fun y0 =>
  Option.bind (F39 N (y0, (130 : Int), (0 : Int), [])) fun y1 =>
  iteP (x0 != (0 : Int)) (
    Option.bind (F39 N (x1 != (0 : Int), (1 : Int), y1.1, y1.2)) fun y2 =>
    Option.bind (F37 N ((2 : Int), [x0, x1], y2.1, y2.2)) fun y3 =>
    match y3 with
    | .inl y4 =>
      Option.bind (F33 N (x2, x3, x4, x5, x6, x7, x8, x9, x10, x11)) fun y5 =>
      Option.bind (F32a N (y5, y4.1, y4.2)) fun y6 =>
      Option.bind (F38 N (x12, y6.2.1, y6.2.2)) fun y7 =>
      Option.bind (F40 N (y7.1, y7.2)) fun y8 =>
      match y8 with
      | .inl y9 =>
        some ((y9.1, y9.2.1))
      | .inr y9 =>
        some ((y9.1, y9.2.1))
    | .inr y4 =>
      Option.bind (F33 N (x2, x3, x4, x5, x6, x7, x8, x9, x10, x11)) fun y10 =>
      Option.bind (F32 N (y10, y4.1, y4.2)) fun y11 =>
      Option.bind (F38 N (x12, y11.2.1, y11.2.2)) fun y12 =>
      Option.bind (F40 N (y12.1, y12.2)) fun y13 =>
      match y13 with
      | .inl y14 =>
        some ((y14.1, y14.2.1))
      | .inr y14 =>
        some ((y14.1, y14.2.1))) (
    Option.bind (F39 N (false, (1 : Int), y1.1, y1.2)) fun y15 =>
    Option.bind (F37 N ((2 : Int), [x0, x1], y15.1, y15.2)) fun y16 =>
    match y16 with
    | .inl y17 =>
      Option.bind (F33 N (x2, x3, x4, x5, x6, x7, x8, x9, x10, x11)) fun y18 =>
      Option.bind (F32a N (y18, y17.1, y17.2)) fun y19 =>
      Option.bind (F38 N (x12, y19.2.1, y19.2.2)) fun y20 =>
      Option.bind (F40 N (y20.1, y20.2)) fun y21 =>
      match y21 with
      | .inl y22 =>
        some ((y22.1, y22.2.1))
      | .inr y22 =>
        some ((y22.1, y22.2.1))
    | .inr y17 =>
      Option.bind (F33 N (x2, x3, x4, x5, x6, x7, x8, x9, x10, x11)) fun y23 =>
      Option.bind (F32 N (y23, y17.1, y17.2)) fun y24 =>
      Option.bind (F38 N (x12, y24.2.1, y24.2.2)) fun y25 =>
      Option.bind (F40 N (y25.1, y25.2)) fun y26 =>
      match y26 with
      | .inl y27 =>
        some ((y27.1, y27.2.1))
      | .inr y27 =>
        some ((y27.1, y27.2.1)))
noncomputable def T30 (N : Nat) : Pk → Tr Pk := tellS s30 w30 (F30 N)
theorem T30_ok (N : Nat) : FOK Tryz.prog (30) (T30 N) :=
  (fn_ok2 ownT mix (tab30_ok N) Tryz.func30 s30 w30 [] (cuts := []) trivial (fun _ => by kernel_rfl) (by decide +kernel) (F30 N) (fun x => by kernel_rfl))
@[reducible] def s9 : SP := ⟨[.int .i64, .int .i64, .agg [.int .i64, .int .i64, .bool, .bool, .int .i64, .int .i64, .int .i64, .int .i64, .int .i64, .int .i64]], []⟩
noncomputable def tab9 (N : Nat) : List (Nat × (Pk → Tr Pk)) := [(30, T30 N)]
theorem tab9_ok (N : Nat) : TabOK Tryz.prog (tab9 N) := ⟨T30_ok N, trivial⟩
@[reducible] def w9 : List SP := [⟨[.str], []⟩]
noncomputable def F9 (N : Nat) : (Int × Int × Int × Int × Bool × Bool × Int × Int × Int × Int × Int × Int) → Option (ByteArray)
  | (x0, x1, x2, x3, x4, x5, x6, x7, x8, x9, x10, x11) =>
  Option.bind (F30 N (x0, x1, x2, x3, x4, x5, x6, x7, x8, x9, x10, x11, ByteArray.mk #[(120 : UInt8)])) fun y0 =>
  iteP (decide ((↑((18 : Nat) + ByteArray.size y0.1) : Int) > (9223372036854775807 : Int))) (
    none ) (
    some (ByteArray.mk #[(82 : UInt8), (70 : UInt8), (66 : UInt8), (32 : UInt8), (48 : UInt8), (48 : UInt8), (51 : UInt8), (46 : UInt8), (48 : UInt8), (48 : UInt8), (56 : UInt8), (10 : UInt8), (1 : UInt8), (1 : UInt8), (0 : UInt8), (0 : UInt8), (0 : UInt8), (0 : UInt8)] ++ y0.1))
noncomputable def T9 (N : Nat) : Pk → Tr Pk := tellS s9 w9 (F9 N)
theorem T9_ok (N : Nat) : FOK Tryz.prog (9) (T9 N) :=
  (fn_ok2 ownT mix (tab9_ok N) Tryz.func9 s9 w9 [] (cuts := []) trivial (fun _ => by kernel_rfl) (by decide +kernel) (F9 N) (fun x => by kernel_rfl))
@[reducible] def s63 : SP := ⟨[.str, .str], []⟩
noncomputable def tab63 (N : Nat) : List (Nat × (Pk → Tr Pk)) := []
theorem tab63_ok (N : Nat) : TabOK Tryz.prog (tab63 N) := trivial
@[reducible] def w63 : List SP := [⟨[.bool], []⟩]
noncomputable def F63 (N : Nat) : (ByteArray × ByteArray) → Option (Bool)
  | (x0, x1) =>
  iteP (decide ((↑(ByteArray.size x0) : Int) ≥ (↑(ByteArray.size x1) : Int))) (
    iteP (decide ((0 : Int) ≤ (↑(ByteArray.size x1) : Int) ∧ (↑(ByteArray.size x1) : Int) ≤ (↑(ByteArray.size x0) : Int))) (
      some (ByteArray.toList (ByteArray.extract x0 (0 : Nat) (Int.toNat (↑(ByteArray.size x1) : Int))) == ByteArray.toList x1)) (
      none )) (
    some (false))
noncomputable def T63 (N : Nat) : Pk → Tr Pk := tellS s63 w63 (F63 N)
theorem T63_ok (N : Nat) : FOK Tryz.prog (63) (T63 N) :=
  (fn_ok2 ownT mix (tab63_ok N) Tryz.func63 s63 w63 [] (cuts := []) trivial (fun _ => by kernel_rfl) (by decide +kernel) (F63 N) (fun x => by kernel_rfl))
@[reducible] def s56 : SP := ⟨[.str, .str], []⟩
noncomputable def tab56 (N : Nat) : List (Nat × (Pk → Tr Pk)) := [(63, T63 N)]
theorem tab56_ok (N : Nat) : TabOK Tryz.prog (tab56 N) := ⟨T63_ok N, trivial⟩
@[reducible] def w56 : List SP := [⟨[.bool], []⟩]
noncomputable def F56 (N : Nat) : (ByteArray × ByteArray) → Option (Bool)
  | (x0, x1) =>
  Option.bind (F63 N (x0, x1)) fun y0 =>
  some (y0)
noncomputable def T56 (N : Nat) : Pk → Tr Pk := tellS s56 w56 (F56 N)
theorem T56_ok (N : Nat) : FOK Tryz.prog (56) (T56 N) :=
  (fn_ok2 ownT mix (tab56_ok N) Tryz.func56 s56 w56 [] (cuts := []) trivial (fun _ => by kernel_rfl) (by decide +kernel) (F56 N) (fun x => by kernel_rfl))
@[reducible] def s45 : SP := ⟨[.str], []⟩
noncomputable def tab45 (N : Nat) : List (Nat × (Pk → Tr Pk)) := [(56, T56 N)]
theorem tab45_ok (N : Nat) : TabOK Tryz.prog (tab45 N) := ⟨T56_ok N, trivial⟩
@[reducible] def w45 : List SP := [⟨[.tup [.int .i64, .int .i64]], []⟩]
noncomputable def F45 (N : Nat) : (ByteArray) → Option (Int × Int)
  | x0 =>
  Option.bind (F56 N (x0, ByteArray.mk #[(82 : UInt8), (70 : UInt8), (66 : UInt8), (32 : UInt8), (48 : UInt8), (48 : UInt8), (51 : UInt8), (46 : UInt8), (48 : UInt8), (48 : UInt8), (56 : UInt8), (10 : UInt8)])) fun y0 =>
  iteP (y0) (
    some (((12 : Int), (0 : Int)))) (
    Option.bind (F56 N (ByteArray.mk #[(82 : UInt8), (70 : UInt8), (66 : UInt8), (32 : UInt8), (48 : UInt8), (48 : UInt8), (51 : UInt8), (46 : UInt8), (48 : UInt8), (48 : UInt8), (56 : UInt8), (10 : UInt8)], x0)) fun y1 =>
    iteP (y1) (
      some (((0 : Int), (2 : Int)))) (
      some (((0 : Int), (220 : Int)))))
noncomputable def T45 (N : Nat) : Pk → Tr Pk := tellS s45 w45 (F45 N)
theorem T45_ok (N : Nat) : FOK Tryz.prog (45) (T45 N) :=
  (fn_ok2 ownT mix (tab45_ok N) Tryz.func45 s45 w45 [] (cuts := []) trivial (fun _ => by kernel_rfl) (by decide +kernel) (F45 N) (fun x => by kernel_rfl))
@[reducible] def s29 : SP := ⟨[.adr 0 []], [.var 74 (.agg [.nilp, .str, .str, .fv, .int .i64, .agg [.sl 1], .agg [.agg [.agg [.agg [.bool, .str], .int .i64]]], .agg [.int .i64, .int .i64, .bool, .bool, .int .i64, .int .i64, .int .i64, .int .i64, .int .i64, .int .i64], .int .i64, .int .i64, .int .i64]), .row y0 38]⟩
noncomputable def tab29 (N : Nat) : List (Nat × (Pk → Tr Pk)) := [(45, T45 N)]
theorem tab29_ok (N : Nat) : TabOK Tryz.prog (tab29 N) := ⟨T45_ok N, trivial⟩
@[reducible] def w29 : List SP := [⟨[.tup [.int .i64, .int .i64]], [.var 74 (.agg [.nilp, .str, .str, .fv, .int .i64, .agg [.sl 1], .agg [.agg [.agg [.agg [.bool, .str], .int .i64]]], .agg [.int .i64, .int .i64, .bool, .bool, .int .i64, .int .i64, .int .i64, .int .i64, .int .i64, .int .i64], .int .i64, .int .i64, .int .i64]), .row y0 38]⟩]
noncomputable def F29 (N : Nat) : (ByteArray × ByteArray × Nat × Int × Bool × ByteArray × Int × Int × Int × Bool × Bool × Int × Int × Int × Int × Int × Int × Int × Int × Int × (List (Int × (Bool × (Int × ((Int × (Int × (Int × (Int × Unit)))) × ((Int × (Int × (Bool × (Bool × (Int × (Int × (Int × (Int × (Int × (Int × Unit)))))))))) × ((List Int) × (ByteArray × Unit))))))))) → Option (Int × Int × ByteArray × ByteArray × Nat × Int × Bool × ByteArray × Int × Int × Int × Bool × Bool × Int × Int × Int × Int × Int × Int × Int × Int × Int × (List (Int × (Bool × (Int × ((Int × (Int × (Int × (Int × Unit)))) × ((Int × (Int × (Bool × (Bool × (Int × (Int × (Int × (Int × (Int × (Int × Unit)))))))))) × ((List Int) × (ByteArray × Unit)))))))))
  | (x0, x1, x2, x3, x4, x5, x6, x7, x8, x9, x10, x11, x12, x13, x14, x15, x16, x17, x18, x19, x20) =>
  Option.bind (F45 N x0) fun y0 =>
  iteP (y0.2 == (0 : Int)) (
    iteP (decide ((↑(ByteArray.size x1 + (12 : Nat)) : Int) > (9223372036854775807 : Int))) (
      none ) (
      some ((y0.1, y0.2, x0, x1 ++ ByteArray.mk #[(82 : UInt8), (70 : UInt8), (66 : UInt8), (32 : UInt8), (48 : UInt8), (48 : UInt8), (51 : UInt8), (46 : UInt8), (48 : UInt8), (48 : UInt8), (56 : UInt8), (10 : UInt8)], (46 : Nat), x3, x4, x5, x6, x7, x8, x9, x10, x11, x12, x13, x14, x15, x16, x17, x18, x19, x20)))) (
    some ((y0.1, y0.2, x0, x1, x2, x3, x4, x5, x6, x7, x8, x9, x10, x11, x12, x13, x14, x15, x16, x17, x18, x19, x20)))
noncomputable def T29 (N : Nat) : Pk → Tr Pk := tellS s29 w29 (F29 N)
theorem T29_ok (N : Nat) : FOK Tryz.prog (29) (T29 N) :=
  (fn_ok2 ownT mix (tab29_ok N) Tryz.func29 s29 w29 [0] (cuts := []) trivial (fun _ => by kernel_rfl) (by decide +kernel) (F29 N) (fun x => by kernel_rfl))
@[reducible] def s74 : SP := ⟨[.str], []⟩
noncomputable def tab74 (N : Nat) : List (Nat × (Pk → Tr Pk)) := []
theorem tab74_ok (N : Nat) : TabOK Tryz.prog (tab74 N) := trivial
@[reducible] def w74 : List SP := [⟨[.adr 0 []], [.var 142 (.agg [.str, .int .i64, .int .i64])]⟩]
noncomputable def F74 (N : Nat) : (ByteArray) → Option (ByteArray × Int × Int)
  | x0 =>
  some ((x0, (0 : Int), (0 : Int)))
noncomputable def T74 (N : Nat) : Pk → Tr Pk := tellS s74 w74 (F74 N)
theorem T74_ok (N : Nat) : FOK Tryz.prog (74) (T74 N) :=
  (fn_ok2 ownT mix (tab74_ok N) Tryz.func74 s74 w74 [] (cuts := []) trivial (fun _ => by kernel_rfl) (by decide +kernel) (F74 N) (fun x => by kernel_rfl))
@[reducible] def s84 : SP := ⟨[.adr 0 [], .int .i64], [.var 142 (.agg [.str, .int .i64, .int .i64])]⟩
noncomputable def tab84 (N : Nat) : List (Nat × (Pk → Tr Pk)) := []
theorem tab84_ok (N : Nat) : TabOK Tryz.prog (tab84 N) := trivial
@[reducible] def w84 : List SP := [⟨[.tup []], [.var 142 (.agg [.str, .int .i64, .int .i64])]⟩]
noncomputable def F84 (N : Nat) : (Int × ByteArray × Int × Int) → Option (ByteArray × Int × Int)
  | (x0, x1, x2, x3) =>
  iteP (x3 == (0 : Int)) (
    some ((x1, x2, x0))) (
    some ((x1, x2, x3)))
noncomputable def T84 (N : Nat) : Pk → Tr Pk := tellS s84 w84 (F84 N)
theorem T84_ok (N : Nat) : FOK Tryz.prog (84) (T84 N) :=
  (fn_ok2 ownT mix (tab84_ok N) Tryz.func84 s84 w84 [0] (cuts := []) trivial (fun _ => by kernel_rfl) (by decide +kernel) (F84 N) (fun x => by kernel_rfl))
@[reducible] def y2 : Ty := (.cons .str (.cons (.int .i64) (.cons (.int .i64) .unit)))
@[reducible] def s85 : SP := ⟨[.radr y2 [.i 0 3]], []⟩
noncomputable def tab85 (N : Nat) : List (Nat × (Pk → Tr Pk)) := []
theorem tab85_ok (N : Nat) : TabOK Tryz.prog (tab85 N) := trivial
@[reducible] def w85 : List SP := [⟨[.int .i64], []⟩]
noncomputable def F85 (N : Nat) : ((ByteArray × (Int × (Int × Unit)))) → Option (Int)
  | x0 =>
  some (IntKind.wrap IntKind.i64 ((↑(ByteArray.size x0.1) : Int) - x0.2.1))
noncomputable def T85 (N : Nat) : Pk → Tr Pk := tellS s85 w85 (F85 N)
theorem T85_ok (N : Nat) : FOK Tryz.prog (85) (T85 N) :=
  (fn_ok2 ownT mix (tab85_ok N) Tryz.func85 s85 w85 [] (cuts := []) trivial (fun _ => by kernel_rfl) (by decide +kernel) (F85 N) (fun x => by kernel_rfl))
@[reducible] def s78 : SP := ⟨[.adr 0 [], .int .i64], [.var 142 (.agg [.str, .int .i64, .int .i64])]⟩
noncomputable def tab78 (N : Nat) : List (Nat × (Pk → Tr Pk)) := [(84, T84 N), (85, T85 N)]
theorem tab78_ok (N : Nat) : TabOK Tryz.prog (tab78 N) := ⟨T84_ok N, T85_ok N, trivial⟩
@[reducible] def w78 : List SP := [⟨[.str], [.var 142 (.agg [.str, .int .i64, .int .i64])]⟩]
noncomputable def F78 (N : Nat) : (Int × ByteArray × Int × Int) → Option (ByteArray × ByteArray × Int × Int)
  | (x0, x1, x2, x3) =>
  iteP (decide (x0 < (0 : Int))) (
    Option.bind (F84 N ((1 : Int), x1, x2, x3)) fun y0 =>
    iteP (y0.2.2 != (0 : Int)) (
      some ((ByteArray.mk #[], y0.1, y0.2.1, y0.2.2))) (
      iteP (decide ((0 : Int) ≤ IntKind.wrap IntKind.i64 (y0.2.1 + x0) ∧ IntKind.wrap IntKind.i64 (y0.2.1 + x0) ≤ (↑(ByteArray.size y0.1) : Int))) (
        iteP (decide ((0 : Int) ≤ IntKind.wrap IntKind.i64 (IntKind.wrap IntKind.i64 (y0.2.1 + x0) - x0) ∧ IntKind.wrap IntKind.i64 (IntKind.wrap IntKind.i64 (y0.2.1 + x0) - x0) ≤ (↑(Int.toNat (IntKind.wrap IntKind.i64 (y0.2.1 + x0))) : Int))) (
          some ((ByteArray.extract y0.1 (Int.toNat (IntKind.wrap IntKind.i64 (IntKind.wrap IntKind.i64 (y0.2.1 + x0) - x0))) (Int.toNat (IntKind.wrap IntKind.i64 (y0.2.1 + x0))), y0.1, IntKind.wrap IntKind.i64 (y0.2.1 + x0), y0.2.2))) (
          none )) (
        none ))) (
    Option.bind (F85 N (x1, x2, x3, ())) fun y1 =>
    iteP (decide (x0 > y1)) (
      Option.bind (F84 N ((2 : Int), x1, x2, x3)) fun y2 =>
      iteP (y2.2.2 != (0 : Int)) (
        some ((ByteArray.mk #[], y2.1, y2.2.1, y2.2.2))) (
        iteP (decide ((0 : Int) ≤ IntKind.wrap IntKind.i64 (y2.2.1 + x0) ∧ IntKind.wrap IntKind.i64 (y2.2.1 + x0) ≤ (↑(ByteArray.size y2.1) : Int))) (
          iteP (decide ((0 : Int) ≤ IntKind.wrap IntKind.i64 (IntKind.wrap IntKind.i64 (y2.2.1 + x0) - x0) ∧ IntKind.wrap IntKind.i64 (IntKind.wrap IntKind.i64 (y2.2.1 + x0) - x0) ≤ (↑(Int.toNat (IntKind.wrap IntKind.i64 (y2.2.1 + x0))) : Int))) (
            some ((ByteArray.extract y2.1 (Int.toNat (IntKind.wrap IntKind.i64 (IntKind.wrap IntKind.i64 (y2.2.1 + x0) - x0))) (Int.toNat (IntKind.wrap IntKind.i64 (y2.2.1 + x0))), y2.1, IntKind.wrap IntKind.i64 (y2.2.1 + x0), y2.2.2))) (
            none )) (
          none ))) (
      iteP (x3 != (0 : Int)) (
        some ((ByteArray.mk #[], x1, x2, x3))) (
        iteP (decide ((0 : Int) ≤ IntKind.wrap IntKind.i64 (x2 + x0) ∧ IntKind.wrap IntKind.i64 (x2 + x0) ≤ (↑(ByteArray.size x1) : Int))) (
          iteP (decide ((0 : Int) ≤ IntKind.wrap IntKind.i64 (IntKind.wrap IntKind.i64 (x2 + x0) - x0) ∧ IntKind.wrap IntKind.i64 (IntKind.wrap IntKind.i64 (x2 + x0) - x0) ≤ (↑(Int.toNat (IntKind.wrap IntKind.i64 (x2 + x0))) : Int))) (
            some ((ByteArray.extract x1 (Int.toNat (IntKind.wrap IntKind.i64 (IntKind.wrap IntKind.i64 (x2 + x0) - x0))) (Int.toNat (IntKind.wrap IntKind.i64 (x2 + x0))), x1, IntKind.wrap IntKind.i64 (x2 + x0), x3))) (
            none )) (
          none ))))
noncomputable def T78 (N : Nat) : Pk → Tr Pk := tellS s78 w78 (F78 N)
theorem T78_ok (N : Nat) : FOK Tryz.prog (78) (T78 N) :=
  (fn_ok2 ownT mix (tab78_ok N) Tryz.func78 s78 w78 [0] (cuts := []) trivial (fun _ => by kernel_rfl) (by decide +kernel) (F78 N) (fun x => by kernel_rfl))
@[reducible] def s76 : SP := ⟨[.adr 0 [], .int .i64, .fn 61], [.var 142 (.agg [.str, .int .i64, .int .i64])]⟩
noncomputable def tab76 (N : Nat) : List (Nat × (Pk → Tr Pk)) := [(72, T72 N), (84, T84 N), (78, T78 N), (61, T61 N)]
theorem tab76_ok (N : Nat) : TabOK Tryz.prog (tab76 N) := ⟨T72_ok N, T84_ok N, T78_ok N, T61_ok N, trivial⟩
@[reducible] def L76_122 : LD := ⟨122, [7, 22, 21, 20], [(.ret, [6]), (.exit 0, [7])], ⟨[.int .i64, .int .i64, .int .i64, .sl 1], [.var 142 (.agg [.str, .int .i64, .int .i64]), .row (.int .u8) 5]⟩, [(.exit 0, ⟨[.int .i64], [.var 142 (.agg [.str, .int .i64, .int .i64])]⟩)]⟩
abbrev P76_122 : Type := Int × Int × Int × ByteArray × Int × Int × (List Int)
abbrev R76_122 : Type := Int × ByteArray × Int × Int
noncomputable def B76_122 (N : Nat) (f : P76_122 → Option R76_122) : P76_122 → Option R76_122
  | (x0, x1, x2, x3, x4, x5, x6) =>
  iteP (decide (x1 < x2)) (
    iteP (within x1 (List.length x6)) (
      Option.bind (x6[Int.toNat x1]?) fun y0 =>
      iteP (decide (IntKind.wrap IntKind.i64 ((8 : Int) * x1) < (0 : Int))) (
        none ) (
        Option.bind (f (IntKind.wrap IntKind.i64 (↑(BitVec.toNat (BitVec.ofInt (64 : Nat) x0 ||| BitVec.ofInt (64 : Nat) (IntKind.wrap IntKind.i64 (IntKind.wrap IntKind.i64 y0 * (2 : Int) ^ min (Int.toNat (IntKind.wrap IntKind.i64 ((8 : Int) * x1))) (64 : Nat))))) : Int), IntKind.wrap IntKind.i64 (x1 + (1 : Int)), x2, x3, x4, x5, x6)) fun r => some r)) (
      none )) (
    some ((x0, x3, x4, x5)))
noncomputable def F76_122 (N : Nat) : Nat → P76_122 → Option R76_122
  | 0, _ => none
  | k + 1, x => B76_122 N (F76_122 N k) x
noncomputable def C76_122 (N : Nat) (k : Nat) : Cut := L76_122.cut (F76_122 N k)
theorem C76_122_ok (N : Nat) (k : Nat) : CutAt Tryz.prog false Tryz.f76 [0] 122 (C76_122 N k) :=
  L76_122.loopT ownT mix (tab76_ok N) Tryz.f76 [0] (cuts := []) trivial (by decide +kernel) (by kernel_rfl) (B76_122 N) (F76_122 N) (fun _ => rfl) (fun _ _ => rfl) (fun f x => by kernel_rfl) k
@[reducible] def w76 : List SP := [⟨[.int .i64], [.var 142 (.agg [.str, .int .i64, .int .i64])]⟩]
noncomputable def F76 (N : Nat) : (Int × ByteArray × Int × Int) → Option (Int × ByteArray × Int × Int)
  | (x0, x1, x2, x3) =>
  Option.bind (F72 N x0) fun y0 =>
  iteP (!y0) (
    Option.bind (F84 N ((1 : Int), x1, x2, x3)) fun y1 =>
    Option.bind (F78 N (x0, y1.1, y1.2.1, y1.2.2)) fun y2 =>
    Option.bind (F61 N y2.1) fun y3 =>
    iteP (decide (ByteArray.size y3 ≤ (140737488355328 : Nat))) (
      Option.bind (F76_122 N N ((0 : Int), (0 : Int), (↑(List.length (bytesOf y3)) : Int), y2.2.1, y2.2.2.1, y2.2.2.2, bytesOf y3)) fun y4 =>
      some ((y4.1, y4.2.1, y4.2.2.1, y4.2.2.2))) (
      none )) (
    Option.bind (F78 N (x0, x1, x2, x3)) fun y5 =>
    Option.bind (F61 N y5.1) fun y6 =>
    iteP (decide (ByteArray.size y6 ≤ (140737488355328 : Nat))) (
      Option.bind (F76_122 N N ((0 : Int), (0 : Int), (↑(List.length (bytesOf y6)) : Int), y5.2.1, y5.2.2.1, y5.2.2.2, bytesOf y6)) fun y7 =>
      some ((y7.1, y7.2.1, y7.2.2.1, y7.2.2.2))) (
      none ))
noncomputable def T76 (N : Nat) : Pk → Tr Pk := tellS s76 w76 (F76 N)
theorem T76_ok (N : Nat) : FOK Tryz.prog (76) (T76 N) :=
  (fn_ok2 ownT mix (tab76_ok N) Tryz.func76 s76 w76 [0] (cuts := [(122, C76_122 N N)]) ⟨C76_122_ok N N, trivial⟩ (fun _ => by kernel_rfl) (by decide +kernel) (F76 N) (fun x => by kernel_rfl))
@[reducible] def s66 : SP := ⟨[.adr 0 [], .int .i64], [.var 142 (.agg [.str, .int .i64, .int .i64])]⟩
noncomputable def tab66 (N : Nat) : List (Nat × (Pk → Tr Pk)) := [(76, T76 N)]
theorem tab66_ok (N : Nat) : TabOK Tryz.prog (tab66 N) := ⟨T76_ok N, trivial⟩
@[reducible] def w66 : List SP := [⟨[.int .i64], [.var 142 (.agg [.str, .int .i64, .int .i64])]⟩]
noncomputable def F66 (N : Nat) : (Int × ByteArray × Int × Int) → Option (Int × ByteArray × Int × Int)
  | (x0, x1, x2, x3) =>
  Option.bind (F76 N (x0, x1, x2, x3)) fun y0 =>
  some ((y0.1, y0.2.1, y0.2.2.1, y0.2.2.2))
noncomputable def T66 (N : Nat) : Pk → Tr Pk := tellS s66 w66 (F66 N)
theorem T66_ok (N : Nat) : FOK Tryz.prog (66) (T66 N) :=
  (fn_ok2 ownT mix (tab66_ok N) Tryz.func66 s66 w66 [0] (cuts := []) trivial (fun _ => by kernel_rfl) (by decide +kernel) (F66 N) (fun x => by kernel_rfl))
@[reducible] def s67 : SP := ⟨[.radr y2 [.i 0 3]], []⟩
noncomputable def tab67 (N : Nat) : List (Nat × (Pk → Tr Pk)) := []
theorem tab67_ok (N : Nat) : TabOK Tryz.prog (tab67 N) := trivial
@[reducible] def w67 : List SP := [⟨[.int .i64], []⟩]
noncomputable def F67 (N : Nat) : ((ByteArray × (Int × (Int × Unit)))) → Option (Int)
  | x0 =>
  some x0.2.2.1
noncomputable def T67 (N : Nat) : Pk → Tr Pk := tellS s67 w67 (F67 N)
theorem T67_ok (N : Nat) : FOK Tryz.prog (67) (T67 N) :=
  (fn_ok2 ownT mix (tab67_ok N) Tryz.func67 s67 w67 [] (cuts := []) trivial (fun _ => by kernel_rfl) (by decide +kernel) (F67 N) (fun x => by kernel_rfl))
@[reducible] def s77 : SP := ⟨[.adr 0 [], .bool, .int .i64], [.var 133 (.agg [.adr 1 [], .int .i64]), .var 142 (.agg [.str, .int .i64, .int .i64])]⟩
noncomputable def tab77 (N : Nat) : List (Nat × (Pk → Tr Pk)) := [(67, T67 N)]
theorem tab77_ok (N : Nat) : TabOK Tryz.prog (tab77 N) := ⟨T67_ok N, trivial⟩
@[reducible] def w77 : List SP := [⟨[.tup []], [.var 133 (.agg [.adr 1 [], .int .i64]), .var 142 (.agg [.str, .int .i64, .int .i64])]⟩]
noncomputable def F77 (N : Nat) : (Bool × Int × Int × ByteArray × Int × Int) → Option (Int × ByteArray × Int × Int)
  | (x0, x1, x2, x3, x4, x5) =>
  iteP (x0) (
    Option.bind (F67 N (x3, x4, x5, ())) fun y0 =>
    iteP (y0 == (0 : Int)) (
      iteP (x2 == (0 : Int)) (
        some ((x1, x3, x4, x5))) (
        some ((x2, x3, x4, x5)))) (
      some ((x2, x3, x4, x5)))) (
    some ((x2, x3, x4, x5)))
noncomputable def T77 (N : Nat) : Pk → Tr Pk := tellS s77 w77 (F77 N)
theorem T77_ok (N : Nat) : FOK Tryz.prog (77) (T77 N) :=
  (fn_ok2 ownT mix (tab77_ok N) Tryz.func77 s77 w77 [0, 1] (cuts := []) trivial (fun _ => by kernel_rfl) (by decide +kernel) (F77 N) (fun x => by kernel_rfl))
@[reducible] def s68 : SP := ⟨[.adr 0 []], [.var 133 (.agg [.adr 1 [], .int .i64]), .var 142 (.agg [.str, .int .i64, .int .i64])]⟩
noncomputable def tab68 (N : Nat) : List (Nat × (Pk → Tr Pk)) := [(66, T66 N), (77, T77 N), (78, T78 N)]
theorem tab68_ok (N : Nat) : TabOK Tryz.prog (tab68 N) := ⟨T66_ok N, T77_ok N, T78_ok N, trivial⟩
@[reducible] def w68 : List SP := [⟨[.str], [.var 133 (.agg [.adr 1 [], .int .i64]), .var 142 (.agg [.str, .int .i64, .int .i64])]⟩]
noncomputable def F68 (N : Nat) : (Int × ByteArray × Int × Int) → Option (ByteArray × Int × ByteArray × Int × Int)
  | (x0, x1, x2, x3) =>
  Option.bind (F66 N ((4 : Int), x1, x2, x3)) fun y0 =>
  Option.bind (F77 N (decide (y0.1 > (4096 : Int)), (4 : Int), x0, y0.2.1, y0.2.2.1, y0.2.2.2)) fun y1 =>
  iteP (y1.1 != (0 : Int)) (
    some ((ByteArray.mk #[], y1.1, y1.2.1, y1.2.2.1, y1.2.2.2))) (
    Option.bind (F78 N (y0.1, y1.2.1, y1.2.2.1, y1.2.2.2)) fun y2 =>
    some ((y2.1, y1.1, y2.2.1, y2.2.2.1, y2.2.2.2)))
noncomputable def T68 (N : Nat) : Pk → Tr Pk := tellS s68 w68 (F68 N)
theorem T68_ok (N : Nat) : FOK Tryz.prog (68) (T68 N) :=
  (fn_ok2 ownT mix (tab68_ok N) Tryz.func68 s68 w68 [0, 1] (cuts := []) trivial (fun _ => by kernel_rfl) (by decide +kernel) (F68 N) (fun x => by kernel_rfl))
@[reducible] def s65 : SP := ⟨[.adr 0 []], [.var 133 (.agg [.adr 1 [], .int .i64]), .var 142 (.agg [.str, .int .i64, .int .i64])]⟩
noncomputable def tab65 (N : Nat) : List (Nat × (Pk → Tr Pk)) := [(66, T66 N), (67, T67 N), (68, T68 N)]
theorem tab65_ok (N : Nat) : TabOK Tryz.prog (tab65 N) := ⟨T66_ok N, T67_ok N, T68_ok N, trivial⟩
@[reducible] def L65_250 : LD := ⟨250, [24, 23, 2, 0, 3], [(.ret, [2]), (.exit 0, [3, 2])], ⟨[.int .i64, .int .i64, .adr 2 [], .adr 0 [], .adr 3 []], [.var 133 (.agg [.adr 1 [], .int .i64]), .var 142 (.agg [.str, .int .i64, .int .i64]), .var 126 (.agg [.sl 4, .str]), .var 126 (.agg [.sl 5, .str]), .row (.int .i64) 3, .row (.int .i64) 3]⟩, [(.exit 0, ⟨[.adr 2 [], .adr 3 []], [.var 133 (.agg [.adr 1 [], .int .i64]), .var 142 (.agg [.str, .int .i64, .int .i64]), .var 126 (.agg [.sl 4, .str]), .var 126 (.agg [.sl 5, .str]), .row (.int .i64) 3, .row (.int .i64) 3]⟩)]⟩
abbrev P65_250 : Type := Int × Int × Int × ByteArray × Int × Int × ByteArray × ByteArray × (List Int) × (List Int)
abbrev R65_250 : Type := Int × ByteArray × Int × Int × ByteArray × ByteArray × (List Int) × (List Int)
noncomputable def B65_250 (N : Nat) (f : P65_250 → Option R65_250) : P65_250 → Option R65_250
  | (x0, x1, x2, x3, x4, x5, x6, x7, x8, x9) =>
  iteP (decide (x0 < x1)) (
    Option.bind (F66 N ((1 : Int), x3, x4, x5)) fun y0 =>
    iteP (decide ((List.length x9 + List.length [y0.1]) * (8 : Nat) ≤ (140737488355328 : Nat) ∧ List.length x9 + List.length [y0.1] ≤ (140737488355328 : Nat))) (
      Option.bind (f (IntKind.wrap IntKind.i64 (x0 + (1 : Int)), x1, x2, y0.2.1, y0.2.2.1, y0.2.2.2, x6, x7, x8, x9 ++ [y0.1])) fun r => some r) (
      none )) (
    some ((x2, x3, x4, x5, x7, x6, x9, x8)))
noncomputable def F65_250 (N : Nat) : Nat → P65_250 → Option R65_250
  | 0, _ => none
  | k + 1, x => B65_250 N (F65_250 N k) x
noncomputable def C65_250 (N : Nat) (k : Nat) : Cut := L65_250.cut (F65_250 N k)
theorem C65_250_ok (N : Nat) (k : Nat) : CutAt Tryz.prog false Tryz.f65 [0, 1] 250 (C65_250 N k) :=
  L65_250.loopT ownT mix (tab65_ok N) Tryz.f65 [0, 1] (cuts := []) trivial (by decide +kernel) (by kernel_rfl) (B65_250 N) (F65_250 N) (fun _ => rfl) (fun _ _ => rfl) (fun f x => by kernel_rfl) k
@[reducible] def w65 : List SP := [⟨[.agg [.sl 2, .str]], [.var 133 (.agg [.adr 1 [], .int .i64]), .var 142 (.agg [.str, .int .i64, .int .i64]), .row (.int .i64) 3]⟩]
noncomputable def F65 (N : Nat) : (Int × ByteArray × Int × Int) → Option (ByteArray × Int × ByteArray × Int × Int × (List Int))
  | (x0, x1, x2, x3) =>
  Option.bind (F66 N ((1 : Int), x1, x2, x3)) fun y0 =>
  Option.bind (F67 N (y0.2.1, y0.2.2.1, y0.2.2.2, ())) fun y1 =>
  iteP (y1 == (0 : Int)) (
    iteP (y0.1 == (0 : Int)) (
      Option.bind (F68 N (x0, y0.2.1, y0.2.2.1, y0.2.2.2)) fun y2 =>
      Option.bind (F65_250 N N ((0 : Int), y0.1, y2.2.1, y2.2.2.1, y2.2.2.2.1, y2.2.2.2.2, ByteArray.mk #[], y2.1, [], [])) fun (y3_0, y3_1, y3_2, y3_3, y3_4, y3_5, y3_6, y3_7) =>
      some ((y3_4, y3_0, y3_1, y3_2, y3_3, y3_6))) (
      Option.bind (F65_250 N N ((0 : Int), y0.1, x0, y0.2.1, y0.2.2.1, y0.2.2.2, ByteArray.mk #[], ByteArray.mk #[], [], [])) fun (y4_0, y4_1, y4_2, y4_3, y4_4, y4_5, y4_6, y4_7) =>
      some ((y4_4, y4_0, y4_1, y4_2, y4_3, y4_6)))) (
    Option.bind (F65_250 N N ((0 : Int), y0.1, x0, y0.2.1, y0.2.2.1, y0.2.2.2, ByteArray.mk #[], ByteArray.mk #[], [], [])) fun (y5_0, y5_1, y5_2, y5_3, y5_4, y5_5, y5_6, y5_7) =>
    some ((y5_4, y5_0, y5_1, y5_2, y5_3, y5_6)))
noncomputable def T65 (N : Nat) : Pk → Tr Pk := tellS s65 w65 (F65 N)
theorem T65_ok (N : Nat) : FOK Tryz.prog (65) (T65 N) :=
  (fn_ok2 ownT mix (tab65_ok N) Tryz.func65 s65 w65 [0, 1] (cuts := [(250, C65_250 N N)]) ⟨C65_250_ok N N, trivial⟩ (fun _ => by kernel_rfl) (by decide +kernel) (F65 N) (fun x => by kernel_rfl))
@[reducible] def s75 : SP := ⟨[.radr y2 [.i 0 3]], []⟩
noncomputable def tab75 (N : Nat) : List (Nat × (Pk → Tr Pk)) := []
theorem tab75_ok (N : Nat) : TabOK Tryz.prog (tab75 N) := trivial
@[reducible] def w75 : List SP := [⟨[.int .i64], []⟩]
noncomputable def F75 (N : Nat) : ((ByteArray × (Int × (Int × Unit)))) → Option (Int)
  | x0 =>
  some x0.2.1
noncomputable def T75 (N : Nat) : Pk → Tr Pk := tellS s75 w75 (F75 N)
theorem T75_ok (N : Nat) : FOK Tryz.prog (75) (T75 N) :=
  (fn_ok2 ownT mix (tab75_ok N) Tryz.func75 s75 w75 [] (cuts := []) trivial (fun _ => by kernel_rfl) (by decide +kernel) (F75 N) (fun x => by kernel_rfl))
@[reducible] def s64 : SP := ⟨[.str, .fn 65], []⟩
noncomputable def tab64 (N : Nat) : List (Nat × (Pk → Tr Pk)) := [(74, T74 N), (65, T65 N), (67, T67 N), (75, T75 N)]
theorem tab64_ok (N : Nat) : TabOK Tryz.prog (tab64 N) := ⟨T74_ok N, T65_ok N, T67_ok N, T75_ok N, trivial⟩
@[reducible] def w64 : List SP := [⟨[.tup [.agg [.sl 0, .str], .int .i64, .int .i64]], [.row (.int .i64) 3]⟩]
noncomputable def F64 (N : Nat) : (ByteArray) → Option (ByteArray × Int × Int × (List Int))
  | x0 =>
  Option.bind (F74 N x0) fun y0 =>
  Option.bind (F65 N ((0 : Int), y0.1, y0.2.1, y0.2.2)) fun (y1_0, y1_1, y1_2, y1_3, y1_4, y1_5) =>
  iteP (y1_1 == (0 : Int)) (
    Option.bind (F67 N (y1_2, y1_3, y1_4, ())) fun y2 =>
    iteP (y2 != (0 : Int)) (
      some ((ByteArray.mk #[], (0 : Int), y2, []))) (
      Option.bind (F75 N (y1_2, y1_3, y1_4, ())) fun y3 =>
      some ((y1_0, y3, (0 : Int), y1_5)))) (
    iteP (y1_1 != (0 : Int)) (
      some ((ByteArray.mk #[], (0 : Int), y1_1, []))) (
      Option.bind (F75 N (y1_2, y1_3, y1_4, ())) fun y4 =>
      some ((y1_0, y4, (0 : Int), y1_5))))
noncomputable def T64 (N : Nat) : Pk → Tr Pk := tellS s64 w64 (F64 N)
theorem T64_ok (N : Nat) : FOK Tryz.prog (64) (T64 N) :=
  (fn_ok2 ownT mix (tab64_ok N) Tryz.func64 s64 w64 [] (cuts := []) trivial (fun _ => by kernel_rfl) (by decide +kernel) (F64 N) (fun x => by kernel_rfl))
@[reducible] def s57 : SP := ⟨[.str], []⟩
noncomputable def tab57 (N : Nat) : List (Nat × (Pk → Tr Pk)) := [(64, T64 N)]
theorem tab57_ok (N : Nat) : TabOK Tryz.prog (tab57 N) := ⟨T64_ok N, trivial⟩
@[reducible] def w57 : List SP := [⟨[.tup [.sl 0, .str, .int .i64, .int .i64]], [.row (.int .i64) 3]⟩]
noncomputable def F57 (N : Nat) : (ByteArray) → Option (ByteArray × Int × Int × (List Int))
  | x0 =>
  Option.bind (F64 N x0) fun y0 =>
  some ((y0.1, y0.2.1, y0.2.2.1, y0.2.2.2))
noncomputable def T57 (N : Nat) : Pk → Tr Pk := tellS s57 w57 (F57 N)
theorem T57_ok (N : Nat) : FOK Tryz.prog (57) (T57 N) :=
  (fn_ok2 ownT mix (tab57_ok N) Tryz.func57 s57 w57 [] (cuts := []) trivial (fun _ => by kernel_rfl) (by decide +kernel) (F57 N) (fun x => by kernel_rfl))
@[reducible] def s69 : SP := ⟨[.ro (.int .i64), .int .i64], []⟩
noncomputable def tab69 (N : Nat) : List (Nat × (Pk → Tr Pk)) := []
theorem tab69_ok (N : Nat) : TabOK Tryz.prog (tab69 N) := trivial
@[reducible] def L69_26 : LD := ⟨26, [7, 1, 0, 8], [(.ret, [4]), (.exit 0, [])], ⟨[.int .i64, .int .i64, .ro (.int .i64), .int .i64], []⟩, [(.ret, ⟨[.int .i64], []⟩), (.exit 0, ⟨[], []⟩)]⟩
abbrev P69_26 : Type := Int × Int × (List Int) × Int
abbrev R69_26 : Type := ((Int) ⊕ (Unit))
noncomputable def B69_26 (N : Nat) (f : P69_26 → Option R69_26) : P69_26 → Option R69_26
  | (x0, x1, x2, x3) =>
  iteP (decide (x3 < x0)) (
    iteP (within x3 (List.length x2)) (
      Option.bind (x2[Int.toNat x3]?) fun y0 =>
      iteP (x1 == y0) (
        some (.inl (x3))) (
        Option.bind (f (x0, x1, x2, IntKind.wrap IntKind.i64 (x3 + (1 : Int)))) fun r => match r with | .inl y => some (.inl y) | .inr y => some (.inr y))) (
      none )) (
    some (.inr (())))
noncomputable def F69_26 (N : Nat) : Nat → P69_26 → Option R69_26
  | 0, _ => none
  | k + 1, x => B69_26 N (F69_26 N k) x
noncomputable def C69_26 (N : Nat) (k : Nat) : Cut := L69_26.cut (F69_26 N k)
theorem C69_26_ok (N : Nat) (k : Nat) : CutAt Tryz.prog false Tryz.f69 [] 26 (C69_26 N k) :=
  L69_26.loopT ownT mix (tab69_ok N) Tryz.f69 [] (cuts := []) trivial (by decide +kernel) (by kernel_rfl) (B69_26 N) (F69_26 N) (fun _ => rfl) (fun _ _ => rfl) (fun f x => by kernel_rfl) k
@[reducible] def w69 : List SP := [⟨[.int .i64], []⟩]
noncomputable def F69 (N : Nat) : ((List Int) × Int) → Option (Int)
  | (x0, x1) =>
  Option.bind (F69_26 N N ((↑(List.length x0) : Int), x1, x0, (0 : Int))) fun y0 =>
  match y0 with
  | .inl y1 =>
    some (y1)
  | .inr y1 =>
    some ((-1 : Int))
noncomputable def T69 (N : Nat) : Pk → Tr Pk := tellS s69 w69 (F69 N)
theorem T69_ok (N : Nat) : FOK Tryz.prog (69) (T69 N) :=
  (fn_ok2 ownT mix (tab69_ok N) Tryz.func69 s69 w69 [] (cuts := [(26, C69_26 N N)]) ⟨C69_26_ok N N, trivial⟩ (fun _ => by kernel_rfl) (by decide +kernel) (F69 N) (fun x => by kernel_rfl))
@[reducible] def s58 : SP := ⟨[.ro (.int .i64), .int .i64], []⟩
noncomputable def tab58 (N : Nat) : List (Nat × (Pk → Tr Pk)) := [(69, T69 N)]
theorem tab58_ok (N : Nat) : TabOK Tryz.prog (tab58 N) := ⟨T69_ok N, trivial⟩
@[reducible] def w58 : List SP := [⟨[.bool], []⟩]
noncomputable def F58 (N : Nat) : ((List Int) × Int) → Option (Bool)
  | (x0, x1) =>
  Option.bind (F69 N (x0, x1)) fun y0 =>
  some (decide (y0 ≥ (0 : Int)))
noncomputable def T58 (N : Nat) : Pk → Tr Pk := tellS s58 w58 (F58 N)
theorem T58_ok (N : Nat) : FOK Tryz.prog (58) (T58 N) :=
  (fn_ok2 ownT mix (tab58_ok N) Tryz.func58 s58 w58 [] (cuts := []) trivial (fun _ => by kernel_rfl) (by decide +kernel) (F58 N) (fun x => by kernel_rfl))
@[reducible] def s46 : SP := ⟨[.adr 0 []], [.var 74 (.agg [.nilp, .str, .str, .fv, .int .i64, .agg [.sl 1], .agg [.agg [.agg [.agg [.bool, .str], .int .i64]]], .agg [.int .i64, .int .i64, .bool, .bool, .int .i64, .int .i64, .int .i64, .int .i64, .int .i64, .int .i64], .int .i64, .int .i64, .int .i64]), .row y0 38]⟩
noncomputable def tab46 (N : Nat) : List (Nat × (Pk → Tr Pk)) := [(57, T57 N), (58, T58 N)]
theorem tab46_ok (N : Nat) : TabOK Tryz.prog (tab46 N) := ⟨T57_ok N, T58_ok N, trivial⟩
@[reducible] def w46 : List SP := [⟨[.tup [.int .i64, .int .i64]], [.var 74 (.agg [.nilp, .str, .str, .fv, .int .i64, .agg [.sl 1], .agg [.agg [.agg [.agg [.bool, .str], .int .i64]]], .agg [.int .i64, .int .i64, .bool, .bool, .int .i64, .int .i64, .int .i64, .int .i64, .int .i64, .int .i64], .int .i64, .int .i64, .int .i64]), .row y0 38]⟩]
noncomputable def F46 (N : Nat) : (ByteArray × ByteArray × Nat × Int × Bool × ByteArray × Int × Int × Int × Bool × Bool × Int × Int × Int × Int × Int × Int × Int × Int × Int × (List (Int × (Bool × (Int × ((Int × (Int × (Int × (Int × Unit)))) × ((Int × (Int × (Bool × (Bool × (Int × (Int × (Int × (Int × (Int × (Int × Unit)))))))))) × ((List Int) × (ByteArray × Unit))))))))) → Option (Int × Int × ByteArray × ByteArray × Nat × Int × Bool × ByteArray × Int × Int × Int × Bool × Bool × Int × Int × Int × Int × Int × Int × Int × Int × Int × (List (Int × (Bool × (Int × ((Int × (Int × (Int × (Int × Unit)))) × ((Int × (Int × (Bool × (Bool × (Int × (Int × (Int × (Int × (Int × (Int × Unit)))))))))) × ((List Int) × (ByteArray × Unit)))))))))
  | (x0, x1, x2, x3, x4, x5, x6, x7, x8, x9, x10, x11, x12, x13, x14, x15, x16, x17, x18, x19, x20) =>
  Option.bind (F57 N x0) fun y0 =>
  iteP (y0.2.2.1 != (0 : Int)) (
    some (((0 : Int), y0.2.2.1, x0, x1, x2, x3, x4, x5, x6, x7, x8, x9, x10, x11, x12, x13, x14, x15, x16, x17, x18, x19, x20))) (
    Option.bind (F58 N (y0.2.2.2, (1 : Int))) fun y1 =>
    iteP (!y1) (
      some (((0 : Int), (221 : Int), x0, x1, x2, x3, x4, x5, x6, x7, x8, x9, x10, x11, x12, x13, x14, x15, x16, x17, x18, x19, x20))) (
      iteP (decide ((↑(ByteArray.size x1 + (1 : Nat)) : Int) > (9223372036854775807 : Int))) (
        none ) (
        some ((y0.2.1, (0 : Int), x0, x1 ++ ByteArray.mk #[(1 : UInt8)], (59 : Nat), x3, x4, x5, x6, x7, x8, x9, x10, x11, x12, x13, x14, x15, x16, x17, x18, x19, x20)))))
noncomputable def T46 (N : Nat) : Pk → Tr Pk := tellS s46 w46 (F46 N)
theorem T46_ok (N : Nat) : FOK Tryz.prog (46) (T46 N) :=
  (fn_ok2 ownT mix (tab46_ok N) Tryz.func46 s46 w46 [0] (cuts := []) trivial (fun _ => by kernel_rfl) (by decide +kernel) (F46 N) (fun x => by kernel_rfl))
@[reducible] def s80 : SP := ⟨[.adr 0 []], [.var 133 (.agg [.adr 1 [], .int .i64]), .var 142 (.agg [.str, .int .i64, .int .i64])]⟩
noncomputable def tab80 (N : Nat) : List (Nat × (Pk → Tr Pk)) := [(66, T66 N), (68, T68 N)]
theorem tab80_ok (N : Nat) : TabOK Tryz.prog (tab80 N) := ⟨T66_ok N, T68_ok N, trivial⟩
@[reducible] def w80 : List SP := [⟨[.str], [.var 133 (.agg [.adr 1 [], .int .i64]), .var 142 (.agg [.str, .int .i64, .int .i64])]⟩]
noncomputable def F80 (N : Nat) : (Int × ByteArray × Int × Int) → Option (ByteArray × Int × ByteArray × Int × Int)
  | (x0, x1, x2, x3) =>
  Option.bind (F66 N ((4 : Int), x1, x2, x3)) fun y0 =>
  iteP (y0.1 == (0 : Int)) (
    some ((ByteArray.mk #[], x0, y0.2.1, y0.2.2.1, y0.2.2.2))) (
    Option.bind (F68 N (x0, y0.2.1, y0.2.2.1, y0.2.2.2)) fun y1 =>
    iteP (!ByteArray.toList y1.1 == []) (
      some ((y1.1, y1.2.1, y1.2.2.1, y1.2.2.2.1, y1.2.2.2.2))) (
      some ((ByteArray.mk #[(63 : UInt8)], y1.2.1, y1.2.2.1, y1.2.2.2.1, y1.2.2.2.2))))
noncomputable def T80 (N : Nat) : Pk → Tr Pk := tellS s80 w80 (F80 N)
theorem T80_ok (N : Nat) : FOK Tryz.prog (80) (T80 N) :=
  (fn_ok2 ownT mix (tab80_ok N) Tryz.func80 s80 w80 [0, 1] (cuts := []) trivial (fun _ => by kernel_rfl) (by decide +kernel) (F80 N) (fun x => by kernel_rfl))
@[reducible] def s79 : SP := ⟨[.str, .fn 80], []⟩
noncomputable def tab79 (N : Nat) : List (Nat × (Pk → Tr Pk)) := [(74, T74 N), (80, T80 N), (67, T67 N), (75, T75 N)]
theorem tab79_ok (N : Nat) : TabOK Tryz.prog (tab79 N) := ⟨T74_ok N, T80_ok N, T67_ok N, T75_ok N, trivial⟩
@[reducible] def w79 : List SP := [⟨[.tup [.str, .int .i64, .int .i64]], []⟩]
noncomputable def F79 (N : Nat) : (ByteArray) → Option (ByteArray × Int × Int)
  | x0 =>
  Option.bind (F74 N x0) fun y0 =>
  Option.bind (F80 N ((0 : Int), y0.1, y0.2.1, y0.2.2)) fun y1 =>
  iteP (y1.2.1 == (0 : Int)) (
    Option.bind (F67 N (y1.2.2.1, y1.2.2.2.1, y1.2.2.2.2, ())) fun y2 =>
    iteP (y2 != (0 : Int)) (
      some ((ByteArray.mk #[], (0 : Int), y2))) (
      Option.bind (F75 N (y1.2.2.1, y1.2.2.2.1, y1.2.2.2.2, ())) fun y3 =>
      some ((y1.1, y3, (0 : Int))))) (
    iteP (y1.2.1 != (0 : Int)) (
      some ((ByteArray.mk #[], (0 : Int), y1.2.1))) (
      Option.bind (F75 N (y1.2.2.1, y1.2.2.2.1, y1.2.2.2.2, ())) fun y4 =>
      some ((y1.1, y4, (0 : Int)))))
noncomputable def T79 (N : Nat) : Pk → Tr Pk := tellS s79 w79 (F79 N)
theorem T79_ok (N : Nat) : FOK Tryz.prog (79) (T79 N) :=
  (fn_ok2 ownT mix (tab79_ok N) Tryz.func79 s79 w79 [] (cuts := []) trivial (fun _ => by kernel_rfl) (by decide +kernel) (F79 N) (fun x => by kernel_rfl))
@[reducible] def s70 : SP := ⟨[.str], []⟩
noncomputable def tab70 (N : Nat) : List (Nat × (Pk → Tr Pk)) := [(79, T79 N)]
theorem tab70_ok (N : Nat) : TabOK Tryz.prog (tab70 N) := ⟨T79_ok N, trivial⟩
@[reducible] def w70 : List SP := [⟨[.tup [.str, .int .i64, .int .i64]], []⟩]
noncomputable def F70 (N : Nat) : (ByteArray) → Option (ByteArray × Int × Int)
  | x0 =>
  Option.bind (F79 N x0) fun y0 =>
  some ((y0.1, y0.2.1, y0.2.2))
noncomputable def T70 (N : Nat) : Pk → Tr Pk := tellS s70 w70 (F70 N)
theorem T70_ok (N : Nat) : FOK Tryz.prog (70) (T70 N) :=
  (fn_ok2 ownT mix (tab70_ok N) Tryz.func70 s70 w70 [] (cuts := []) trivial (fun _ => by kernel_rfl) (by decide +kernel) (F70 N) (fun x => by kernel_rfl))
@[reducible] def s59 : SP := ⟨[.adr 0 []], [.var 74 (.agg [.nilp, .str, .str, .fv, .int .i64, .agg [.sl 1], .agg [.agg [.agg [.agg [.bool, .str], .int .i64]]], .agg [.int .i64, .int .i64, .bool, .bool, .int .i64, .int .i64, .int .i64, .int .i64, .int .i64, .int .i64], .int .i64, .int .i64, .int .i64]), .row y0 38]⟩
noncomputable def tab59 (N : Nat) : List (Nat × (Pk → Tr Pk)) := [(70, T70 N)]
theorem tab59_ok (N : Nat) : TabOK Tryz.prog (tab59 N) := ⟨T70_ok N, trivial⟩
@[reducible] def w59 : List SP := [⟨[.tup [.int .i64, .int .i64]], [.var 74 (.agg [.nilp, .str, .str, .fv, .int .i64, .agg [.sl 1], .agg [.agg [.agg [.agg [.bool, .str], .int .i64]]], .agg [.int .i64, .int .i64, .bool, .bool, .int .i64, .int .i64, .int .i64, .int .i64, .int .i64, .int .i64], .int .i64, .int .i64, .int .i64]), .row y0 38]⟩]
noncomputable def F59 (N : Nat) : (ByteArray × ByteArray × Nat × Int × Bool × ByteArray × Int × Int × Int × Bool × Bool × Int × Int × Int × Int × Int × Int × Int × Int × Int × (List (Int × (Bool × (Int × ((Int × (Int × (Int × (Int × Unit)))) × ((Int × (Int × (Bool × (Bool × (Int × (Int × (Int × (Int × (Int × (Int × Unit)))))))))) × ((List Int) × (ByteArray × Unit))))))))) → Option (Int × Int × ByteArray × ByteArray × Nat × Int × Bool × ByteArray × Int × Int × Int × Bool × Bool × Int × Int × Int × Int × Int × Int × Int × Int × Int × (List (Int × (Bool × (Int × ((Int × (Int × (Int × (Int × Unit)))) × ((Int × (Int × (Bool × (Bool × (Int × (Int × (Int × (Int × (Int × (Int × Unit)))))))))) × ((List Int) × (ByteArray × Unit)))))))))
  | (x0, x1, x2, x3, x4, x5, x6, x7, x8, x9, x10, x11, x12, x13, x14, x15, x16, x17, x18, x19, x20) =>
  Option.bind (F70 N x0) fun y0 =>
  iteP (y0.2.2 != (0 : Int)) (
    some (((0 : Int), y0.2.2, x0, x1, x2, x3, x4, x5, x6, x7, x8, x9, x10, x11, x12, x13, x14, x15, x16, x17, x18, x19, x20))) (
    iteP (!ByteArray.toList y0.1 == []) (
      some (((0 : Int), (221 : Int), x0, x1, x2, x3, x4, x5, x6, x7, x8, x9, x10, x11, x12, x13, x14, x15, x16, x17, x18, x19, x20))) (
      iteP (decide ((↑(ByteArray.size x1 + (1 : Nat)) : Int) > (9223372036854775807 : Int))) (
        none ) (
        some ((y0.2.1, (0 : Int), x0, x1 ++ ByteArray.mk #[(1 : UInt8)], (71 : Nat), x3, x4, x5, x6, x7, x8, x9, x10, x11, x12, x13, x14, x15, x16, x17, x18, x19, x20)))))
noncomputable def T59 (N : Nat) : Pk → Tr Pk := tellS s59 w59 (F59 N)
theorem T59_ok (N : Nat) : FOK Tryz.prog (59) (T59 N) :=
  (fn_ok2 ownT mix (tab59_ok N) Tryz.func59 s59 w59 [0] (cuts := []) trivial (fun _ => by kernel_rfl) (by decide +kernel) (F59 N) (fun x => by kernel_rfl))
@[reducible] def s88 : SP := ⟨[.str], []⟩
noncomputable def tab88 (N : Nat) : List (Nat × (Pk → Tr Pk)) := [(74, T74 N), (66, T66 N), (78, T78 N), (67, T67 N), (6, T6 N)]
theorem tab88_ok (N : Nat) : TabOK Tryz.prog (tab88 N) := ⟨T74_ok N, T66_ok N, T78_ok N, T67_ok N, T6_ok N, trivial⟩
@[reducible] def w88 : List SP := [⟨[.tup [.agg [.int .i64, .int .i64, .bool, .bool, .int .i64, .int .i64, .int .i64, .int .i64, .int .i64, .int .i64], .int .i64]], []⟩]
noncomputable def F88 (N : Nat) : (ByteArray) → Option (Int × Int × Bool × Bool × Int × Int × Int × Int × Int × Int × Int)
  | x0 =>
  Option.bind (F74 N x0) fun y0 =>
  Option.bind (F66 N ((1 : Int), y0.1, y0.2.1, y0.2.2)) fun y1 =>
  Option.bind (F66 N ((1 : Int), y1.2.1, y1.2.2.1, y1.2.2.2)) fun y2 =>
  Option.bind (F66 N ((1 : Int), y2.2.1, y2.2.2.1, y2.2.2.2)) fun y3 =>
  Option.bind (F66 N ((1 : Int), y3.2.1, y3.2.2.1, y3.2.2.2)) fun y4 =>
  Option.bind (F66 N ((2 : Int), y4.2.1, y4.2.2.1, y4.2.2.2)) fun y5 =>
  Option.bind (F66 N ((2 : Int), y5.2.1, y5.2.2.1, y5.2.2.2)) fun y6 =>
  Option.bind (F66 N ((2 : Int), y6.2.1, y6.2.2.1, y6.2.2.2)) fun y7 =>
  Option.bind (F66 N ((1 : Int), y7.2.1, y7.2.2.1, y7.2.2.2)) fun y8 =>
  Option.bind (F66 N ((1 : Int), y8.2.1, y8.2.2.1, y8.2.2.2)) fun y9 =>
  Option.bind (F66 N ((1 : Int), y9.2.1, y9.2.2.1, y9.2.2.2)) fun y10 =>
  Option.bind (F78 N ((3 : Int), y10.2.1, y10.2.2.1, y10.2.2.2)) fun y11 =>
  Option.bind (F67 N (y11.2.1, y11.2.2.1, y11.2.2.2, ())) fun y12 =>
  iteP (y12 != (0 : Int)) (
    Option.bind (F67 N (y11.2.1, y11.2.2.1, y11.2.2.2, ())) fun y13 =>
    some (((0 : Int), (0 : Int), false, false, (0 : Int), (0 : Int), (0 : Int), (0 : Int), (0 : Int), (0 : Int), y13))) (
    Option.bind (F6 N (y1.1, y2.1, y3.1 != (0 : Int), y4.1 != (0 : Int), y5.1, y6.1, y7.1, y8.1, y9.1, y10.1)) fun y14 =>
    iteP (!y14) (
      some (((0 : Int), (0 : Int), false, false, (0 : Int), (0 : Int), (0 : Int), (0 : Int), (0 : Int), (0 : Int), (130 : Int)))) (
      some ((y1.1, y2.1, y3.1 != (0 : Int), y4.1 != (0 : Int), y5.1, y6.1, y7.1, y8.1, y9.1, y10.1, (0 : Int)))))
noncomputable def T88 (N : Nat) : Pk → Tr Pk := tellS s88 w88 (F88 N)
theorem T88_ok (N : Nat) : FOK Tryz.prog (88) (T88 N) :=
  (fn_ok2 ownT mix (tab88_ok N) Tryz.func88 s88 w88 [] (cuts := []) trivial (fun _ => by kernel_rfl) (by decide +kernel) (F88 N) (fun x => by kernel_rfl))
@[reducible] def s87 : SP := ⟨[.adr 0 []], [.var 133 (.agg [.adr 1 [], .int .i64]), .var 142 (.agg [.str, .int .i64, .int .i64])]⟩
noncomputable def tab87 (N : Nat) : List (Nat × (Pk → Tr Pk)) := [(66, T66 N), (78, T78 N), (88, T88 N), (77, T77 N), (68, T68 N)]
theorem tab87_ok (N : Nat) : TabOK Tryz.prog (tab87 N) := ⟨T66_ok N, T78_ok N, T88_ok N, T77_ok N, T68_ok N, trivial⟩
@[reducible] def w87 : List SP := [⟨[.agg [.int .i64, .int .i64, .agg [.int .i64, .int .i64, .bool, .bool, .int .i64, .int .i64, .int .i64, .int .i64, .int .i64, .int .i64], .str]], [.var 133 (.agg [.adr 1 [], .int .i64]), .var 142 (.agg [.str, .int .i64, .int .i64])]⟩]
noncomputable def F87 (N : Nat) : (Int × ByteArray × Int × Int) → Option (Int × Int × Int × Int × Bool × Bool × Int × Int × Int × Int × Int × Int × ByteArray × Int × ByteArray × Int × Int)
  | (x0, x1, x2, x3) =>
  Option.bind (F66 N ((2 : Int), x1, x2, x3)) fun y0 =>
  Option.bind (F66 N ((2 : Int), y0.2.1, y0.2.2.1, y0.2.2.2)) fun y1 =>
  Option.bind (F78 N ((16 : Int), y1.2.1, y1.2.2.1, y1.2.2.2)) fun y2 =>
  Option.bind (F88 N y2.1) fun (y3_0, y3_1, y3_2, y3_3, y3_4, y3_5, y3_6, y3_7, y3_8, y3_9, y3_10) =>
  iteP (y0.1 == (0 : Int)) (
    Option.bind (F77 N (true, (3 : Int), x0, y2.2.1, y2.2.2.1, y2.2.2.2)) fun y4 =>
    Option.bind (F77 N (y3_10 != (0 : Int), y3_10, y4.1, y4.2.1, y4.2.2.1, y4.2.2.2)) fun y5 =>
    iteP (y5.1 == (0 : Int)) (
      Option.bind (F68 N (y5.1, y5.2.1, y5.2.2.1, y5.2.2.2)) fun y6 =>
      some ((y0.1, y1.1, y3_0, y3_1, y3_2, y3_3, y3_4, y3_5, y3_6, y3_7, y3_8, y3_9, y6.1, y6.2.1, y6.2.2.1, y6.2.2.2.1, y6.2.2.2.2))) (
      some ((y0.1, y1.1, (0 : Int), (0 : Int), false, false, (0 : Int), (0 : Int), (0 : Int), (0 : Int), (0 : Int), (0 : Int), ByteArray.mk #[], y5.1, y5.2.1, y5.2.2.1, y5.2.2.2)))) (
    Option.bind (F77 N (y1.1 == (0 : Int), (3 : Int), x0, y2.2.1, y2.2.2.1, y2.2.2.2)) fun y7 =>
    Option.bind (F77 N (y3_10 != (0 : Int), y3_10, y7.1, y7.2.1, y7.2.2.1, y7.2.2.2)) fun y8 =>
    iteP (y8.1 == (0 : Int)) (
      Option.bind (F68 N (y8.1, y8.2.1, y8.2.2.1, y8.2.2.2)) fun y9 =>
      some ((y0.1, y1.1, y3_0, y3_1, y3_2, y3_3, y3_4, y3_5, y3_6, y3_7, y3_8, y3_9, y9.1, y9.2.1, y9.2.2.1, y9.2.2.2.1, y9.2.2.2.2))) (
      some ((y0.1, y1.1, (0 : Int), (0 : Int), false, false, (0 : Int), (0 : Int), (0 : Int), (0 : Int), (0 : Int), (0 : Int), ByteArray.mk #[], y8.1, y8.2.1, y8.2.2.1, y8.2.2.2))))
noncomputable def T87 (N : Nat) : Pk → Tr Pk := tellS s87 w87 (F87 N)
theorem T87_ok (N : Nat) : FOK Tryz.prog (87) (T87 N) :=
  (fn_ok2 ownT mix (tab87_ok N) Tryz.func87 s87 w87 [0, 1] (cuts := []) trivial (fun _ => by kernel_rfl) (by decide +kernel) (F87 N) (fun x => by kernel_rfl))
@[reducible] def s86 : SP := ⟨[.str, .fn 87], []⟩
noncomputable def tab86 (N : Nat) : List (Nat × (Pk → Tr Pk)) := [(74, T74 N), (87, T87 N), (67, T67 N), (75, T75 N)]
theorem tab86_ok (N : Nat) : TabOK Tryz.prog (tab86 N) := ⟨T74_ok N, T87_ok N, T67_ok N, T75_ok N, trivial⟩
@[reducible] def w86 : List SP := [⟨[.tup [.agg [.int .i64, .int .i64, .agg [.int .i64, .int .i64, .bool, .bool, .int .i64, .int .i64, .int .i64, .int .i64, .int .i64, .int .i64], .str], .int .i64, .int .i64]], []⟩]
noncomputable def F86 (N : Nat) : (ByteArray) → Option (Int × Int × Int × Int × Bool × Bool × Int × Int × Int × Int × Int × Int × ByteArray × Int × Int)
  | x0 =>
  Option.bind (F74 N x0) fun y0 =>
  Option.bind (F87 N ((0 : Int), y0.1, y0.2.1, y0.2.2)) fun (y1_0, y1_1, y1_2, y1_3, y1_4, y1_5, y1_6, y1_7, y1_8, y1_9, y1_10, y1_11, y1_12, y1_13, y1_14, y1_15, y1_16) =>
  iteP (y1_13 == (0 : Int)) (
    Option.bind (F67 N (y1_14, y1_15, y1_16, ())) fun y2 =>
    iteP (y2 != (0 : Int)) (
      some (((0 : Int), (0 : Int), (0 : Int), (0 : Int), false, false, (0 : Int), (0 : Int), (0 : Int), (0 : Int), (0 : Int), (0 : Int), ByteArray.mk #[], (0 : Int), y2))) (
      Option.bind (F75 N (y1_14, y1_15, y1_16, ())) fun y3 =>
      some ((y1_0, y1_1, y1_2, y1_3, y1_4, y1_5, y1_6, y1_7, y1_8, y1_9, y1_10, y1_11, y1_12, y3, (0 : Int))))) (
    iteP (y1_13 != (0 : Int)) (
      some (((0 : Int), (0 : Int), (0 : Int), (0 : Int), false, false, (0 : Int), (0 : Int), (0 : Int), (0 : Int), (0 : Int), (0 : Int), ByteArray.mk #[], (0 : Int), y1_13))) (
      Option.bind (F75 N (y1_14, y1_15, y1_16, ())) fun y4 =>
      some ((y1_0, y1_1, y1_2, y1_3, y1_4, y1_5, y1_6, y1_7, y1_8, y1_9, y1_10, y1_11, y1_12, y4, (0 : Int)))))
noncomputable def T86 (N : Nat) : Pk → Tr Pk := tellS s86 w86 (F86 N)
theorem T86_ok (N : Nat) : FOK Tryz.prog (86) (T86 N) :=
  (fn_ok2 ownT mix (tab86_ok N) Tryz.func86 s86 w86 [] (cuts := []) trivial (fun _ => by kernel_rfl) (by decide +kernel) (F86 N) (fun x => by kernel_rfl))
@[reducible] def s81 : SP := ⟨[.str], []⟩
noncomputable def tab81 (N : Nat) : List (Nat × (Pk → Tr Pk)) := [(86, T86 N)]
theorem tab81_ok (N : Nat) : TabOK Tryz.prog (tab81 N) := ⟨T86_ok N, trivial⟩
@[reducible] def w81 : List SP := [⟨[.tup [.agg [.int .i64, .int .i64, .agg [.int .i64, .int .i64, .bool, .bool, .int .i64, .int .i64, .int .i64, .int .i64, .int .i64, .int .i64], .str], .int .i64, .int .i64]], []⟩]
noncomputable def F81 (N : Nat) : (ByteArray) → Option (Int × Int × Int × Int × Bool × Bool × Int × Int × Int × Int × Int × Int × ByteArray × Int × Int)
  | x0 =>
  Option.bind (F86 N x0) fun (y0_0, y0_1, y0_2, y0_3, y0_4, y0_5, y0_6, y0_7, y0_8, y0_9, y0_10, y0_11, y0_12, y0_13, y0_14) =>
  some ((y0_0, y0_1, y0_2, y0_3, y0_4, y0_5, y0_6, y0_7, y0_8, y0_9, y0_10, y0_11, y0_12, y0_13, y0_14))
noncomputable def T81 (N : Nat) : Pk → Tr Pk := tellS s81 w81 (F81 N)
theorem T81_ok (N : Nat) : FOK Tryz.prog (81) (T81 N) :=
  (fn_ok2 ownT mix (tab81_ok N) Tryz.func81 s81 w81 [] (cuts := []) trivial (fun _ => by kernel_rfl) (by decide +kernel) (F81 N) (fun x => by kernel_rfl))
@[reducible] def s89 : SP := ⟨[.int .i64], []⟩
noncomputable def tab89 (N : Nat) : List (Nat × (Pk → Tr Pk)) := []
theorem tab89_ok (N : Nat) : TabOK Tryz.prog (tab89 N) := trivial
@[reducible] def w89 : List SP := [⟨[.bool], []⟩]
noncomputable def F89 (N : Nat) : (Int) → Option (Bool)
  | x0 =>
  iteP (decide ((1 : Int) ≤ x0)) (
    some (decide (x0 ≤ (4096 : Int)))) (
    some (false))
noncomputable def T89 (N : Nat) : Pk → Tr Pk := tellS s89 w89 (F89 N)
theorem T89_ok (N : Nat) : FOK Tryz.prog (89) (T89 N) :=
  (fn_ok2 ownT mix (tab89_ok N) Tryz.func89 s89 w89 [] (cuts := []) trivial (fun _ => by kernel_rfl) (by decide +kernel) (F89 N) (fun x => by kernel_rfl))
@[reducible] def s82 : SP := ⟨[.int .i64, .int .i64], []⟩
noncomputable def tab82 (N : Nat) : List (Nat × (Pk → Tr Pk)) := [(89, T89 N)]
theorem tab82_ok (N : Nat) : TabOK Tryz.prog (tab82 N) := ⟨T89_ok N, trivial⟩
@[reducible] def w82 : List SP := [⟨[.tup [.nilp, .int .i64]], []⟩, ⟨[.tup [.adr 0 [], .int .i64]], [.var 112 (.agg [.int .i64, .int .i64, .sl 1]), .row (.int .i64) 3]⟩]
noncomputable def F82 (N : Nat) : (Int × Int) → Option (((Int) ⊕ (Int × Int × Int × (List Int))))
  | (x0, x1) =>
  Option.bind (F89 N x0) fun y0 =>
  iteP (!y0) (
    some (.inl ((1 : Int)))) (
    Option.bind (F89 N x1) fun y1 =>
    iteP (!y1) (
      some (.inl ((1 : Int)))) (
      iteP (decide ((0 : Int) ≤ IntKind.wrap IntKind.i64 (x0 * x1) ∧ IntKind.wrap IntKind.i64 (x0 * x1) ≤ IntKind.wrap IntKind.i64 (x0 * x1) ∧ IntKind.wrap IntKind.i64 (x0 * x1) * (8 : Int) ≤ (140737488355328 : Int) ∧ IntKind.wrap IntKind.i64 (x0 * x1) ≤ (140737488355328 : Int))) (
        some (.inr (((0 : Int), x0, x1, List.replicate (Int.toNat (IntKind.wrap IntKind.i64 (x0 * x1))) (0 : Int))))) (
        none )))
noncomputable def T82 (N : Nat) : Pk → Tr Pk := tellS s82 w82 (F82 N)
theorem T82_ok (N : Nat) : FOK Tryz.prog (82) (T82 N) :=
  (fn_ok2 ownT mix (tab82_ok N) Tryz.func82 s82 w82 [] (cuts := []) trivial (fun _ => by kernel_rfl) (by decide +kernel) (F82 N) (fun x => by kernel_rfl))
@[reducible] def s71 : SP := ⟨[.adr 0 []], [.var 74 (.agg [.nilp, .str, .str, .fv, .int .i64, .agg [.sl 1], .agg [.agg [.agg [.agg [.bool, .str], .int .i64]]], .agg [.int .i64, .int .i64, .bool, .bool, .int .i64, .int .i64, .int .i64, .int .i64, .int .i64, .int .i64], .int .i64, .int .i64, .int .i64]), .row y0 38]⟩
noncomputable def tab71 (N : Nat) : List (Nat × (Pk → Tr Pk)) := [(81, T81 N), (82, T82 N)]
theorem tab71_ok (N : Nat) : TabOK Tryz.prog (tab71 N) := ⟨T81_ok N, T82_ok N, trivial⟩
@[reducible] def w71 : List SP := [⟨[.tup [.int .i64, .int .i64]], [.var 74 (.agg [.nilp, .str, .str, .fv, .int .i64, .agg [.sl 1], .agg [.agg [.agg [.agg [.bool, .str], .int .i64]]], .agg [.int .i64, .int .i64, .bool, .bool, .int .i64, .int .i64, .int .i64, .int .i64, .int .i64, .int .i64], .int .i64, .int .i64, .int .i64]), .row y0 38]⟩, ⟨[.tup [.int .i64, .int .i64]], [.var 74 (.agg [.adr 1 [], .str, .str, .fv, .int .i64, .agg [.sl 2], .agg [.agg [.agg [.agg [.bool, .str], .int .i64]]], .agg [.int .i64, .int .i64, .bool, .bool, .int .i64, .int .i64, .int .i64, .int .i64, .int .i64, .int .i64], .int .i64, .int .i64, .int .i64]), .var 112 (.agg [.int .i64, .int .i64, .sl 3]), .row y0 38, .row (.int .i64) 3]⟩]
noncomputable def F71 (N : Nat) : (ByteArray × ByteArray × Nat × Int × Bool × ByteArray × Int × Int × Int × Bool × Bool × Int × Int × Int × Int × Int × Int × Int × Int × Int × (List (Int × (Bool × (Int × ((Int × (Int × (Int × (Int × Unit)))) × ((Int × (Int × (Bool × (Bool × (Int × (Int × (Int × (Int × (Int × (Int × Unit)))))))))) × ((List Int) × (ByteArray × Unit))))))))) → Option (((Int × Int × ByteArray × ByteArray × Nat × Int × Bool × ByteArray × Int × Int × Int × Bool × Bool × Int × Int × Int × Int × Int × Int × Int × Int × Int × (List (Int × (Bool × (Int × ((Int × (Int × (Int × (Int × Unit)))) × ((Int × (Int × (Bool × (Bool × (Int × (Int × (Int × (Int × (Int × (Int × Unit)))))))))) × ((List Int) × (ByteArray × Unit))))))))) ⊕ (Int × Int × ByteArray × ByteArray × Nat × Int × Bool × ByteArray × Int × Int × Int × Bool × Bool × Int × Int × Int × Int × Int × Int × Int × Int × Int × Int × Int × (List (Int × (Bool × (Int × ((Int × (Int × (Int × (Int × Unit)))) × ((Int × (Int × (Bool × (Bool × (Int × (Int × (Int × (Int × (Int × (Int × Unit)))))))))) × ((List Int) × (ByteArray × Unit)))))))) × (List Int))))
  | (x0, x1, x2, x3, x4, x5, x6, x7, x8, x9, x10, x11, x12, x13, x14, x15, x16, x17, x18, x19, x20) =>
  Option.bind (F81 N x0) fun (y0_0, y0_1, y0_2, y0_3, y0_4, y0_5, y0_6, y0_7, y0_8, y0_9, y0_10, y0_11, y0_12, y0_13, y0_14) =>
  iteP (y0_14 != (0 : Int)) (
    some (.inl (((0 : Int), y0_14, x0, x1, x2, x3, x4, x5, x6, x7, x8, x9, x10, x11, x12, x13, x14, x15, x16, x17, x18, x19, x20)))) (
    Option.bind (F82 N (y0_0, y0_1)) fun y1 =>
    match y1 with
    | .inl y2 =>
      iteP (y2 != (0 : Int)) (
        some (.inl (((0 : Int), (4 : Int), x0, x1, x2, x3, x4, x5, x6, x7, x8, x9, x10, x11, x12, x13, x14, x15, x16, x17, x18, x19, x20)))) (
        some (.inl ((y0_13, (0 : Int), x0, x1, (83 : Nat), x3, x4, x5, x6, y0_2, y0_3, y0_4, y0_5, y0_6, y0_7, y0_8, y0_9, y0_10, y0_11, x17, x18, x19, x20))))
    | .inr y2 =>
      iteP (y2.1 != (0 : Int)) (
        some (.inl (((0 : Int), (4 : Int), x0, x1, x2, x3, x4, x5, x6, x7, x8, x9, x10, x11, x12, x13, x14, x15, x16, x17, x18, x19, x20)))) (
        some (.inr ((y0_13, (0 : Int), x0, x1, (83 : Nat), x3, x4, x5, x6, y0_2, y0_3, y0_4, y0_5, y0_6, y0_7, y0_8, y0_9, y0_10, y0_11, x17, x18, x19, y2.2.1, y2.2.2.1, x20, y2.2.2.2)))))
noncomputable def T71 (N : Nat) : Pk → Tr Pk := tellS s71 w71 (F71 N)
theorem T71_ok (N : Nat) : FOK Tryz.prog (71) (T71 N) :=
  (fn_ok2 ownT mix (tab71_ok N) Tryz.func71 s71 w71 [0] (cuts := []) trivial (fun _ => by kernel_rfl) (by decide +kernel) (F71 N) (fun x => by kernel_rfl))
@[reducible] def s94 : SP := ⟨[.adr 0 []], [.var 133 (.agg [.adr 1 [], .int .i64]), .var 142 (.agg [.str, .int .i64, .int .i64])]⟩
noncomputable def tab94 (N : Nat) : List (Nat × (Pk → Tr Pk)) := [(66, T66 N), (78, T78 N), (68, T68 N), (77, T77 N)]
theorem tab94_ok (N : Nat) : TabOK Tryz.prog (tab94 N) := ⟨T66_ok N, T78_ok N, T68_ok N, T77_ok N, trivial⟩
@[reducible] def w94 : List SP := [⟨[.agg [.int .i64, .bool, .int .i64, .agg [.int .i64, .int .i64, .int .i64, .int .i64], .agg [.int .i64, .int .i64, .bool, .bool, .int .i64, .int .i64, .int .i64, .int .i64, .int .i64, .int .i64], .sl 2, .str]], [.var 133 (.agg [.adr 1 [], .int .i64]), .var 142 (.agg [.str, .int .i64, .int .i64]), .row (.int .i64) 3]⟩]
noncomputable def F94 (N : Nat) : (Int × ByteArray × Int × Int) → Option (Int × Bool × Int × Int × Int × Int × Int × Int × Int × Bool × Bool × Int × Int × Int × Int × Int × Int × ByteArray × Int × ByteArray × Int × Int × (List Int))
  | (x0, x1, x2, x3) =>
  Option.bind (F66 N ((1 : Int), x1, x2, x3)) fun y0 =>
  iteP (y0.1 == (0 : Int)) (
    Option.bind (F78 N ((1 : Int), y0.2.1, y0.2.2.1, y0.2.2.2)) fun y1 =>
    Option.bind (F66 N ((2 : Int), y1.2.1, y1.2.2.1, y1.2.2.2)) fun y2 =>
    some (((6 : Int), false, y2.1, (0 : Int), (0 : Int), (0 : Int), (0 : Int), (0 : Int), (0 : Int), false, false, (0 : Int), (0 : Int), (0 : Int), (0 : Int), (0 : Int), (0 : Int), ByteArray.mk #[], x0, y2.2.1, y2.2.2.1, y2.2.2.2, []))) (
    iteP (y0.1 == (2 : Int)) (
      some (((7 : Int), false, (0 : Int), (0 : Int), (0 : Int), (0 : Int), (0 : Int), (0 : Int), (0 : Int), false, false, (0 : Int), (0 : Int), (0 : Int), (0 : Int), (0 : Int), (0 : Int), ByteArray.mk #[], x0, y0.2.1, y0.2.2.1, y0.2.2.2, []))) (
      iteP (y0.1 == (3 : Int)) (
        Option.bind (F78 N ((3 : Int), y0.2.1, y0.2.2.1, y0.2.2.2)) fun y3 =>
        Option.bind (F68 N (x0, y3.2.1, y3.2.2.1, y3.2.2.2)) fun y4 =>
        some (((5 : Int), false, (0 : Int), (0 : Int), (0 : Int), (0 : Int), (0 : Int), (0 : Int), (0 : Int), false, false, (0 : Int), (0 : Int), (0 : Int), (0 : Int), (0 : Int), (0 : Int), y4.1, y4.2.1, y4.2.2.1, y4.2.2.2.1, y4.2.2.2.2, []))) (
        Option.bind (F77 N (true, (222 : Int), x0, y0.2.1, y0.2.2.1, y0.2.2.2)) fun y5 =>
        some (((0 : Int), false, (0 : Int), (0 : Int), (0 : Int), (0 : Int), (0 : Int), (0 : Int), (0 : Int), false, false, (0 : Int), (0 : Int), (0 : Int), (0 : Int), (0 : Int), (0 : Int), ByteArray.mk #[], y5.1, y5.2.1, y5.2.2.1, y5.2.2.2, [])))))
noncomputable def T94 (N : Nat) : Pk → Tr Pk := tellS s94 w94 (F94 N)
theorem T94_ok (N : Nat) : FOK Tryz.prog (94) (T94 N) :=
  (fn_ok2 ownT mix (tab94_ok N) Tryz.func94 s94 w94 [0, 1] (cuts := []) trivial (fun _ => by kernel_rfl) (by decide +kernel) (F94 N) (fun x => by kernel_rfl))
@[reducible] def s93 : SP := ⟨[.str, .fn 94], []⟩
noncomputable def tab93 (N : Nat) : List (Nat × (Pk → Tr Pk)) := [(74, T74 N), (94, T94 N), (67, T67 N), (75, T75 N)]
theorem tab93_ok (N : Nat) : TabOK Tryz.prog (tab93 N) := ⟨T74_ok N, T94_ok N, T67_ok N, T75_ok N, trivial⟩
@[reducible] def w93 : List SP := [⟨[.tup [.agg [.int .i64, .bool, .int .i64, .agg [.int .i64, .int .i64, .int .i64, .int .i64], .agg [.int .i64, .int .i64, .bool, .bool, .int .i64, .int .i64, .int .i64, .int .i64, .int .i64, .int .i64], .sl 0, .str], .int .i64, .int .i64]], [.row (.int .i64) 3]⟩]
noncomputable def F93 (N : Nat) : (ByteArray) → Option (Int × Bool × Int × Int × Int × Int × Int × Int × Int × Bool × Bool × Int × Int × Int × Int × Int × Int × ByteArray × Int × Int × (List Int))
  | x0 =>
  Option.bind (F74 N x0) fun y0 =>
  Option.bind (F94 N ((0 : Int), y0.1, y0.2.1, y0.2.2)) fun (y1_0, y1_1, y1_2, y1_3, y1_4, y1_5, y1_6, y1_7, y1_8, y1_9, y1_10, y1_11, y1_12, y1_13, y1_14, y1_15, y1_16, y1_17, y1_18, y1_19, y1_20, y1_21, y1_22) =>
  iteP (y1_18 == (0 : Int)) (
    Option.bind (F67 N (y1_19, y1_20, y1_21, ())) fun y2 =>
    iteP (y2 != (0 : Int)) (
      some (((0 : Int), false, (0 : Int), (0 : Int), (0 : Int), (0 : Int), (0 : Int), (0 : Int), (0 : Int), false, false, (0 : Int), (0 : Int), (0 : Int), (0 : Int), (0 : Int), (0 : Int), ByteArray.mk #[], (0 : Int), y2, []))) (
      Option.bind (F75 N (y1_19, y1_20, y1_21, ())) fun y3 =>
      some ((y1_0, y1_1, y1_2, y1_3, y1_4, y1_5, y1_6, y1_7, y1_8, y1_9, y1_10, y1_11, y1_12, y1_13, y1_14, y1_15, y1_16, y1_17, y3, (0 : Int), y1_22)))) (
    iteP (y1_18 != (0 : Int)) (
      some (((0 : Int), false, (0 : Int), (0 : Int), (0 : Int), (0 : Int), (0 : Int), (0 : Int), (0 : Int), false, false, (0 : Int), (0 : Int), (0 : Int), (0 : Int), (0 : Int), (0 : Int), ByteArray.mk #[], (0 : Int), y1_18, []))) (
      Option.bind (F75 N (y1_19, y1_20, y1_21, ())) fun y4 =>
      some ((y1_0, y1_1, y1_2, y1_3, y1_4, y1_5, y1_6, y1_7, y1_8, y1_9, y1_10, y1_11, y1_12, y1_13, y1_14, y1_15, y1_16, y1_17, y4, (0 : Int), y1_22))))
noncomputable def T93 (N : Nat) : Pk → Tr Pk := tellS s93 w93 (F93 N)
theorem T93_ok (N : Nat) : FOK Tryz.prog (93) (T93 N) :=
  (fn_ok2 ownT mix (tab93_ok N) Tryz.func93 s93 w93 [] (cuts := []) trivial (fun _ => by kernel_rfl) (by decide +kernel) (F93 N) (fun x => by kernel_rfl))
@[reducible] def s90 : SP := ⟨[.str], []⟩
noncomputable def tab90 (N : Nat) : List (Nat × (Pk → Tr Pk)) := [(93, T93 N)]
theorem tab90_ok (N : Nat) : TabOK Tryz.prog (tab90 N) := ⟨T93_ok N, trivial⟩
@[reducible] def w90 : List SP := [⟨[.tup [.agg [.int .i64, .bool, .int .i64, .agg [.int .i64, .int .i64, .int .i64, .int .i64], .agg [.int .i64, .int .i64, .bool, .bool, .int .i64, .int .i64, .int .i64, .int .i64, .int .i64, .int .i64], .sl 0, .str], .int .i64, .int .i64]], [.row (.int .i64) 3]⟩]
noncomputable def F90 (N : Nat) : (ByteArray) → Option (Int × Bool × Int × Int × Int × Int × Int × Int × Int × Bool × Bool × Int × Int × Int × Int × Int × Int × ByteArray × Int × Int × (List Int))
  | x0 =>
  Option.bind (F93 N x0) fun (y0_0, y0_1, y0_2, y0_3, y0_4, y0_5, y0_6, y0_7, y0_8, y0_9, y0_10, y0_11, y0_12, y0_13, y0_14, y0_15, y0_16, y0_17, y0_18, y0_19, y0_20) =>
  some ((y0_0, y0_1, y0_2, y0_3, y0_4, y0_5, y0_6, y0_7, y0_8, y0_9, y0_10, y0_11, y0_12, y0_13, y0_14, y0_15, y0_16, y0_17, y0_18, y0_19, y0_20))
noncomputable def T90 (N : Nat) : Pk → Tr Pk := tellS s90 w90 (F90 N)
theorem T90_ok (N : Nat) : FOK Tryz.prog (90) (T90 N) :=
  (fn_ok2 ownT mix (tab90_ok N) Tryz.func90 s90 w90 [] (cuts := []) trivial (fun _ => by kernel_rfl) (by decide +kernel) (F90 N) (fun x => by kernel_rfl))
@[reducible] def s91 : SP := ⟨[.adr 0 []], [.var 74 (.agg [.adr 1 [], .str, .str, .fv, .int .i64, .agg [.sl 2], .agg [.agg [.agg [.agg [.bool, .str], .int .i64]]], .agg [.int .i64, .int .i64, .bool, .bool, .int .i64, .int .i64, .int .i64, .int .i64, .int .i64, .int .i64], .int .i64, .int .i64, .int .i64]), .var 112 (.agg [.int .i64, .int .i64, .sl 3]), .row y0 38, .row (.int .i64) 3]⟩
noncomputable def tab91 (N : Nat) : List (Nat × (Pk → Tr Pk)) := []
theorem tab91_ok (N : Nat) : TabOK Tryz.prog (tab91 N) := trivial
@[reducible] def w91 : List SP := [⟨[.tup []], [.var 74 (.agg [.adr 1 [], .str, .str, .fv, .int .i64, .agg [.sl 2], .agg [.agg [.agg [.agg [.bool, .str], .int .i64]]], .agg [.int .i64, .int .i64, .bool, .bool, .int .i64, .int .i64, .int .i64, .int .i64, .int .i64, .int .i64], .int .i64, .int .i64, .int .i64]), .var 112 (.agg [.int .i64, .int .i64, .sl 3]), .row y0 38, .row (.int .i64) 3]⟩]
noncomputable def F91 (N : Nat) : (ByteArray × ByteArray × Nat × Int × Bool × ByteArray × Int × Int × Int × Bool × Bool × Int × Int × Int × Int × Int × Int × Int × Int × Int × Int × Int × (List (Int × (Bool × (Int × ((Int × (Int × (Int × (Int × Unit)))) × ((Int × (Int × (Bool × (Bool × (Int × (Int × (Int × (Int × (Int × (Int × Unit)))))))))) × ((List Int) × (ByteArray × Unit)))))))) × (List Int)) → Option (ByteArray × ByteArray × Nat × Int × Bool × ByteArray × Int × Int × Int × Bool × Bool × Int × Int × Int × Int × Int × Int × Int × Int × Int × Int × Int × (List (Int × (Bool × (Int × ((Int × (Int × (Int × (Int × Unit)))) × ((Int × (Int × (Bool × (Bool × (Int × (Int × (Int × (Int × (Int × (Int × Unit)))))))))) × ((List Int) × (ByteArray × Unit)))))))) × (List Int))
  | (x0, x1, x2, x3, x4, x5, x6, x7, x8, x9, x10, x11, x12, x13, x14, x15, x16, x17, x18, x19, x20, x21, x22, x23) =>
  iteP (decide (x17 > (0 : Int))) (
    some ((x0, x1, (95 : Nat), x3, x4, x5, x6, x7, x8, x9, x10, x11, x12, x13, x14, x15, x16, x17, x18, x19, x20, x21, x22, x23))) (
    some ((x0, x1, (83 : Nat), x3, x4, x5, x6, x7, x8, x9, x10, x11, x12, x13, x14, x15, x16, x17, x18, IntKind.wrap IntKind.i64 (x19 + (1 : Int)), x20, x21, x22, x23)))
noncomputable def T91 (N : Nat) : Pk → Tr Pk := tellS s91 w91 (F91 N)
theorem T91_ok (N : Nat) : FOK Tryz.prog (91) (T91 N) :=
  (fn_ok2 ownT mix (tab91_ok N) Tryz.func91 s91 w91 [0, 1] (cuts := []) trivial (fun _ => by kernel_rfl) (by decide +kernel) (F91 N) (fun x => by kernel_rfl))
@[reducible] def s92 : SP := ⟨[.adr 0 [.f 5 5], .agg [.int .i64, .bool, .int .i64, .agg [.int .i64, .int .i64, .int .i64, .int .i64], .agg [.int .i64, .int .i64, .bool, .bool, .int .i64, .int .i64, .int .i64, .int .i64, .int .i64, .int .i64], .sl 2, .str]], [.var 74 (.agg [.adr 1 [], .str, .str, .fv, .int .i64, .agg [.sl 3], .agg [.agg [.agg [.agg [.bool, .str], .int .i64]]], .agg [.int .i64, .int .i64, .bool, .bool, .int .i64, .int .i64, .int .i64, .int .i64, .int .i64, .int .i64], .int .i64, .int .i64, .int .i64]), .var 112 (.agg [.int .i64, .int .i64, .sl 4]), .row (.int .i64) 3, .row y0 38, .row (.int .i64) 3]⟩
noncomputable def tab92 (N : Nat) : List (Nat × (Pk → Tr Pk)) := []
theorem tab92_ok (N : Nat) : TabOK Tryz.prog (tab92 N) := trivial
@[reducible] def w92 : List SP := [⟨[.tup []], [.var 74 (.agg [.adr 1 [], .str, .str, .fv, .int .i64, .agg [.sl 2], .agg [.agg [.agg [.agg [.bool, .str], .int .i64]]], .agg [.int .i64, .int .i64, .bool, .bool, .int .i64, .int .i64, .int .i64, .int .i64, .int .i64, .int .i64], .int .i64, .int .i64, .int .i64]), .var 112 (.agg [.int .i64, .int .i64, .sl 3]), .row y0 38, .row (.int .i64) 3]⟩]
noncomputable def F92 (N : Nat) : (Int × Bool × Int × Int × Int × Int × Int × Int × Int × Bool × Bool × Int × Int × Int × Int × Int × Int × ByteArray × ByteArray × ByteArray × Nat × Int × Bool × ByteArray × Int × Int × Int × Bool × Bool × Int × Int × Int × Int × Int × Int × Int × Int × Int × Int × Int × (List Int) × (List (Int × (Bool × (Int × ((Int × (Int × (Int × (Int × Unit)))) × ((Int × (Int × (Bool × (Bool × (Int × (Int × (Int × (Int × (Int × (Int × Unit)))))))))) × ((List Int) × (ByteArray × Unit)))))))) × (List Int)) → Option (ByteArray × ByteArray × Nat × Int × Bool × ByteArray × Int × Int × Int × Bool × Bool × Int × Int × Int × Int × Int × Int × Int × Int × Int × Int × Int × (List (Int × (Bool × (Int × ((Int × (Int × (Int × (Int × Unit)))) × ((Int × (Int × (Bool × (Bool × (Int × (Int × (Int × (Int × (Int × (Int × Unit)))))))))) × ((List Int) × (ByteArray × Unit)))))))) × (List Int))
  | (x0, x1, x2, x3, x4, x5, x6, x7, x8, x9, x10, x11, x12, x13, x14, x15, x16, x17, x18, x19, x20, x21, x22, x23, x24, x25, x26, x27, x28, x29, x30, x31, x32, x33, x34, x35, x36, x37, x38, x39, x40, x41, x42) =>
  iteP (decide ((List.length x41 + List.length [(x0, x1, x2, (x3, x4, x5, x6, ()), (x7, x8, x9, x10, x11, x12, x13, x14, x15, x16, ()), x40, x17, ())]) * (168 : Nat) ≤ (140737488355328 : Nat) ∧ List.length x41 + List.length [(x0, x1, x2, (x3, x4, x5, x6, ()), (x7, x8, x9, x10, x11, x12, x13, x14, x15, x16, ()), x40, x17, ())] ≤ (140737488355328 : Nat))) (
    some ((x18, x19, x20, x21, x22, x23, x24, x25, x26, x27, x28, x29, x30, x31, x32, x33, x34, x35, x36, x37, x38, x39, x41 ++ [(x0, x1, x2, (x3, x4, x5, x6, ()), (x7, x8, x9, x10, x11, x12, x13, x14, x15, x16, ()), x40, x17, ())], x42))) (
    none )
noncomputable def T92 (N : Nat) : Pk → Tr Pk := tellS s92 w92 (F92 N)
theorem T92_ok (N : Nat) : FOK Tryz.prog (92) (T92 N) :=
  (fn_ok2 ownT mix (tab92_ok N) Tryz.func92 s92 w92 [0, 1] (cuts := []) trivial (fun _ => by kernel_rfl) (by decide +kernel) (F92 N) (fun x => by kernel_rfl))
@[reducible] def s83a : SP := ⟨[.adr 0 []], [.var 74 (.agg [.adr 1 [], .str, .str, .fv, .int .i64, .agg [.sl 2], .agg [.agg [.agg [.agg [.bool, .str], .int .i64]]], .agg [.int .i64, .int .i64, .bool, .bool, .int .i64, .int .i64, .int .i64, .int .i64, .int .i64, .int .i64], .int .i64, .int .i64, .int .i64]), .var 112 (.agg [.int .i64, .int .i64, .sl 3]), .row y0 38, .row (.int .i64) 3]⟩
noncomputable def tab83a (N : Nat) : List (Nat × (Pk → Tr Pk)) := [(90, T90 N), (91, T91 N), (92, T92 N)]
theorem tab83a_ok (N : Nat) : TabOK Tryz.prog (tab83a N) := ⟨T90_ok N, T91_ok N, T92_ok N, trivial⟩
@[reducible] def w83a : List SP := [⟨[.tup [.int .i64, .int .i64]], [.var 74 (.agg [.adr 1 [], .str, .str, .fv, .int .i64, .agg [.sl 2], .agg [.agg [.agg [.agg [.bool, .str], .int .i64]]], .agg [.int .i64, .int .i64, .bool, .bool, .int .i64, .int .i64, .int .i64, .int .i64, .int .i64, .int .i64], .int .i64, .int .i64, .int .i64]), .var 112 (.agg [.int .i64, .int .i64, .sl 3]), .row y0 38, .row (.int .i64) 3]⟩]
noncomputable def F83a (N : Nat) : (ByteArray × ByteArray × Nat × Int × Bool × ByteArray × Int × Int × Int × Bool × Bool × Int × Int × Int × Int × Int × Int × Int × Int × Int × Int × Int × (List (Int × (Bool × (Int × ((Int × (Int × (Int × (Int × Unit)))) × ((Int × (Int × (Bool × (Bool × (Int × (Int × (Int × (Int × (Int × (Int × Unit)))))))))) × ((List Int) × (ByteArray × Unit)))))))) × (List Int)) → Option (Int × Int × ByteArray × ByteArray × Nat × Int × Bool × ByteArray × Int × Int × Int × Bool × Bool × Int × Int × Int × Int × Int × Int × Int × Int × Int × Int × Int × (List (Int × (Bool × (Int × ((Int × (Int × (Int × (Int × Unit)))) × ((Int × (Int × (Bool × (Bool × (Int × (Int × (Int × (Int × (Int × (Int × Unit)))))))))) × ((List Int) × (ByteArray × Unit)))))))) × (List Int))
  | (x0, x1, x2, x3, x4, x5, x6, x7, x8, x9, x10, x11, x12, x13, x14, x15, x16, x17, x18, x19, x20, x21, x22, x23) =>
  Option.bind (F90 N x0) fun (y0_0, y0_1, y0_2, y0_3, y0_4, y0_5, y0_6, y0_7, y0_8, y0_9, y0_10, y0_11, y0_12, y0_13, y0_14, y0_15, y0_16, y0_17, y0_18, y0_19, y0_20) =>
  iteP (y0_19 != (0 : Int)) (
    some (((0 : Int), y0_19, x0, x1, x2, x3, x4, x5, x6, x7, x8, x9, x10, x11, x12, x13, x14, x15, x16, x17, x18, x19, x20, x21, x22, x23))) (
    iteP (y0_0 == (6 : Int)) (
      Option.bind (F91 N (x0, x1, x2, x3, x4, x5, x6, x7, x8, x9, x10, x11, x12, x13, x14, x15, x16, y0_2, x18, x19, x20, x21, x22, x23)) fun (y1_0, y1_1, y1_2, y1_3, y1_4, y1_5, y1_6, y1_7, y1_8, y1_9, y1_10, y1_11, y1_12, y1_13, y1_14, y1_15, y1_16, y1_17, y1_18, y1_19, y1_20, y1_21, y1_22, y1_23) =>
      some ((y0_18, (0 : Int), y1_0, y1_1, y1_2, y1_3, y1_4, y1_5, y1_6, y1_7, y1_8, y1_9, y1_10, y1_11, y1_12, y1_13, y1_14, y1_15, y1_16, y1_17, y1_18, y1_19, y1_20, y1_21, y1_22, y1_23))) (
      Option.bind (F92 N (y0_0, y0_1, y0_2, y0_3, y0_4, y0_5, y0_6, y0_7, y0_8, y0_9, y0_10, y0_11, y0_12, y0_13, y0_14, y0_15, y0_16, y0_17, x0, x1, x2, x3, x4, x5, x6, x7, x8, x9, x10, x11, x12, x13, x14, x15, x16, x17, x18, x19, x20, x21, y0_20, x22, x23)) fun (y2_0, y2_1, y2_2, y2_3, y2_4, y2_5, y2_6, y2_7, y2_8, y2_9, y2_10, y2_11, y2_12, y2_13, y2_14, y2_15, y2_16, y2_17, y2_18, y2_19, y2_20, y2_21, y2_22, y2_23) =>
      some ((y0_18, (0 : Int), y2_0, y2_1, y2_2, y2_3, y2_4, y2_5, y2_6, y2_7, y2_8, y2_9, y2_10, y2_11, y2_12, y2_13, y2_14, y2_15, y2_16, y2_17, y2_18, y2_19, y2_20, y2_21, y2_22, y2_23))))
noncomputable def T83a (N : Nat) : Pk → Tr Pk := tellS s83a w83a (F83a N)
theorem T83a_ok (N : Nat) : FOK Tryz.prog (83) (T83a N) :=
  (fn_ok2 ownT mix (tab83a_ok N) Tryz.func83 s83a w83a [0, 1] (cuts := []) trivial (fun _ => by kernel_rfl) (by decide +kernel) (F83a N) (fun x => by kernel_rfl))
@[reducible] def s100 : SP := ⟨[.adr 0 []], [.var 142 (.agg [.str, .int .i64, .int .i64])]⟩
noncomputable def tab100 (N : Nat) : List (Nat × (Pk → Tr Pk)) := [(66, T66 N)]
theorem tab100_ok (N : Nat) : TabOK Tryz.prog (tab100 N) := ⟨T66_ok N, trivial⟩
@[reducible] def w100 : List SP := [⟨[.int .i64], [.var 142 (.agg [.str, .int .i64, .int .i64])]⟩]
noncomputable def F100 (N : Nat) : (ByteArray × Int × Int) → Option (Int × ByteArray × Int × Int)
  | (x0, x1, x2) =>
  Option.bind (F66 N ((4 : Int), x0, x1, x2)) fun y0 =>
  some ((IntKind.wrap IntKind.i64 (IntKind.wrap IntKind.i32 y0.1), y0.2.1, y0.2.2.1, y0.2.2.2))
noncomputable def T100 (N : Nat) : Pk → Tr Pk := tellS s100 w100 (F100 N)
theorem T100_ok (N : Nat) : FOK Tryz.prog (100) (T100 N) :=
  (fn_ok2 ownT mix (tab100_ok N) Tryz.func100 s100 w100 [0] (cuts := []) trivial (fun _ => by kernel_rfl) (by decide +kernel) (F100 N) (fun x => by kernel_rfl))
@[reducible] def s99 : SP := ⟨[.adr 0 []], [.var 133 (.agg [.adr 1 [], .int .i64]), .var 142 (.agg [.str, .int .i64, .int .i64])]⟩
noncomputable def tab99 (N : Nat) : List (Nat × (Pk → Tr Pk)) := [(66, T66 N), (100, T100 N)]
theorem tab99_ok (N : Nat) : TabOK Tryz.prog (tab99 N) := ⟨T66_ok N, T100_ok N, trivial⟩
@[reducible] def L99_58 : LD := ⟨58, [15, 2, 3, 14, 0], [(.ret, [2]), (.exit 0, [0, 3, 2])], ⟨[.int .i64, .adr 2 [], .adr 3 [], .agg [.adr 3 [.f 0 0, .f 0 0], .adr 3 [.f 0 0, .f 1 1], .adr 3 [.f 0 0, .f 2 2], .adr 3 [.f 0 0, .f 3 3]], .adr 0 []], [.var 133 (.agg [.adr 1 [], .int .i64]), .var 142 (.agg [.str, .int .i64, .int .i64]), .var 160 (.agg [.agg [.int .i64, .int .i64, .int .i64, .int .i64], .int .i64]), .var 160 (.agg [.agg [.int .i64, .int .i64, .int .i64, .int .i64], .int .i64])]⟩, [(.exit 0, ⟨[.adr 0 [], .adr 2 [], .adr 3 []], [.var 133 (.agg [.adr 1 [], .int .i64]), .var 142 (.agg [.str, .int .i64, .int .i64]), .var 160 (.agg [.agg [.int .i64, .int .i64, .int .i64, .int .i64], .int .i64]), .var 160 (.agg [.agg [.int .i64, .int .i64, .int .i64, .int .i64], .int .i64])]⟩)]⟩
abbrev P99_58 : Type := Int × Int × ByteArray × Int × Int × Int × Int × Int × Int × Int × Int × Int × Int × Int × Int
abbrev R99_58 : Type := Int × ByteArray × Int × Int × Int × Int × Int × Int × Int × Int × Int × Int × Int × Int
noncomputable def B99_58 (N : Nat) (f : P99_58 → Option R99_58) : P99_58 → Option R99_58
  | (x0, x1, x2, x3, x4, x5, x6, x7, x8, x9, x10, x11, x12, x13, x14) =>
  iteP (decide (x0 < (4 : Int))) (
    iteP (decide (x0 = (0 : Int))) (
      Option.bind (F66 N ((2 : Int), x2, x3, x4)) fun y0 =>
      Option.bind (f (IntKind.wrap IntKind.i64 (x0 + (1 : Int)), x1, y0.2.1, y0.2.2.1, y0.2.2.2, x5, x6, x7, x8, x9, y0.1, x11, x12, x13, x14)) fun r => some r) (
      iteP (decide (x0 = (1 : Int))) (
        Option.bind (F66 N ((2 : Int), x2, x3, x4)) fun y1 =>
        Option.bind (f (IntKind.wrap IntKind.i64 (x0 + (1 : Int)), x1, y1.2.1, y1.2.2.1, y1.2.2.2, x5, x6, x7, x8, x9, x10, y1.1, x12, x13, x14)) fun r => some r) (
        iteP (decide (x0 = (2 : Int))) (
          Option.bind (F66 N ((2 : Int), x2, x3, x4)) fun y2 =>
          Option.bind (f (IntKind.wrap IntKind.i64 (x0 + (1 : Int)), x1, y2.2.1, y2.2.2.1, y2.2.2.2, x5, x6, x7, x8, x9, x10, x11, y2.1, x13, x14)) fun r => some r) (
          iteP (decide (x0 = (3 : Int))) (
            Option.bind (F66 N ((2 : Int), x2, x3, x4)) fun y3 =>
            Option.bind (f (IntKind.wrap IntKind.i64 (x0 + (1 : Int)), x1, y3.2.1, y3.2.2.1, y3.2.2.2, x5, x6, x7, x8, x9, x10, x11, x12, y3.1, x14)) fun r => some r) (
            none ))))) (
    some ((x1, x2, x3, x4, x10, x11, x12, x13, x14, x5, x6, x7, x8, x9)))
noncomputable def F99_58 (N : Nat) : Nat → P99_58 → Option R99_58
  | 0, _ => none
  | k + 1, x => B99_58 N (F99_58 N k) x
noncomputable def C99_58 (N : Nat) (k : Nat) : Cut := L99_58.cut (F99_58 N k)
theorem C99_58_ok (N : Nat) (k : Nat) : CutAt Tryz.prog false Tryz.f99 [0, 1] 58 (C99_58 N k) :=
  L99_58.loopT ownT mix (tab99_ok N) Tryz.f99 [0, 1] (cuts := []) trivial (by decide +kernel) (by kernel_rfl) (B99_58 N) (F99_58 N) (fun _ => rfl) (fun _ _ => rfl) (fun f x => by kernel_rfl) k
@[reducible] def w99 : List SP := [⟨[.agg [.agg [.int .i64, .int .i64, .int .i64, .int .i64], .int .i64]], [.var 133 (.agg [.adr 1 [], .int .i64]), .var 142 (.agg [.str, .int .i64, .int .i64])]⟩]
noncomputable def F99 (N : Nat) : (Int × ByteArray × Int × Int) → Option (Int × Int × Int × Int × Int × Int × ByteArray × Int × Int)
  | (x0, x1, x2, x3) =>
  Option.bind (F99_58 N N ((0 : Int), x0, x1, x2, x3, (0 : Int), (0 : Int), (0 : Int), (0 : Int), (0 : Int), (0 : Int), (0 : Int), (0 : Int), (0 : Int), (0 : Int))) fun (y0_0, y0_1, y0_2, y0_3, y0_4, y0_5, y0_6, y0_7, y0_8, y0_9, y0_10, y0_11, y0_12, y0_13) =>
  Option.bind (F100 N (y0_1, y0_2, y0_3)) fun y1 =>
  some ((y0_4, y0_5, y0_6, y0_7, y1.1, y0_0, y1.2.1, y1.2.2.1, y1.2.2.2))
noncomputable def T99 (N : Nat) : Pk → Tr Pk := tellS s99 w99 (F99 N)
theorem T99_ok (N : Nat) : FOK Tryz.prog (99) (T99 N) :=
  (fn_ok2 ownT mix (tab99_ok N) Tryz.func99 s99 w99 [0, 1] (cuts := [(58, C99_58 N N)]) ⟨C99_58_ok N N, trivial⟩ (fun _ => by kernel_rfl) (by decide +kernel) (F99 N) (fun x => by kernel_rfl))
@[reducible] def s98 : SP := ⟨[.str, .fn 99], []⟩
noncomputable def tab98 (N : Nat) : List (Nat × (Pk → Tr Pk)) := [(74, T74 N), (99, T99 N), (67, T67 N), (75, T75 N)]
theorem tab98_ok (N : Nat) : TabOK Tryz.prog (tab98 N) := ⟨T74_ok N, T99_ok N, T67_ok N, T75_ok N, trivial⟩
@[reducible] def w98 : List SP := [⟨[.tup [.agg [.agg [.int .i64, .int .i64, .int .i64, .int .i64], .int .i64], .int .i64, .int .i64]], []⟩]
noncomputable def F98 (N : Nat) : (ByteArray) → Option (Int × Int × Int × Int × Int × Int × Int)
  | x0 =>
  Option.bind (F74 N x0) fun y0 =>
  Option.bind (F99 N ((0 : Int), y0.1, y0.2.1, y0.2.2)) fun (y1_0, y1_1, y1_2, y1_3, y1_4, y1_5, y1_6, y1_7, y1_8) =>
  iteP (y1_5 == (0 : Int)) (
    Option.bind (F67 N (y1_6, y1_7, y1_8, ())) fun y2 =>
    iteP (y2 != (0 : Int)) (
      some (((0 : Int), (0 : Int), (0 : Int), (0 : Int), (0 : Int), (0 : Int), y2))) (
      Option.bind (F75 N (y1_6, y1_7, y1_8, ())) fun y3 =>
      some ((y1_0, y1_1, y1_2, y1_3, y1_4, y3, (0 : Int))))) (
    iteP (y1_5 != (0 : Int)) (
      some (((0 : Int), (0 : Int), (0 : Int), (0 : Int), (0 : Int), (0 : Int), y1_5))) (
      Option.bind (F75 N (y1_6, y1_7, y1_8, ())) fun y4 =>
      some ((y1_0, y1_1, y1_2, y1_3, y1_4, y4, (0 : Int)))))
noncomputable def T98 (N : Nat) : Pk → Tr Pk := tellS s98 w98 (F98 N)
theorem T98_ok (N : Nat) : FOK Tryz.prog (98) (T98 N) :=
  (fn_ok2 ownT mix (tab98_ok N) Tryz.func98 s98 w98 [] (cuts := []) trivial (fun _ => by kernel_rfl) (by decide +kernel) (F98 N) (fun x => by kernel_rfl))
@[reducible] def s96 : SP := ⟨[.str], []⟩
noncomputable def tab96 (N : Nat) : List (Nat × (Pk → Tr Pk)) := [(98, T98 N)]
theorem tab96_ok (N : Nat) : TabOK Tryz.prog (tab96 N) := ⟨T98_ok N, trivial⟩
@[reducible] def w96 : List SP := [⟨[.tup [.agg [.agg [.int .i64, .int .i64, .int .i64, .int .i64], .int .i64], .int .i64, .int .i64]], []⟩]
noncomputable def F96 (N : Nat) : (ByteArray) → Option (Int × Int × Int × Int × Int × Int × Int)
  | x0 =>
  Option.bind (F98 N x0) fun (y0_0, y0_1, y0_2, y0_3, y0_4, y0_5, y0_6) =>
  some ((y0_0, y0_1, y0_2, y0_3, y0_4, y0_5, y0_6))
noncomputable def T96 (N : Nat) : Pk → Tr Pk := tellS s96 w96 (F96 N)
theorem T96_ok (N : Nat) : FOK Tryz.prog (96) (T96 N) :=
  (fn_ok2 ownT mix (tab96_ok N) Tryz.func96 s96 w96 [] (cuts := []) trivial (fun _ => by kernel_rfl) (by decide +kernel) (F96 N) (fun x => by kernel_rfl))
@[reducible] def s108 : SP := ⟨[.int .i64, .int .i64], []⟩
noncomputable def tab108 (N : Nat) : List (Nat × (Pk → Tr Pk)) := []
theorem tab108_ok (N : Nat) : TabOK Tryz.prog (tab108 N) := trivial
@[reducible] def w108 : List SP := [⟨[.agg [.int .i64, .int .i64, .int .i64, .int .i64]], []⟩]
noncomputable def F108 (N : Nat) : (Int × Int) → Option (Int × Int × Int × Int)
  | (x0, x1) =>
  some (((0 : Int), (0 : Int), x0, x1))
noncomputable def T108 (N : Nat) : Pk → Tr Pk := tellS s108 w108 (F108 N)
theorem T108_ok (N : Nat) : FOK Tryz.prog (108) (T108 N) :=
  (fn_ok2 ownT mix (tab108_ok N) Tryz.func108 s108 w108 [] (cuts := []) trivial (fun _ => by kernel_rfl) (by decide +kernel) (F108 N) (fun x => by kernel_rfl))
@[reducible] def s110 : SP := ⟨[.int .i64, .int .i64, .int .i64], []⟩
noncomputable def tab110 (N : Nat) : List (Nat × (Pk → Tr Pk)) := []
theorem tab110_ok (N : Nat) : TabOK Tryz.prog (tab110 N) := trivial
@[reducible] def w110 : List SP := [⟨[.bool], []⟩]
noncomputable def F110 (N : Nat) : (Int × Int × Int) → Option (Bool)
  | (x0, x1, x2) =>
  iteP (decide (x0 ≥ (0 : Int))) (
    iteP (decide (x1 ≥ (0 : Int))) (
      iteP (decide (x1 ≤ x2)) (
        some (decide (x0 ≤ IntKind.wrap IntKind.i64 (x2 - x1)))) (
        some (false))) (
      some (false))) (
    some (false))
noncomputable def T110 (N : Nat) : Pk → Tr Pk := tellS s110 w110 (F110 N)
theorem T110_ok (N : Nat) : FOK Tryz.prog (110) (T110 N) :=
  (fn_ok2 ownT mix (tab110_ok N) Tryz.func110 s110 w110 [] (cuts := []) trivial (fun _ => by kernel_rfl) (by decide +kernel) (F110 N) (fun x => by kernel_rfl))
@[reducible] def s104 : SP := ⟨[.agg [.int .i64, .int .i64, .int .i64, .int .i64], .int .i64, .int .i64], []⟩
noncomputable def tab104 (N : Nat) : List (Nat × (Pk → Tr Pk)) := [(110, T110 N)]
theorem tab104_ok (N : Nat) : TabOK Tryz.prog (tab104 N) := ⟨T110_ok N, trivial⟩
@[reducible] def w104 : List SP := [⟨[.bool], []⟩]
noncomputable def F104 (N : Nat) : (Int × Int × Int × Int × Int × Int) → Option (Bool)
  | (x0, x1, x2, x3, x4, x5) =>
  Option.bind (F110 N (x0, x2, x4)) fun y0 =>
  iteP (y0) (
    Option.bind (F110 N (x1, x3, x5)) fun y1 =>
    some (y1)) (
    some (false))
noncomputable def T104 (N : Nat) : Pk → Tr Pk := tellS s104 w104 (F104 N)
theorem T104_ok (N : Nat) : FOK Tryz.prog (104) (T104 N) :=
  (fn_ok2 ownT mix (tab104_ok N) Tryz.func104 s104 w104 [] (cuts := []) trivial (fun _ => by kernel_rfl) (by decide +kernel) (F104 N) (fun x => by kernel_rfl))
@[reducible] def s121 : SP := ⟨[.adr 0 [], .agg [.int .i64, .int .i64, .int .i64, .int .i64]], [.var 112 (.agg [.int .i64, .int .i64, .sl 1]), .row (.int .i64) 3]⟩
noncomputable def tab121 (N : Nat) : List (Nat × (Pk → Tr Pk)) := []
theorem tab121_ok (N : Nat) : TabOK Tryz.prog (tab121 N) := trivial
@[reducible] def w121 : List SP := [⟨[.clo 135 [.adr 1 [], .adr 2 []]], [.var 112 (.agg [.int .i64, .int .i64, .sl 3]), .var 35 (.agg [.int .i64, .int .i64, .int .i64, .int .i64]), .var 62 (.adr 0 []), .row (.int .i64) 3]⟩]
noncomputable def F121 (N : Nat) : (Int × Int × Int × Int × Int × Int × (List Int)) → Option (Int × Int × Int × Int × Int × Int × (List Int))
  | (x0, x1, x2, x3, x4, x5, x6) =>
  some ((x4, x5, x0, x1, x2, x3, x6))
noncomputable def T121 (N : Nat) : Pk → Tr Pk := tellS s121 w121 (F121 N)
theorem T121_ok (N : Nat) : FOK Tryz.prog (121) (T121 N) :=
  (fn_ok2 ownT mix (tab121_ok N) Tryz.func121 s121 w121 [0] (cuts := []) trivial (fun _ => by kernel_rfl) (by decide +kernel) (F121 N) (fun x => by kernel_rfl))
@[reducible] def s109r122 : SP := ⟨[.yv 0, .int .i64, .slp 1 .h .h, .adr 2 []], [.lp 2010695104034341126266 [6] [.adr 2 []] 0, .row (.int .i64) 3, .var 36 (.sl 3), .row (.int .i64) 3]⟩
noncomputable def tab109r122 (N : Nat) : List (Nat × (Pk → Tr Pk)) := []
theorem tab109r122_ok (N : Nat) : TabOK Tryz.prog (tab109r122 N) := trivial
@[reducible] def w109r122 : List SP := [⟨[.bc true], [.lp 2010695104034341126266 [6] [.adr 2 []] 0, .row (.int .i64) 3, .var 36 (.sl 3), .row (.int .i64) 3]⟩]
noncomputable def F109r122 (N : Nat) : (Int × Nat × Nat × (List Int) × (List Int)) → Option ((List Int) × (List Int))
  | (x0, x1, x2, x3, x4) =>
  iteP (decide ((List.length x4 + List.length (List.take x2 (List.drop x1 x3))) * (8 : Nat) ≤ (140737488355328 : Nat) ∧ List.length x4 + List.length (List.take x2 (List.drop x1 x3)) ≤ (140737488355328 : Nat))) (
    some ((x3, x4 ++ List.take x2 (List.drop x1 x3)))) (
    none )
noncomputable def T109r122 (N : Nat) : Pk → Tr Pk := tellS s109r122 w109r122 (F109r122 N)
theorem T109r122_ok (N : Nat) : FOK Tryz.prog (109 * bigK + 122) (T109r122 N) :=
  (rnd_ok ownT mix (tab109r122_ok N) Tryz.func109 122 s109r122 w109r122 [0, 1, 2, 2] (cuts := []) trivial (fun _ => by kernel_rfl) (by decide +kernel) (F109r122 N) (fun x => by kernel_rfl))
@[reducible] def s135 : SP := ⟨[.yv 0, .adr 1 [], .adr 2 []], [.lp 2010695104034341126266 [6] [.adr 3 []] 0, .var 35 (.agg [.int .i64, .int .i64, .int .i64, .int .i64]), .var 62 (.adr 4 []), .var 36 (.sl 5), .var 112 (.agg [.int .i64, .int .i64, .sl 6]), .row (.int .i64) 3, .row (.int .i64) 3]⟩
noncomputable def tab135 (N : Nat) : List (Nat × (Pk → Tr Pk)) := [(109 * bigK + 122, T109r122 N)]
theorem tab135_ok (N : Nat) : TabOK Tryz.prog (tab135 N) := ⟨T109r122_ok N, trivial⟩
@[reducible] def L135_6 : LD := ⟨6, [7, 0, 2, 1, 8], [(.exit 0, [])], ⟨[.int .i64, .yv 0, .adr 2 [], .adr 1 [], .int .i64], [.lp 2010695104034341126266 [6] [.adr 3 []] 0, .var 35 (.agg [.int .i64, .int .i64, .int .i64, .int .i64]), .var 62 (.adr 4 []), .var 36 (.sl 5), .var 112 (.agg [.int .i64, .int .i64, .sl 6]), .row (.int .i64) 3, .row (.int .i64) 3]⟩, [(.exit 0, ⟨[], [.lp 2010695104034341126266 [6] [.adr 3 []] 0, .var 35 (.agg [.int .i64, .int .i64, .int .i64, .int .i64]), .var 62 (.adr 4 []), .var 36 (.sl 5), .var 112 (.agg [.int .i64, .int .i64, .sl 6]), .row (.int .i64) 3, .row (.int .i64) 3]⟩)]⟩
abbrev P135_6 : Type := Int × Int × Int × Int × Int × Int × Int × Int × (List Int) × (List Int)
abbrev R135_6 : Type := Int × Int × Int × Int × Int × Int × (List Int) × (List Int)
noncomputable def B135_6 (N : Nat) (f : P135_6 → Option R135_6) : P135_6 → Option R135_6
  | (x0, x1, x2, x3, x4, x5, x6, x7, x8, x9) =>
  iteP (decide (x1 < x0)) (
    iteP (decide ((0 : Int) ≤ IntKind.wrap IntKind.i64 (IntKind.wrap IntKind.i64 (IntKind.wrap IntKind.i64 (IntKind.wrap IntKind.i64 (x3 + x1) * x6) + x2) + x4) ∧ IntKind.wrap IntKind.i64 (IntKind.wrap IntKind.i64 (IntKind.wrap IntKind.i64 (IntKind.wrap IntKind.i64 (x3 + x1) * x6) + x2) + x4) ≤ (↑(List.length x9) : Int))) (
      iteP (decide ((0 : Int) ≤ IntKind.wrap IntKind.i64 (IntKind.wrap IntKind.i64 (IntKind.wrap IntKind.i64 (x3 + x1) * x6) + x2) ∧ IntKind.wrap IntKind.i64 (IntKind.wrap IntKind.i64 (IntKind.wrap IntKind.i64 (x3 + x1) * x6) + x2) ≤ (↑(Int.toNat (IntKind.wrap IntKind.i64 (IntKind.wrap IntKind.i64 (IntKind.wrap IntKind.i64 (IntKind.wrap IntKind.i64 (x3 + x1) * x6) + x2) + x4))) : Int))) (
        Option.bind (F109r122 N (x1, Int.toNat (IntKind.wrap IntKind.i64 (IntKind.wrap IntKind.i64 (IntKind.wrap IntKind.i64 (x3 + x1) * x6) + x2)), Int.toNat (IntKind.wrap IntKind.i64 (IntKind.wrap IntKind.i64 (IntKind.wrap IntKind.i64 (IntKind.wrap IntKind.i64 (x3 + x1) * x6) + x2) + x4)) - Int.toNat (IntKind.wrap IntKind.i64 (IntKind.wrap IntKind.i64 (IntKind.wrap IntKind.i64 (x3 + x1) * x6) + x2)), x9, x8)) fun y0 =>
        Option.bind (f (x0, IntKind.wrap IntKind.i64 (x1 + (1 : Int)), x2, x3, x4, x5, x6, x7, y0.2, y0.1)) fun r => some r) (
        none )) (
      none )) (
    some ((x2, x3, x4, x5, x6, x7, x8, x9)))
noncomputable def F135_6 (N : Nat) : Nat → P135_6 → Option R135_6
  | 0, _ => none
  | k + 1, x => B135_6 N (F135_6 N k) x
noncomputable def C135_6 (N : Nat) (k : Nat) : Cut := L135_6.cut (F135_6 N k)
theorem C135_6_ok (N : Nat) (k : Nat) : CutAt Tryz.prog false Tryz.f135 [0, 1, 2, 3, 4] 6 (C135_6 N k) :=
  L135_6.loopT ownT mix (tab135_ok N) Tryz.f135 [0, 1, 2, 3, 4] (cuts := []) trivial (by decide +kernel) (by kernel_rfl) (B135_6 N) (F135_6 N) (fun _ => rfl) (fun _ _ => rfl) (fun f x => by kernel_rfl) k
@[reducible] def w135 : List SP := [⟨[.tup []], [.lp 2010695104034341126266 [6] [.adr 3 []] 0, .var 35 (.agg [.int .i64, .int .i64, .int .i64, .int .i64]), .var 62 (.adr 4 []), .var 36 (.sl 5), .var 112 (.agg [.int .i64, .int .i64, .sl 6]), .row (.int .i64) 3, .row (.int .i64) 3]⟩]
noncomputable def F135 (N : Nat) : (Int × Int × Int × Int × Int × Int × (List Int) × (List Int)) → Option (Int × Int × Int × Int × Int × Int × (List Int) × (List Int))
  | (x0, x1, x2, x3, x4, x5, x6, x7) =>
  Option.bind (F135_6 N N (x3, (0 : Int), x0, x1, x2, x3, x4, x5, x6, x7)) fun (y0_0, y0_1, y0_2, y0_3, y0_4, y0_5, y0_6, y0_7) =>
  some ((y0_0, y0_1, y0_2, y0_3, y0_4, y0_5, y0_6, y0_7))
noncomputable def T135 (N : Nat) : Pk → Tr Pk := tellS s135 w135 (F135 N)
theorem T135_ok (N : Nat) : FOK Tryz.prog (135) (T135 N) :=
  (fn_ok2 ownT mix (tab135_ok N) Tryz.func135 s135 w135 [0, 1, 2, 3, 4] (cuts := [(6, C135_6 N N)]) ⟨C135_6_ok N N, trivial⟩ (fun _ => by kernel_rfl) (by decide +kernel) (F135 N) (fun x => by kernel_rfl))
@[reducible] def s109 : SP := ⟨[.adr 0 [], .agg [.int .i64, .int .i64, .int .i64, .int .i64]], [.var 112 (.agg [.int .i64, .int .i64, .sl 1]), .row (.int .i64) 3]⟩
noncomputable def tab109 (N : Nat) : List (Nat × (Pk → Tr Pk)) := [(104, T104 N), (121, T121 N), (135, T135 N)]
theorem tab109_ok (N : Nat) : TabOK Tryz.prog (tab109 N) := ⟨T104_ok N, T121_ok N, T135_ok N, trivial⟩
@[reducible] def L109_122 : LD := ⟨122, [5, 4, 6, 22], [(.ret, [4, 5]), (.exit 0, [6]), (.normal, [6])], ⟨[.int .i64, .sl 1, .adr 2 [], .clo 135 [.adr 3 [], .adr 4 []]], [.var 112 (.agg [.int .i64, .int .i64, .sl 5]), .row (.int .i64) 3, .var 36 (.sl 6), .var 35 (.agg [.int .i64, .int .i64, .int .i64, .int .i64]), .var 62 (.adr 0 []), .row (.int .i64) 3, .row (.int .i64) 3]⟩, [(.normal, ⟨[.adr 1 []], [.var 112 (.agg [.int .i64, .int .i64, .sl 2]), .var 36 (.sl 3), .row (.int .i64) 3, .row (.int .i64) 3]⟩)]⟩
noncomputable def F109_122 (N : Nat) : (Int × Int × Int × (List Int) × Int × Int × Int × Int × (List Int) × (List Int)) → Option (Int × Int × (List Int) × (List Int))
  | (x0, x1, x2, x3, x4, x5, x6, x7, x8, x9) =>
  Option.bind (F135 N (x4, x5, x6, x7, x1, x2, x9, x8)) fun (y0_0, y0_1, y0_2, y0_3, y0_4, y0_5, y0_6, y0_7) =>
  some ((y0_4, y0_5, y0_7, y0_6))
noncomputable def C109_122 (N : Nat) (_ : Nat) : Cut := L109_122.cut (F109_122 N)
theorem C109_122_ok (N : Nat) (k : Nat) : CutAt Tryz.prog false Tryz.f109 [0] 122 (C109_122 N k) :=
  L109_122.rngT ownT mix (tab109_ok N) Tryz.func109 [0] [6] (by decide +kernel) (F109_122 N) (fun x => by kernel_rfl)
@[reducible] def w109 : List SP := [⟨[.tup [.sl 1, .int .i64]], [.var 112 (.agg [.int .i64, .int .i64, .sl 2]), .row (.int .i64) 3, .row (.int .i64) 3]⟩]
noncomputable def F109 (N : Nat) : (Int × Int × Int × Int × Int × Int × (List Int)) → Option (Int × Int × Int × (List Int) × (List Int))
  | (x0, x1, x2, x3, x4, x5, x6) =>
  Option.bind (F104 N (x0, x1, x2, x3, x4, x5)) fun y0 =>
  iteP (!y0) (
    some (((140 : Int), x4, x5, [], x6))) (
    Option.bind (F121 N (x0, x1, x2, x3, x4, x5, x6)) fun (y1_0, y1_1, y1_2, y1_3, y1_4, y1_5, y1_6) =>
    Option.bind (F109_122 N ((0 : Int), y1_0, y1_1, [], y1_2, y1_3, y1_4, y1_5, y1_6, [])) fun y2 =>
    some (((0 : Int), y2.1, y2.2.1, y2.2.2.2, y2.2.2.1)))
noncomputable def T109 (N : Nat) : Pk → Tr Pk := tellS s109 w109 (F109 N)
theorem T109_ok (N : Nat) : FOK Tryz.prog (109) (T109 N) :=
  (fn_ok2 ownT mix (tab109_ok N) Tryz.func109 s109 w109 [0] (cuts := [(122, C109_122 N N)]) ⟨C109_122_ok N N, trivial⟩ (fun _ => by kernel_rfl) (by decide +kernel) (F109 N) (fun x => by kernel_rfl))
@[reducible] def s107 : SP := ⟨[.nilp, .agg [.int .i64, .int .i64, .int .i64, .int .i64], .ro (.int .i64)], []⟩
noncomputable def tab107 (N : Nat) : List (Nat × (Pk → Tr Pk)) := []
theorem tab107_ok (N : Nat) : TabOK Tryz.prog (tab107 N) := trivial
@[reducible] def w107 : List SP := []
noncomputable def F107 (N : Nat) : (Int × Int × Int × Int × (List Int)) → Option (Unit)
  | (x0, x1, x2, x3, x4) =>
  none 
noncomputable def T107 (N : Nat) : Pk → Tr Pk := tellS s107 w107 (F107 N)
theorem T107_ok (N : Nat) : FOK Tryz.prog (107) (T107 N) :=
  (fn_ok2 ownT mix (tab107_ok N) Tryz.func107 s107 w107 [] (cuts := []) trivial (fun _ => by kernel_rfl) (by decide +kernel) (F107 N) (fun x => by kernel_rfl))
@[reducible] def s119 : SP := ⟨[.int .i64], []⟩
noncomputable def tab119 (N : Nat) : List (Nat × (Pk → Tr Pk)) := []
theorem tab119_ok (N : Nat) : TabOK Tryz.prog (tab119 N) := trivial
@[reducible] def w119 : List SP := [⟨[.bool], []⟩]
noncomputable def F119 (N : Nat) : (Int) → Option (Bool)
  | x0 =>
  iteP (decide ((0 : Int) ≤ x0)) (
    some (decide (x0 ≤ (16777215 : Int)))) (
    some (false))
noncomputable def T119 (N : Nat) : Pk → Tr Pk := tellS s119 w119 (F119 N)
theorem T119_ok (N : Nat) : FOK Tryz.prog (119) (T119 N) :=
  (fn_ok2 ownT mix (tab119_ok N) Tryz.func119 s119 w119 [] (cuts := []) trivial (fun _ => by kernel_rfl) (by decide +kernel) (F119 N) (fun x => by kernel_rfl))
@[reducible] def s118 : SP := ⟨[.int .i64], []⟩
noncomputable def tab118 (N : Nat) : List (Nat × (Pk → Tr Pk)) := [(119, T119 N)]
theorem tab118_ok (N : Nat) : TabOK Tryz.prog (tab118 N) := ⟨T119_ok N, trivial⟩
@[reducible] def w118 : List SP := [⟨[.bool], []⟩]
noncomputable def F118 (N : Nat) : (Int) → Option (Bool)
  | x0 =>
  Option.bind (F119 N x0) fun y0 =>
  some (!y0)
noncomputable def T118 (N : Nat) : Pk → Tr Pk := tellS s118 w118 (F118 N)
theorem T118_ok (N : Nat) : FOK Tryz.prog (118) (T118 N) :=
  (fn_ok2 ownT mix (tab118_ok N) Tryz.func118 s118 w118 [] (cuts := []) trivial (fun _ => by kernel_rfl) (by decide +kernel) (F118 N) (fun x => by kernel_rfl))
@[reducible] def s134 : SP := ⟨[.ro (.int .i64), .fn 118], []⟩
noncomputable def tab134 (N : Nat) : List (Nat × (Pk → Tr Pk)) := [(118, T118 N)]
theorem tab134_ok (N : Nat) : TabOK Tryz.prog (tab134 N) := ⟨T118_ok N, trivial⟩
@[reducible] def L134_26 : LD := ⟨26, [7, 1, 0, 8], [(.ret, [4]), (.exit 0, [])], ⟨[.int .i64, .fn 118, .ro (.int .i64), .int .i64], []⟩, [(.ret, ⟨[.int .i64], []⟩), (.exit 0, ⟨[], []⟩)]⟩
abbrev P134_26 : Type := Int × (List Int) × Int
abbrev R134_26 : Type := ((Int) ⊕ (Unit))
noncomputable def B134_26 (N : Nat) (f : P134_26 → Option R134_26) : P134_26 → Option R134_26
  | (x0, x1, x2) =>
  iteP (decide (x2 < x0)) (
    iteP (within x2 (List.length x1)) (
      Option.bind (x1[Int.toNat x2]?) fun y0 =>
      Option.bind (F118 N y0) fun y1 =>
      iteP (y1) (
        some (.inl (x2))) (
        Option.bind (f (x0, x1, IntKind.wrap IntKind.i64 (x2 + (1 : Int)))) fun r => match r with | .inl y => some (.inl y) | .inr y => some (.inr y))) (
      none )) (
    some (.inr (())))
noncomputable def F134_26 (N : Nat) : Nat → P134_26 → Option R134_26
  | 0, _ => none
  | k + 1, x => B134_26 N (F134_26 N k) x
noncomputable def C134_26 (N : Nat) (k : Nat) : Cut := L134_26.cut (F134_26 N k)
theorem C134_26_ok (N : Nat) (k : Nat) : CutAt Tryz.prog false Tryz.f134 [] 26 (C134_26 N k) :=
  L134_26.loopT ownT mix (tab134_ok N) Tryz.f134 [] (cuts := []) trivial (by decide +kernel) (by kernel_rfl) (B134_26 N) (F134_26 N) (fun _ => rfl) (fun _ _ => rfl) (fun f x => by kernel_rfl) k
@[reducible] def w134 : List SP := [⟨[.int .i64], []⟩]
noncomputable def F134 (N : Nat) : ((List Int)) → Option (Int)
  | x0 =>
  Option.bind (F134_26 N N ((↑(List.length x0) : Int), x0, (0 : Int))) fun y0 =>
  match y0 with
  | .inl y1 =>
    some (y1)
  | .inr y1 =>
    some ((-1 : Int))
noncomputable def T134 (N : Nat) : Pk → Tr Pk := tellS s134 w134 (F134 N)
theorem T134_ok (N : Nat) : FOK Tryz.prog (134) (T134 N) :=
  (fn_ok2 ownT mix (tab134_ok N) Tryz.func134 s134 w134 [] (cuts := [(26, C134_26 N N)]) ⟨C134_26_ok N N, trivial⟩ (fun _ => by kernel_rfl) (by decide +kernel) (F134 N) (fun x => by kernel_rfl))
@[reducible] def s120 : SP := ⟨[.ro (.int .i64), .fn 118], []⟩
noncomputable def tab120 (N : Nat) : List (Nat × (Pk → Tr Pk)) := [(134, T134 N)]
theorem tab120_ok (N : Nat) : TabOK Tryz.prog (tab120 N) := ⟨T134_ok N, trivial⟩
@[reducible] def w120 : List SP := [⟨[.bool], []⟩]
noncomputable def F120 (N : Nat) : ((List Int)) → Option (Bool)
  | x0 =>
  Option.bind (F134 N x0) fun y0 =>
  some (decide (y0 ≥ (0 : Int)))
noncomputable def T120 (N : Nat) : Pk → Tr Pk := tellS s120 w120 (F120 N)
theorem T120_ok (N : Nat) : FOK Tryz.prog (120) (T120 N) :=
  (fn_ok2 ownT mix (tab120_ok N) Tryz.func120 s120 w120 [] (cuts := []) trivial (fun _ => by kernel_rfl) (by decide +kernel) (F120 N) (fun x => by kernel_rfl))
@[reducible] def s107r122 : SP := ⟨[.yv 0, .int .i64, .slp 1 .h .h, .adr 2 [], .adr 3 []], [.lp 1973801615886922023034 [5, 4] [.adr 2 [], .adr 3 []] 0, .row (.int .i64) 3, .var 36 (.ro (.int .i64)), .var 35 (.agg [.int .i64, .int .i64, .int .i64, .int .i64])]⟩
noncomputable def tab107r122 (N : Nat) : List (Nat × (Pk → Tr Pk)) := []
theorem tab107r122_ok (N : Nat) : TabOK Tryz.prog (tab107r122 N) := trivial
@[reducible] def w107r122 : List SP := [⟨[.bc true], [.lp 1973801615886922023034 [5, 4] [.adr 2 [], .adr 3 []] 0, .row (.int .i64) 3, .var 36 (.ro (.int .i64)), .var 35 (.agg [.int .i64, .int .i64, .int .i64, .int .i64])]⟩]
noncomputable def F107r122 (N : Nat) : (Int × Nat × Nat × (List Int) × (List Int) × Int × Int × Int × Int) → Option ((List Int) × (List Int) × Int × Int × Int × Int)
  | (x0, x1, x2, x3, x4, x5, x6, x7, x8) =>
  iteP (decide ((0 : Int) ≤ IntKind.wrap IntKind.i64 (x0 * x7) ∧ IntKind.wrap IntKind.i64 (x0 * x7) ≤ (↑(List.length x4) : Int))) (
    some ((putL x3 (partO (some (x1, x2))) (List.take (min (List.length (List.take (List.length x4 - Int.toNat (IntKind.wrap IntKind.i64 (x0 * x7))) (List.drop (Int.toNat (IntKind.wrap IntKind.i64 (x0 * x7))) x4))) (partN (List.length x3) (some (x1, x2)))) (List.take (List.length x4 - Int.toNat (IntKind.wrap IntKind.i64 (x0 * x7))) (List.drop (Int.toNat (IntKind.wrap IntKind.i64 (x0 * x7))) x4))), x4, x5, x6, x7, x8))) (
    none )
noncomputable def T107r122 (N : Nat) : Pk → Tr Pk := tellS s107r122 w107r122 (F107r122 N)
theorem T107r122_ok (N : Nat) : FOK Tryz.prog (107 * bigK + 122) (T107r122 N) :=
  (rnd_ok ownT mix (tab107r122_ok N) Tryz.func107 122 s107r122 w107r122 [0, 1, 2, 3, 2, 3] (cuts := []) trivial (fun _ => by kernel_rfl) (by decide +kernel) (F107r122 N) (fun x => by kernel_rfl))
@[reducible] def s135a : SP := ⟨[.yv 0, .adr 1 [], .adr 2 []], [.lp 1973801615886922023034 [5, 4] [.adr 3 [], .adr 4 []] 0, .var 35 (.agg [.int .i64, .int .i64, .int .i64, .int .i64]), .var 62 (.adr 5 []), .var 36 (.ro (.int .i64)), .var 35 (.agg [.int .i64, .int .i64, .int .i64, .int .i64]), .var 112 (.agg [.int .i64, .int .i64, .sl 6]), .row (.int .i64) 3]⟩
noncomputable def tab135a (N : Nat) : List (Nat × (Pk → Tr Pk)) := [(107 * bigK + 122, T107r122 N)]
theorem tab135a_ok (N : Nat) : TabOK Tryz.prog (tab135a N) := ⟨T107r122_ok N, trivial⟩
@[reducible] def L135a_6 : LD := ⟨6, [7, 0, 2, 1, 8], [(.exit 0, [])], ⟨[.int .i64, .yv 0, .adr 2 [], .adr 1 [], .int .i64], [.lp 1973801615886922023034 [5, 4] [.adr 3 [], .adr 4 []] 0, .var 35 (.agg [.int .i64, .int .i64, .int .i64, .int .i64]), .var 62 (.adr 5 []), .var 36 (.ro (.int .i64)), .var 35 (.agg [.int .i64, .int .i64, .int .i64, .int .i64]), .var 112 (.agg [.int .i64, .int .i64, .sl 6]), .row (.int .i64) 3]⟩, [(.exit 0, ⟨[], [.lp 1973801615886922023034 [5, 4] [.adr 3 [], .adr 4 []] 0, .var 35 (.agg [.int .i64, .int .i64, .int .i64, .int .i64]), .var 62 (.adr 5 []), .var 36 (.ro (.int .i64)), .var 35 (.agg [.int .i64, .int .i64, .int .i64, .int .i64]), .var 112 (.agg [.int .i64, .int .i64, .sl 6]), .row (.int .i64) 3]⟩)]⟩
abbrev P135a_6 : Type := Int × Int × Int × Int × Int × Int × (List Int) × Int × Int × Int × Int × Int × Int × (List Int)
abbrev R135a_6 : Type := Int × Int × Int × Int × (List Int) × Int × Int × Int × Int × Int × Int × (List Int)
noncomputable def B135a_6 (N : Nat) (f : P135a_6 → Option R135a_6) : P135a_6 → Option R135a_6
  | (x0, x1, x2, x3, x4, x5, x6, x7, x8, x9, x10, x11, x12, x13) =>
  iteP (decide (x1 < x0)) (
    iteP (decide ((0 : Int) ≤ IntKind.wrap IntKind.i64 (IntKind.wrap IntKind.i64 (IntKind.wrap IntKind.i64 (IntKind.wrap IntKind.i64 (x3 + x1) * x11) + x2) + x4) ∧ IntKind.wrap IntKind.i64 (IntKind.wrap IntKind.i64 (IntKind.wrap IntKind.i64 (IntKind.wrap IntKind.i64 (x3 + x1) * x11) + x2) + x4) ≤ (↑(List.length x13) : Int))) (
      iteP (decide ((0 : Int) ≤ IntKind.wrap IntKind.i64 (IntKind.wrap IntKind.i64 (IntKind.wrap IntKind.i64 (x3 + x1) * x11) + x2) ∧ IntKind.wrap IntKind.i64 (IntKind.wrap IntKind.i64 (IntKind.wrap IntKind.i64 (x3 + x1) * x11) + x2) ≤ (↑(Int.toNat (IntKind.wrap IntKind.i64 (IntKind.wrap IntKind.i64 (IntKind.wrap IntKind.i64 (IntKind.wrap IntKind.i64 (x3 + x1) * x11) + x2) + x4))) : Int))) (
        Option.bind (F107r122 N (x1, Int.toNat (IntKind.wrap IntKind.i64 (IntKind.wrap IntKind.i64 (IntKind.wrap IntKind.i64 (x3 + x1) * x11) + x2)), Int.toNat (IntKind.wrap IntKind.i64 (IntKind.wrap IntKind.i64 (IntKind.wrap IntKind.i64 (IntKind.wrap IntKind.i64 (x3 + x1) * x11) + x2) + x4)) - Int.toNat (IntKind.wrap IntKind.i64 (IntKind.wrap IntKind.i64 (IntKind.wrap IntKind.i64 (x3 + x1) * x11) + x2)), x13, x6, x7, x8, x9, x10)) fun (y0_0, y0_1, y0_2, y0_3, y0_4, y0_5) =>
        Option.bind (f (x0, IntKind.wrap IntKind.i64 (x1 + (1 : Int)), x2, x3, x4, x5, y0_1, y0_2, y0_3, y0_4, y0_5, x11, x12, y0_0)) fun r => some r) (
        none )) (
      none )) (
    some ((x2, x3, x4, x5, x6, x7, x8, x9, x10, x11, x12, x13)))
noncomputable def F135a_6 (N : Nat) : Nat → P135a_6 → Option R135a_6
  | 0, _ => none
  | k + 1, x => B135a_6 N (F135a_6 N k) x
noncomputable def C135a_6 (N : Nat) (k : Nat) : Cut := L135a_6.cut (F135a_6 N k)
theorem C135a_6_ok (N : Nat) (k : Nat) : CutAt Tryz.prog false Tryz.f135 [0, 1, 2, 3, 4, 5] 6 (C135a_6 N k) :=
  L135a_6.loopT ownT mix (tab135a_ok N) Tryz.f135 [0, 1, 2, 3, 4, 5] (cuts := []) trivial (by decide +kernel) (by kernel_rfl) (B135a_6 N) (F135a_6 N) (fun _ => rfl) (fun _ _ => rfl) (fun f x => by kernel_rfl) k
@[reducible] def w135a : List SP := [⟨[.tup []], [.lp 1973801615886922023034 [5, 4] [.adr 3 [], .adr 4 []] 0, .var 35 (.agg [.int .i64, .int .i64, .int .i64, .int .i64]), .var 62 (.adr 5 []), .var 36 (.ro (.int .i64)), .var 35 (.agg [.int .i64, .int .i64, .int .i64, .int .i64]), .var 112 (.agg [.int .i64, .int .i64, .sl 6]), .row (.int .i64) 3]⟩]
noncomputable def F135a (N : Nat) : (Int × Int × Int × Int × (List Int) × Int × Int × Int × Int × Int × Int × (List Int)) → Option (Int × Int × Int × Int × (List Int) × Int × Int × Int × Int × Int × Int × (List Int))
  | (x0, x1, x2, x3, x4, x5, x6, x7, x8, x9, x10, x11) =>
  Option.bind (F135a_6 N N (x3, (0 : Int), x0, x1, x2, x3, x4, x5, x6, x7, x8, x9, x10, x11)) fun (y0_0, y0_1, y0_2, y0_3, y0_4, y0_5, y0_6, y0_7, y0_8, y0_9, y0_10, y0_11) =>
  some ((y0_0, y0_1, y0_2, y0_3, y0_4, y0_5, y0_6, y0_7, y0_8, y0_9, y0_10, y0_11))
noncomputable def T135a (N : Nat) : Pk → Tr Pk := tellS s135a w135a (F135a N)
theorem T135a_ok (N : Nat) : FOK Tryz.prog (135) (T135a N) :=
  (fn_ok2 ownT mix (tab135a_ok N) Tryz.func135 s135a w135a [0, 1, 2, 3, 4, 5] (cuts := [(6, C135a_6 N N)]) ⟨C135a_6_ok N N, trivial⟩ (fun _ => by kernel_rfl) (by decide +kernel) (F135a N) (fun x => by kernel_rfl))
@[reducible] def s107a : SP := ⟨[.adr 0 [], .agg [.int .i64, .int .i64, .int .i64, .int .i64], .ro (.int .i64)], [.var 112 (.agg [.int .i64, .int .i64, .sl 1]), .row (.int .i64) 3]⟩
noncomputable def tab107a (N : Nat) : List (Nat × (Pk → Tr Pk)) := [(104, T104 N), (120, T120 N), (121, T121 N), (135, T135a N)]
theorem tab107a_ok (N : Nat) : TabOK Tryz.prog (tab107a N) := ⟨T104_ok N, T120_ok N, T121_ok N, T135a_ok N, trivial⟩
@[reducible] def L107a_122 : LD := ⟨122, [6, 4, 5, 38], [(.ret, [6]), (.normal, [])], ⟨[.int .i64, .adr 1 [], .adr 2 [], .clo 135 [.adr 3 [], .adr 4 []]], [.var 112 (.agg [.int .i64, .int .i64, .sl 5]), .var 35 (.agg [.int .i64, .int .i64, .int .i64, .int .i64]), .var 36 (.ro (.int .i64)), .var 35 (.agg [.int .i64, .int .i64, .int .i64, .int .i64]), .var 62 (.adr 0 []), .row (.int .i64) 3]⟩, [(.normal, ⟨[], [.var 112 (.agg [.int .i64, .int .i64, .sl 1]), .row (.int .i64) 3]⟩)]⟩
noncomputable def F107a_122 (N : Nat) : (Int × Int × Int × Int × Int × Int × Int × (List Int) × Int × Int × Int × Int × (List Int)) → Option (Int × Int × (List Int))
  | (x0, x1, x2, x3, x4, x5, x6, x7, x8, x9, x10, x11, x12) =>
  Option.bind (F135a N (x8, x9, x10, x11, x7, x3, x4, x5, x6, x1, x2, x12)) fun (y0_0, y0_1, y0_2, y0_3, y0_4, y0_5, y0_6, y0_7, y0_8, y0_9, y0_10, y0_11) =>
  some ((y0_9, y0_10, y0_11))
noncomputable def C107a_122 (N : Nat) (_ : Nat) : Cut := L107a_122.cut (F107a_122 N)
theorem C107a_122_ok (N : Nat) (k : Nat) : CutAt Tryz.prog false Tryz.f107 [0] 122 (C107a_122 N k) :=
  L107a_122.rngT ownT mix (tab107a_ok N) Tryz.func107 [0] [5, 4] (by decide +kernel) (F107a_122 N) (fun x => by kernel_rfl)
@[reducible] def w107a : List SP := [⟨[.int .i64], [.var 112 (.agg [.int .i64, .int .i64, .sl 1]), .row (.int .i64) 3]⟩]
noncomputable def F107a (N : Nat) : (Int × Int × Int × Int × (List Int) × Int × Int × (List Int)) → Option (Int × Int × Int × (List Int))
  | (x0, x1, x2, x3, x4, x5, x6, x7) =>
  Option.bind (F104 N (x0, x1, x2, x3, x5, x6)) fun y0 =>
  iteP (!y0) (
    some (((140 : Int), x5, x6, x7))) (
    iteP ((↑(List.length x4) : Int) != IntKind.wrap IntKind.i64 (x2 * x3)) (
      some (((1 : Int), x5, x6, x7))) (
      Option.bind (F120 N x4) fun y1 =>
      iteP (y1) (
        some (((1 : Int), x5, x6, x7))) (
        Option.bind (F121 N (x0, x1, x2, x3, x5, x6, x7)) fun (y2_0, y2_1, y2_2, y2_3, y2_4, y2_5, y2_6) =>
        Option.bind (F107a_122 N ((0 : Int), y2_0, y2_1, x0, x1, x2, x3, x4, y2_2, y2_3, y2_4, y2_5, y2_6)) fun y3 =>
        some (((0 : Int), y3.1, y3.2.1, y3.2.2)))))
noncomputable def T107a (N : Nat) : Pk → Tr Pk := tellS s107a w107a (F107a N)
theorem T107a_ok (N : Nat) : FOK Tryz.prog (107) (T107a N) :=
  (fn_ok2 ownT mix (tab107a_ok N) Tryz.func107 s107a w107a [0] (cuts := [(122, C107a_122 N N)]) ⟨C107a_122_ok N N, trivial⟩ (fun _ => by kernel_rfl) (by decide +kernel) (F107a N) (fun x => by kernel_rfl))
@[reducible] def s101 : SP := ⟨[.adr 0 [], .int .i64, .int .i64], [.var 112 (.agg [.int .i64, .int .i64, .sl 1]), .row (.int .i64) 3]⟩
noncomputable def tab101 (N : Nat) : List (Nat × (Pk → Tr Pk)) := [(82, T82 N), (108, T108 N), (109, T109 N), (107, orT s107.I (T107 N) (T107a N))]
theorem tab101_ok (N : Nat) : TabOK Tryz.prog (tab101 N) := ⟨T82_ok N, T108_ok N, T109_ok N, orT_ok (T107_ok N) (T107a_ok N), trivial⟩
@[reducible] def w101 : List SP := [⟨[.int .i64], [.var 112 (.agg [.int .i64, .int .i64, .sl 1]), .row (.int .i64) 3]⟩]
noncomputable def F101 (N : Nat) : (Int × Int × Int × Int × (List Int)) → Option (Int × Int × Int × (List Int))
  | (x0, x1, x2, x3, x4) =>
  Option.bind (F82 N (x0, x1)) fun y0 =>
  match y0 with
  | .inl y1 =>
    iteP (y1 != (0 : Int)) (
      some ((y1, x2, x3, x4))) (
      Option.bind (F108 N (if x2 < x0 then x2 else x0, if x3 < x1 then x3 else x1)) fun y2 =>
      Option.bind (F109 N (y2.1, y2.2.1, y2.2.2.1, y2.2.2.2, x2, x3, x4)) fun y3 =>
      Option.bind (F107 N (y2.1, y2.2.1, y2.2.2.1, y2.2.2.2, y3.2.2.2.1)) fun y4 =>
      none)
  | .inr y1 =>
    iteP (y1.1 != (0 : Int)) (
      some ((y1.1, x2, x3, x4))) (
      Option.bind (F108 N (if x2 < x0 then x2 else x0, if x3 < x1 then x3 else x1)) fun y5 =>
      Option.bind (F109 N (y5.1, y5.2.1, y5.2.2.1, y5.2.2.2, x2, x3, x4)) fun y6 =>
      Option.bind (F107a N (y5.1, y5.2.1, y5.2.2.1, y5.2.2.2, y6.2.2.2.1, y1.2.1, y1.2.2.1, y1.2.2.2)) fun y7 =>
      some (((0 : Int), y7.2.1, y7.2.2.1, y7.2.2.2)))
noncomputable def T101 (N : Nat) : Pk → Tr Pk := tellS s101 w101 (F101 N)
theorem T101_ok (N : Nat) : FOK Tryz.prog (101) (T101 N) :=
  (fn_ok2 ownT mix (tab101_ok N) Tryz.func101 s101 w101 [0] (cuts := []) trivial (fun _ => by kernel_rfl) (by decide +kernel) (F101 N) (fun x => by kernel_rfl))
@[reducible] def y3 : Ty := (.cons (.int .i64) (.cons (.int .i64) (.cons (.sl (.int .i64)) .unit)))
@[reducible] def s102 : SP := ⟨[.radr y3 [.i 0 3]], []⟩
noncomputable def tab102 (N : Nat) : List (Nat × (Pk → Tr Pk)) := []
theorem tab102_ok (N : Nat) : TabOK Tryz.prog (tab102 N) := trivial
@[reducible] def w102 : List SP := [⟨[.tup [.int .i64, .int .i64]], []⟩]
noncomputable def F102 (N : Nat) : ((Int × (Int × ((List Int) × Unit)))) → Option (Int × Int)
  | x0 =>
  some ((x0.1, x0.2.1))
noncomputable def T102 (N : Nat) : Pk → Tr Pk := tellS s102 w102 (F102 N)
theorem T102_ok (N : Nat) : FOK Tryz.prog (102) (T102 N) :=
  (fn_ok2 ownT mix (tab102_ok N) Tryz.func102 s102 w102 [] (cuts := []) trivial (fun _ => by kernel_rfl) (by decide +kernel) (F102 N) (fun x => by kernel_rfl))
@[reducible] def s103 : SP := ⟨[.int .i64], []⟩
noncomputable def tab103 (N : Nat) : List (Nat × (Pk → Tr Pk)) := []
theorem tab103_ok (N : Nat) : TabOK Tryz.prog (tab103 N) := trivial
@[reducible] def w103 : List SP := [⟨[.bool], []⟩]
noncomputable def F103 (N : Nat) : (Int) → Option (Bool)
  | x0 =>
  iteP (x0 == (0 : Int)) (
    some (true)) (
    iteP (x0 == (2 : Int)) (
      some (true)) (
      iteP (x0 == (5 : Int)) (
        some (true)) (
        iteP (x0 == (16 : Int)) (
          some (true)) (
          iteP (x0 == (-260 : Int)) (
            some (true)) (
            some (false))))))
noncomputable def T103 (N : Nat) : Pk → Tr Pk := tellS s103 w103 (F103 N)
theorem T103_ok (N : Nat) : FOK Tryz.prog (103) (T103 N) :=
  (fn_ok2 ownT mix (tab103_ok N) Tryz.func103 s103 w103 [] (cuts := []) trivial (fun _ => by kernel_rfl) (by decide +kernel) (F103 N) (fun x => by kernel_rfl))
@[reducible] def s111 : SP := ⟨[.str], []⟩
noncomputable def tab111 (N : Nat) : List (Nat × (Pk → Tr Pk)) := [(74, T74 N), (66, T66 N), (67, T67 N), (75, T75 N)]
theorem tab111_ok (N : Nat) : TabOK Tryz.prog (tab111 N) := ⟨T74_ok N, T66_ok N, T67_ok N, T75_ok N, trivial⟩
@[reducible] def w111 : List SP := [⟨[.tup [.int .i64, .int .i64, .int .i64, .int .i64]], []⟩]
noncomputable def F111 (N : Nat) : (ByteArray) → Option (Int × Int × Int × Int)
  | x0 =>
  Option.bind (F74 N x0) fun y0 =>
  Option.bind (F66 N ((2 : Int), y0.1, y0.2.1, y0.2.2)) fun y1 =>
  Option.bind (F66 N ((2 : Int), y1.2.1, y1.2.2.1, y1.2.2.2)) fun y2 =>
  Option.bind (F67 N (y2.2.1, y2.2.2.1, y2.2.2.2, ())) fun y3 =>
  iteP (y3 != (0 : Int)) (
    some (((0 : Int), (0 : Int), (0 : Int), y3))) (
    Option.bind (F75 N (y2.2.1, y2.2.2.1, y2.2.2.2, ())) fun y4 =>
    some ((y1.1, y2.1, y4, (0 : Int))))
noncomputable def T111 (N : Nat) : Pk → Tr Pk := tellS s111 w111 (F111 N)
theorem T111_ok (N : Nat) : FOK Tryz.prog (111) (T111 N) :=
  (fn_ok2 ownT mix (tab111_ok N) Tryz.func111 s111 w111 [] (cuts := []) trivial (fun _ => by kernel_rfl) (by decide +kernel) (F111 N) (fun x => by kernel_rfl))
@[reducible] def s112 : SP := ⟨[.adr 0 [], .agg [.int .i64, .int .i64, .int .i64, .int .i64], .agg [.int .i64, .int .i64, .int .i64, .int .i64]], [.var 112 (.agg [.int .i64, .int .i64, .sl 1]), .row (.int .i64) 3]⟩
noncomputable def tab112 (N : Nat) : List (Nat × (Pk → Tr Pk)) := [(109, T109 N), (104, T104 N), (107, T107a N)]
theorem tab112_ok (N : Nat) : TabOK Tryz.prog (tab112 N) := ⟨T109_ok N, T104_ok N, T107a_ok N, trivial⟩
@[reducible] def w112 : List SP := [⟨[.int .i64], [.var 112 (.agg [.int .i64, .int .i64, .sl 1]), .row (.int .i64) 3]⟩]
noncomputable def F112 (N : Nat) : (Int × Int × Int × Int × Int × Int × Int × Int × Int × Int × (List Int)) → Option (Int × Int × Int × (List Int))
  | (x0, x1, x2, x3, x4, x5, x6, x7, x8, x9, x10) =>
  Option.bind (F109 N (x0, x1, x2, x3, x8, x9, x10)) fun y0 =>
  iteP (y0.1 != (0 : Int)) (
    some ((y0.1, y0.2.1, y0.2.2.1, y0.2.2.2.2))) (
    Option.bind (F104 N (x4, x5, x6, x7, y0.2.1, y0.2.2.1)) fun y1 =>
    iteP (!y1) (
      some (((140 : Int), y0.2.1, y0.2.2.1, y0.2.2.2.2))) (
      iteP (x2 != x6) (
        some (((1 : Int), y0.2.1, y0.2.2.1, y0.2.2.2.2))) (
        iteP (x3 != x7) (
          some (((1 : Int), y0.2.1, y0.2.2.1, y0.2.2.2.2))) (
          Option.bind (F107a N (x4, x5, x6, x7, y0.2.2.2.1, y0.2.1, y0.2.2.1, y0.2.2.2.2)) fun y2 =>
          some ((y2.1, y2.2.1, y2.2.2.1, y2.2.2.2))))))
noncomputable def T112 (N : Nat) : Pk → Tr Pk := tellS s112 w112 (F112 N)
theorem T112_ok (N : Nat) : FOK Tryz.prog (112) (T112 N) :=
  (fn_ok2 ownT mix (tab112_ok N) Tryz.func112 s112 w112 [0] (cuts := []) trivial (fun _ => by kernel_rfl) (by decide +kernel) (F112 N) (fun x => by kernel_rfl))
@[reducible] def s105 : SP := ⟨[.adr 0 [], .agg [.int .i64, .int .i64, .int .i64, .int .i64], .str], [.var 74 (.agg [.adr 1 [], .str, .str, .fv, .int .i64, .agg [.sl 2], .agg [.agg [.agg [.agg [.bool, .str], .int .i64]]], .agg [.int .i64, .int .i64, .bool, .bool, .int .i64, .int .i64, .int .i64, .int .i64, .int .i64, .int .i64], .int .i64, .int .i64, .int .i64]), .var 112 (.agg [.int .i64, .int .i64, .sl 3]), .row y0 38, .row (.int .i64) 3]⟩
noncomputable def tab105 (N : Nat) : List (Nat × (Pk → Tr Pk)) := [(111, T111 N), (112, T112 N)]
theorem tab105_ok (N : Nat) : TabOK Tryz.prog (tab105 N) := ⟨T111_ok N, T112_ok N, trivial⟩
@[reducible] def w105 : List SP := [⟨[.tup [.int .i64, .int .i64]], [.var 74 (.agg [.adr 1 [], .str, .str, .fv, .int .i64, .agg [.sl 2], .agg [.agg [.agg [.agg [.bool, .str], .int .i64]]], .agg [.int .i64, .int .i64, .bool, .bool, .int .i64, .int .i64, .int .i64, .int .i64, .int .i64, .int .i64], .int .i64, .int .i64, .int .i64]), .var 112 (.agg [.int .i64, .int .i64, .sl 3]), .row y0 38, .row (.int .i64) 3]⟩]
noncomputable def F105 (N : Nat) : (Int × Int × Int × Int × ByteArray × ByteArray × ByteArray × Nat × Int × Bool × ByteArray × Int × Int × Int × Bool × Bool × Int × Int × Int × Int × Int × Int × Int × Int × Int × Int × Int × (List (Int × (Bool × (Int × ((Int × (Int × (Int × (Int × Unit)))) × ((Int × (Int × (Bool × (Bool × (Int × (Int × (Int × (Int × (Int × (Int × Unit)))))))))) × ((List Int) × (ByteArray × Unit)))))))) × (List Int)) → Option (Int × Int × ByteArray × ByteArray × Nat × Int × Bool × ByteArray × Int × Int × Int × Bool × Bool × Int × Int × Int × Int × Int × Int × Int × Int × Int × Int × Int × (List (Int × (Bool × (Int × ((Int × (Int × (Int × (Int × Unit)))) × ((Int × (Int × (Bool × (Bool × (Int × (Int × (Int × (Int × (Int × (Int × Unit)))))))))) × ((List Int) × (ByteArray × Unit)))))))) × (List Int))
  | (x0, x1, x2, x3, x4, x5, x6, x7, x8, x9, x10, x11, x12, x13, x14, x15, x16, x17, x18, x19, x20, x21, x22, x23, x24, x25, x26, x27, x28) =>
  Option.bind (F111 N x4) fun y0 =>
  iteP (y0.2.2.2 != (0 : Int)) (
    some (((0 : Int), y0.2.2.2, x5, x6, x7, x8, x9, x10, x11, x12, x13, x14, x15, x16, x17, x18, x19, x20, x21, x22, x23, x24, x25, x26, x27, x28))) (
    Option.bind (F112 N (y0.1, y0.2.1, x2, x3, x0, x1, x2, x3, x25, x26, x28)) fun y1 =>
    iteP (y1.1 != (0 : Int)) (
      some (((0 : Int), (140 : Int), x5, x6, x7, x8, x9, x10, x11, x12, x13, x14, x15, x16, x17, x18, x19, x20, x21, x22, x23, x24, y1.2.1, y1.2.2.1, x27, y1.2.2.2))) (
      some ((y0.2.2.1, (0 : Int), x5, x6, x7, x8, x9, x10, x11, x12, x13, x14, x15, x16, x17, x18, x19, x20, x21, x22, x23, x24, y1.2.1, y1.2.2.1, x27, y1.2.2.2))))
noncomputable def T105 (N : Nat) : Pk → Tr Pk := tellS s105 w105 (F105 N)
theorem T105_ok (N : Nat) : FOK Tryz.prog (105) (T105 N) :=
  (fn_ok2 ownT mix (tab105_ok N) Tryz.func105 s105 w105 [0, 1] (cuts := []) trivial (fun _ => by kernel_rfl) (by decide +kernel) (F105 N) (fun x => by kernel_rfl))
end Go.Proofs.YtgddhgpljnljaaaGreat.Am
