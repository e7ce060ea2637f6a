/- The seat's Go functions come to the Lean functions written here, wherever these give an answer (part A). -/
import Derived.Test.YtfcamlibbfnldaaGreatAmC
import Derived.KernelRfl
import Derived.Test.YtfcamlibbfnldaaGreatChecked
import Derived.Lib.UnsafeStr
import Derived.Shelf.RegionOpenPlain
import Derived.WalkKit
import Derived.Test.YtfcamlibbfnldaaGreatProg
set_option linter.unusedSimpArgs false
set_option linter.unusedVariables false
set_option linter.unusedSectionVars false
set_option maxRecDepth 100000
set_option maxHeartbeats 2000000
namespace Go.Proofs.YtfcamlibbfnldaaGreat.Am
open Go Go.Am
noncomputable instance instP : Inhabited Program := ⟨Tryz.prog⟩
theorem Cv {P : Program} {w : World} : ∀ (l : List Int) (a : Addr) (acc : ByteArray),(∀ j x,l[j]? = some x → w.cell? (a.add j) = some (.int .u8 x)) →
    (loadBytes a acc l.length).run P w = .ok ⟨acc.data ++ (l.map fun n => UInt8.ofNat n.toNat).toArray⟩ w
  | [],a,acc,_ => by simp [loadBytes]
  | x :: l,a,acc,h => by
    have h0 : w.cell? a = some (.int .u8 x) := by
      have := h 0 x rfl
      simpa [Addr.add] using this
    have ih := Cv (P := P) l (a.add 1) (acc.push (UInt8.ofNat x.toNat)) (fun j y hy => by
      have := h (j + 1) y (by simpa using hy)
      have e : (a.add 1).add j = a.add (j + 1) := by
        unfold Addr.add
        by_cases hj : j = 0
        · subst hj; simp
        · simp [hj]; omega
      rw [e]; exact this)
    simp only [List.length_cons,loadBytes,Sem.run_bind,run_load,h0,Result.andThen]
    rw [show (x.toNat).toUInt8 = UInt8.ofNat x.toNat from rfl,ih]
    congr 1
    apply ByteArray.ext
    simp [ByteArray.push]
theorem FA {P : Program} {w : World} (pt it ty e : TypeId) (hp : P.underlying pt = some (.pointer e)) (hc : P.cellsOf e = 1) (g cells : Nat) (hsh : w.shape? g = some (e,cells)) (l : List Int) (h0 : l ≠ []) (hn : l.length ≤ cells) (h63 : l.length ≤ 9223372036854775807)
    (hcell : ∀ j x,l[j]? = some x → w.cell? ((⟨g,0,none⟩ : Addr).add j) = some (.int .u8 x)) :
    (Builtin.unsafeString_ #[pt,it] ty #[.pointer (some ⟨g,0,none⟩),.int .i64 l.length]).run P w = .ok (.string (aB l)) (w.freeze ⟨g,0,none⟩ l.length) := by
  have hl : l.length ≠ 0 := by simpa using h0
  have hlb := Cv (P := P) (w := w) l ⟨g,0,none⟩ .empty hcell
  have hlies := Lib.liesAt_bytes (P := P) hc (cells / P.cellsOf e) l.length (by rw [hc]; simpa using hn)
  have h63' : ¬ (9223372036854775807 : Int) < (l.length : Int) := by omega
  have hdef : Builtin.unsafeString_ #[pt,it] ty #[.pointer (some ⟨g,0,none⟩),.int .i64 l.length] =
      (do
        let n ← asInt (.int .i64 l.length)
        if n < 0 then runtimePanic (.error "unsafe.String: len out of range")
        if n > IntKind.i64.max then unsupported (.unsafePointer "String: a length above the largest int")
        if n = 0 then pure (.string .empty)
        else if ← variablesAt ⟨g,0,none⟩ (← elemOf pt) n.toNat then do
          let s ← loadBytes ⟨g,0,none⟩ .empty n.toNat
          freeze ⟨g,0,none⟩ n.toNat
          pure (.string s)
        else unsupported (.unsafePointer "String: not so many bytes at ptr")) := rfl
  rw [hdef]
  have hmax : IntKind.i64.max = 9223372036854775807 := rfl
  have hneg : ¬ (l.length : Int) < 0 := by omega
  simp [asInt,asIntOf,hmax,h63',hneg,hl,variablesAt,hsh,elemOf,run_underlying hp,hlies,hlb,aB]
set_option maxHeartbeats 4000000 in
theorem ar3 : C4 Tryz.prog 67 5 := by
  intro b o n c w gk cs fr xs h1 h2 h3 h4 h5 h6 h7
  subst h6
  have c1 : w.drew.cell? ⟨b,o + 1,none⟩ = some (.slice (some ⟨gk,0,none⟩) xs.length c) := h1
  have hSD : (Builtin.unsafeSliceData_ #[93] 183 #[.slice (some ⟨gk,0,none⟩) xs.length c]).run Tryz.prog w.drew = .ok (.pointer (some ⟨gk,0,none⟩)) w.drew :=
    Lib.run_unsafeSliceData_row _ _ _ _ _ _ (by omega)
  have hsz : xs.length ≤ cs.size := by
    have := h7 (xs.length - 1) (.int .u8 (xs[xs.length - 1]'(by omega))) (by simp)
    unfold World.cell? at this
    rw [h5] at this
    simp at this
    have := (Array.getElem?_eq_some_iff.1 this).1
    omega
  have hUS : (Builtin.unsafeString_ #[183,3] 9 #[.pointer (some ⟨gk,0,none⟩),.int .i64 xs.length]).run Tryz.prog w.drew = .ok (.string (aB xs)) (w.drew.freeze ⟨gk,0,none⟩ xs.length) := by
    refine FA 183 3 9 5 Tryz.underlying183 (by kernel_rfl) gk cs.size (by have hg' : w.drew.heap[gk]? = some (.cells cs 5 fr) := h5; simp [World.shape?,hg']) xs (by intro e; rw [e] at h2; simp at h2) hsz (by unfold bh at h3; omega) ?_
    intro j x hx
    have := h7 j (.int .u8 x) (by simp [hx])
    by_cases e : j = 0
    · subst e; simpa [Addr.add] using this
    · simpa [Addr.add,e] using this
  have mixed : Tryz.prog.follows .mixedOrders = true := by kernel_rfl
  go_enter Tryz.func67,Tryz.ntmps67
  go_wp2
  go_region_o
  all_goals (go_wp2; go_ret; exact ⟨rfl,rfl⟩)
def af : FuncId → List Nat := Ny [(6,[1,0]),(8,[0,0,0,1]),(10,[0,0,0,1,1,0]),(11,[0,0,0,1,1]),(20,[0,0]),(23,[1]),(24,[0]),(34,[0,0,0,1]),(40,[0,0,0,0,1]),(66,[1,0]),(67,[78,5]),(71,[2,0]),(76,[0,5]),(83,[1,0,0]),(84,[2]),(86,[2]),(91,[0,1]),(106,[2]),(107,[0,0,0,0,0,1]),(112,[2]),(113,[2,0]),(116,[2]),(130,[0,5,5]),(141,[1,0]),(142,[1]),(143,[1,0,0,0]),(144,[1,0,0]),(152,[0,1]),(170,[0,5]),(174,[0,1]),(175,[0,0,0,1]),(176,[0,0,0,1]),(185,[2,0]),(190,[77]),(193,[2]),(198,[0,0,5]),(207,[0,0,0]),(209,[0,5,5,5]),(212,[1,0]),(219,[0,5,5]),(231,[4]),(238,[0,0,1,0]),(240,[0,0,0,1]),(243,[0,0,0,0,0,4]),(252,[0,0,0,0]),(265,[1]),(285,[2]),(288,[0,5,5]),(289,[1,1]),(290,[0,0,0]),(305,[2]),(315,[2,0,0,0,0]),(322,[0,5,5,5]),(324,[2]),(325,[2]),(330,[2]),(342,[1]),(353,[1,0,0]),(364,[2]),(376,[0,0]),(379,[3,0]),(383,[1]),(384,[4,0]),(385,[0,0]),(388,[3,0]),(389,[4,0,0]),(391,[4,0,0,0]),(392,[4,0,0,0,0]),(393,[4,0,0,0,0]),(394,[4,0,0,0,0])]
theorem al : Bi Tryz.prog af := ⟨rfl,by kernel_rfl,ZF 190 (by decide +kernel) Tryz.func190 (by decide +kernel) (by decide +kernel) (by kernel_rfl) (by kernel_rfl),SE 67 5 (by decide +kernel) Tryz.func67 (by decide +kernel) (by decide +kernel) ar3⟩
@[reducible] def s78 : SP := ⟨[],[]⟩
noncomputable def ap5 (N : Nat) : List (Nat × (Pk → Tr Pk)) := []
theorem O1 (N : Nat) : ah Tryz.prog (ap5 N) := trivial
@[reducible] def w78 : List SP := [⟨[.agg [.int .i64,.int .i64,.bool,.bool,.int .i64,.int .i64,.int .i64,.int .i64,.int .i64,.int .i64]],[]⟩]
noncomputable def WL (N : Nat) : (Unit) → Option (Int × Int × Bool × Bool × Int × Int × Int × Int × Int × Int)
  | () =>
  some (((8 : Int),(8 : Int),false,true,(7 : Int),(7 : Int),(3 : Int),(0 : Int),(3 : Int),(6 : Int)))
noncomputable def T78 (N : Nat) : Pk → Tr Pk := ag s78 w78 (WL N)
theorem ab7 (N : Nat) : au Tryz.prog (78) (T78 N) :=
  (ae af al (O1 N) Tryz.func78 s78 w78 [] (cuts := []) trivial (fun _ => by kernel_rfl) (by decide +kernel) (WL N) (fun x => by kernel_rfl))
@[reducible] def y0 : Ty := (.cons (.int .i64) (.cons (.int .i64) .unit))
@[reducible] def s95 : SP := ⟨[.agg [.int .i64,.int .i64,.bool,.bool,.int .i64,.int .i64,.int .i64,.int .i64,.int .i64,.int .i64]],[]⟩
noncomputable def an9 (N : Nat) : List (Nat × (Pk → Tr Pk)) := []
theorem OU (N : Nat) : ah Tryz.prog (an9 N) := trivial
@[reducible] def w95 : List SP := [⟨[.arr y0 3],[]⟩]
noncomputable def Vu (N : Nat) : (Int × Int × Bool × Bool × Int × Int × Int × Int × Int × Int) → Option ((List (Int × (Int × Unit))))
  | (x0,x1,x2,x3,x4,x5,x6,x7,x8,x9) =>
  some ([(x4,x7,()),(x5,x8,()),(x6,x9,())])
noncomputable def T95 (N : Nat) : Pk → Tr Pk := ag s95 w95 (Vu N)
theorem zt (N : Nat) : au Tryz.prog (95) (T95 N) :=
  (ae af al (OU N) Tryz.func95 s95 w95 [] (cuts := []) trivial (fun _ => by kernel_rfl) (by decide +kernel) (Vu N) (fun x => by kernel_rfl))
@[reducible] def s227 : SP := ⟨[.int .u64],[]⟩
noncomputable def Ys (N : Nat) : List (Nat × (Pk → Tr Pk)) := []
theorem MJ (N : Nat) : ah Tryz.prog (Ys N) := trivial
@[reducible] def w227 : List SP := [⟨[.int .i64],[]⟩]
noncomputable def ak3 (N : Nat) : (Int) → Option (Int)
  | x0 =>
  ac (decide (x0 ≥ (4294967296 : Int))) (
    ac (decide (Int.fdiv x0 (4294967296 : Int) ≥ (65536 : Int))) (
      ac (decide (Int.fdiv (Int.fdiv x0 (4294967296 : Int)) (65536 : Int) ≥ (256 : Int))) (
        ac (decide ((0 : Int) ≤ IntKind.wrap IntKind.u8 (Int.fdiv (Int.fdiv (Int.fdiv x0 (4294967296 : Int)) (65536 : Int)) (256 : Int)))) (
          Option.bind ((ByteArray.mk #[(0 : UInt8),(1 : UInt8),(2 : UInt8),(2 : UInt8),(3 : UInt8),(3 : UInt8),(3 : UInt8),(3 : UInt8),(4 : UInt8),(4 : UInt8),(4 : UInt8),(4 : UInt8),(4 : UInt8),(4 : UInt8),(4 : UInt8),(4 : UInt8),(5 : UInt8),(5 : UInt8),(5 : UInt8),(5 : UInt8),(5 : UInt8),(5 : UInt8),(5 : UInt8),(5 : UInt8),(5 : UInt8),(5 : UInt8),(5 : UInt8),(5 : UInt8),(5 : UInt8),(5 : UInt8),(5 : UInt8),(5 : UInt8),(6 : UInt8),(6 : UInt8),(6 : UInt8),(6 : UInt8),(6 : UInt8),(6 : UInt8),(6 : UInt8),(6 : UInt8),(6 : UInt8),(6 : UInt8),(6 : UInt8),(6 : UInt8),(6 : UInt8),(6 : UInt8),(6 : UInt8),(6 : UInt8),(6 : UInt8),(6 : UInt8),(6 : UInt8),(6 : UInt8),(6 : UInt8),(6 : UInt8),(6 : UInt8),(6 : UInt8),(6 : UInt8),(6 : UInt8),(6 : UInt8),(6 : UInt8),(6 : UInt8),(6 : UInt8),(6 : UInt8),(6 : UInt8),(7 : UInt8),(7 : UInt8),(7 : UInt8),(7 : UInt8),(7 : UInt8),(7 : UInt8),(7 : UInt8),(7 : UInt8),(7 : UInt8),(7 : UInt8),(7 : UInt8),(7 : UInt8),(7 : UInt8),(7 : UInt8),(7 : UInt8),(7 : UInt8),(7 : UInt8),(7 : UInt8),(7 : UInt8),(7 : UInt8),(7 : UInt8),(7 : UInt8),(7 : UInt8),(7 : UInt8),(7 : UInt8),(7 : UInt8),(7 : UInt8),(7 : UInt8),(7 : UInt8),(7 : UInt8),(7 : UInt8),(7 : UInt8),(7 : UInt8),(7 : UInt8),(7 : UInt8),(7 : UInt8),(7 : UInt8),(7 : UInt8),(7 : UInt8),(7 : UInt8),(7 : UInt8),(7 : UInt8),(7 : UInt8),(7 : UInt8),(7 : UInt8),(7 : UInt8),(7 : UInt8),(7 : UInt8),(7 : UInt8),(7 : UInt8),(7 : UInt8),(7 : UInt8),(7 : UInt8),(7 : UInt8),(7 : UInt8),(7 : UInt8),(7 : UInt8),(7 : UInt8),(7 : UInt8),(7 : UInt8),(7 : UInt8),(7 : UInt8),(7 : UInt8),(7 : UInt8),(8 : UInt8),(8 : UInt8),(8 : UInt8),(8 : UInt8),(8 : UInt8),(8 : UInt8),(8 : UInt8),(8 : UInt8),(8 : UInt8),(8 : UInt8),(8 : UInt8),(8 : UInt8),(8 : UInt8),(8 : UInt8),(8 : UInt8),(8 : UInt8),(8 : UInt8),(8 : UInt8),(8 : UInt8),(8 : UInt8),(8 : UInt8),(8 : UInt8),(8 : UInt8),(8 : UInt8),(8 : UInt8),(8 : UInt8),(8 : UInt8),(8 : UInt8),(8 : UInt8),(8 : UInt8),(8 : UInt8),(8 : UInt8),(8 : UInt8),(8 : UInt8),(8 : UInt8),(8 : UInt8),(8 : UInt8),(8 : UInt8),(8 : UInt8),(8 : UInt8),(8 : UInt8),(8 : UInt8),(8 : UInt8),(8 : UInt8),(8 : UInt8),(8 : UInt8),(8 : UInt8),(8 : UInt8),(8 : UInt8),(8 : UInt8),(8 : UInt8),(8 : UInt8),(8 : UInt8),(8 : UInt8),(8 : UInt8),(8 : UInt8),(8 : UInt8),(8 : UInt8),(8 : UInt8),(8 : UInt8),(8 : UInt8),(8 : UInt8),(8 : UInt8),(8 : UInt8),(8 : UInt8),(8 : UInt8),(8 : UInt8),(8 : UInt8),(8 : UInt8),(8 : UInt8),(8 : UInt8),(8 : UInt8),(8 : UInt8),(8 : UInt8),(8 : UInt8),(8 : UInt8),(8 : UInt8),(8 : UInt8),(8 : UInt8),(8 : UInt8),(8 : UInt8),(8 : UInt8),(8 : UInt8),(8 : UInt8),(8 : UInt8),(8 : UInt8),(8 : UInt8),(8 : UInt8),(8 : UInt8),(8 : UInt8),(8 : UInt8),(8 : UInt8),(8 : UInt8),(8 : UInt8),(8 : UInt8),(8 : UInt8),(8 : UInt8),(8 : UInt8),(8 : UInt8),(8 : UInt8),(8 : UInt8),(8 : UInt8),(8 : UInt8),(8 : UInt8),(8 : UInt8),(8 : UInt8),(8 : UInt8),(8 : UInt8),(8 : UInt8),(8 : UInt8),(8 : UInt8),(8 : UInt8),(8 : UInt8),(8 : UInt8),(8 : UInt8),(8 : UInt8),(8 : UInt8),(8 : UInt8),(8 : UInt8),(8 : UInt8),(8 : UInt8),(8 : UInt8),(8 : UInt8),(8 : UInt8),(8 : UInt8),(8 : UInt8),(8 : UInt8),(8 : UInt8)])[Int.toNat (IntKind.wrap IntKind.u8 (Int.fdiv (Int.fdiv (Int.fdiv x0 (4294967296 : Int)) (65536 : Int)) (256 : Int)))]?) fun y0 =>
          some (IntKind.wrap IntKind.i64 ((56 : Int) + IntKind.wrap IntKind.i64 (↑(UInt8.toNat y0) : Int)))) (
          none )) (
        ac (decide ((0 : Int) ≤ IntKind.wrap IntKind.u8 (Int.fdiv (Int.fdiv x0 (4294967296 : Int)) (65536 : Int)))) (
          Option.bind ((ByteArray.mk #[(0 : UInt8),(1 : UInt8),(2 : UInt8),(2 : UInt8),(3 : UInt8),(3 : UInt8),(3 : UInt8),(3 : UInt8),(4 : UInt8),(4 : UInt8),(4 : UInt8),(4 : UInt8),(4 : UInt8),(4 : UInt8),(4 : UInt8),(4 : UInt8),(5 : UInt8),(5 : UInt8),(5 : UInt8),(5 : UInt8),(5 : UInt8),(5 : UInt8),(5 : UInt8),(5 : UInt8),(5 : UInt8),(5 : UInt8),(5 : UInt8),(5 : UInt8),(5 : UInt8),(5 : UInt8),(5 : UInt8),(5 : UInt8),(6 : UInt8),(6 : UInt8),(6 : UInt8),(6 : UInt8),(6 : UInt8),(6 : UInt8),(6 : UInt8),(6 : UInt8),(6 : UInt8),(6 : UInt8),(6 : UInt8),(6 : UInt8),(6 : UInt8),(6 : UInt8),(6 : UInt8),(6 : UInt8),(6 : UInt8),(6 : UInt8),(6 : UInt8),(6 : UInt8),(6 : UInt8),(6 : UInt8),(6 : UInt8),(6 : UInt8),(6 : UInt8),(6 : UInt8),(6 : UInt8),(6 : UInt8),(6 : UInt8),(6 : UInt8),(6 : UInt8),(6 : UInt8),(7 : UInt8),(7 : UInt8),(7 : UInt8),(7 : UInt8),(7 : UInt8),(7 : UInt8),(7 : UInt8),(7 : UInt8),(7 : UInt8),(7 : UInt8),(7 : UInt8),(7 : UInt8),(7 : UInt8),(7 : UInt8),(7 : UInt8),(7 : UInt8),(7 : UInt8),(7 : UInt8),(7 : UInt8),(7 : UInt8),(7 : UInt8),(7 : UInt8),(7 : UInt8),(7 : UInt8),(7 : UInt8),(7 : UInt8),(7 : UInt8),(7 : UInt8),(7 : UInt8),(7 : UInt8),(7 : UInt8),(7 : UInt8),(7 : UInt8),(7 : UInt8),(7 : UInt8),(7 : UInt8),(7 : UInt8),(7 : UInt8),(7 : UInt8),(7 : UInt8),(7 : UInt8),(7 : UInt8),(7 : UInt8),(7 : UInt8),(7 : UInt8),(7 : UInt8),(7 : UInt8),(7 : UInt8),(7 : UInt8),(7 : UInt8),(7 : UInt8),(7 : UInt8),(7 : UInt8),(7 : UInt8),(7 : UInt8),(7 : UInt8),(7 : UInt8),(7 : UInt8),(7 : UInt8),(7 : UInt8),(7 : UInt8),(7 : UInt8),(7 : UInt8),(7 : UInt8),(8 : UInt8),(8 : UInt8),(8 : UInt8),(8 : UInt8),(8 : UInt8),(8 : UInt8),(8 : UInt8),(8 : UInt8),(8 : UInt8),(8 : UInt8),(8 : UInt8),(8 : UInt8),(8 : UInt8),(8 : UInt8),(8 : UInt8),(8 : UInt8),(8 : UInt8),(8 : UInt8),(8 : UInt8),(8 : UInt8),(8 : UInt8),(8 : UInt8),(8 : UInt8),(8 : UInt8),(8 : UInt8),(8 : UInt8),(8 : UInt8),(8 : UInt8),(8 : UInt8),(8 : UInt8),(8 : UInt8),(8 : UInt8),(8 : UInt8),(8 : UInt8),(8 : UInt8),(8 : UInt8),(8 : UInt8),(8 : UInt8),(8 : UInt8),(8 : UInt8),(8 : UInt8),(8 : UInt8),(8 : UInt8),(8 : UInt8),(8 : UInt8),(8 : UInt8),(8 : UInt8),(8 : UInt8),(8 : UInt8),(8 : UInt8),(8 : UInt8),(8 : UInt8),(8 : UInt8),(8 : UInt8),(8 : UInt8),(8 : UInt8),(8 : UInt8),(8 : UInt8),(8 : UInt8),(8 : UInt8),(8 : UInt8),(8 : UInt8),(8 : UInt8),(8 : UInt8),(8 : UInt8),(8 : UInt8),(8 : UInt8),(8 : UInt8),(8 : UInt8),(8 : UInt8),(8 : UInt8),(8 : UInt8),(8 : UInt8),(8 : UInt8),(8 : UInt8),(8 : UInt8),(8 : UInt8),(8 : UInt8),(8 : UInt8),(8 : UInt8),(8 : UInt8),(8 : UInt8),(8 : UInt8),(8 : UInt8),(8 : UInt8),(8 : UInt8),(8 : UInt8),(8 : UInt8),(8 : UInt8),(8 : UInt8),(8 : UInt8),(8 : UInt8),(8 : UInt8),(8 : UInt8),(8 : UInt8),(8 : UInt8),(8 : UInt8),(8 : UInt8),(8 : UInt8),(8 : UInt8),(8 : UInt8),(8 : UInt8),(8 : UInt8),(8 : UInt8),(8 : UInt8),(8 : UInt8),(8 : UInt8),(8 : UInt8),(8 : UInt8),(8 : UInt8),(8 : UInt8),(8 : UInt8),(8 : UInt8),(8 : UInt8),(8 : UInt8),(8 : UInt8),(8 : UInt8),(8 : UInt8),(8 : UInt8),(8 : UInt8),(8 : UInt8),(8 : UInt8),(8 : UInt8),(8 : UInt8),(8 : UInt8),(8 : UInt8),(8 : UInt8),(8 : UInt8)])[Int.toNat (IntKind.wrap IntKind.u8 (Int.fdiv (Int.fdiv x0 (4294967296 : Int)) (65536 : Int)))]?) fun y1 =>
          some (IntKind.wrap IntKind.i64 ((48 : Int) + IntKind.wrap IntKind.i64 (↑(UInt8.toNat y1) : Int)))) (
          none ))) (
      ac (decide (Int.fdiv x0 (4294967296 : Int) ≥ (256 : Int))) (
        ac (decide ((0 : Int) ≤ IntKind.wrap IntKind.u8 (Int.fdiv (Int.fdiv x0 (4294967296 : Int)) (256 : Int)))) (
          Option.bind ((ByteArray.mk #[(0 : UInt8),(1 : UInt8),(2 : UInt8),(2 : UInt8),(3 : UInt8),(3 : UInt8),(3 : UInt8),(3 : UInt8),(4 : UInt8),(4 : UInt8),(4 : UInt8),(4 : UInt8),(4 : UInt8),(4 : UInt8),(4 : UInt8),(4 : UInt8),(5 : UInt8),(5 : UInt8),(5 : UInt8),(5 : UInt8),(5 : UInt8),(5 : UInt8),(5 : UInt8),(5 : UInt8),(5 : UInt8),(5 : UInt8),(5 : UInt8),(5 : UInt8),(5 : UInt8),(5 : UInt8),(5 : UInt8),(5 : UInt8),(6 : UInt8),(6 : UInt8),(6 : UInt8),(6 : UInt8),(6 : UInt8),(6 : UInt8),(6 : UInt8),(6 : UInt8),(6 : UInt8),(6 : UInt8),(6 : UInt8),(6 : UInt8),(6 : UInt8),(6 : UInt8),(6 : UInt8),(6 : UInt8),(6 : UInt8),(6 : UInt8),(6 : UInt8),(6 : UInt8),(6 : UInt8),(6 : UInt8),(6 : UInt8),(6 : UInt8),(6 : UInt8),(6 : UInt8),(6 : UInt8),(6 : UInt8),(6 : UInt8),(6 : UInt8),(6 : UInt8),(6 : UInt8),(7 : UInt8),(7 : UInt8),(7 : UInt8),(7 : UInt8),(7 : UInt8),(7 : UInt8),(7 : UInt8),(7 : UInt8),(7 : UInt8),(7 : UInt8),(7 : UInt8),(7 : UInt8),(7 : UInt8),(7 : UInt8),(7 : UInt8),(7 : UInt8),(7 : UInt8),(7 : UInt8),(7 : UInt8),(7 : UInt8),(7 : UInt8),(7 : UInt8),(7 : UInt8),(7 : UInt8),(7 : UInt8),(7 : UInt8),(7 : UInt8),(7 : UInt8),(7 : UInt8),(7 : UInt8),(7 : UInt8),(7 : UInt8),(7 : UInt8),(7 : UInt8),(7 : UInt8),(7 : UInt8),(7 : UInt8),(7 : UInt8),(7 : UInt8),(7 : UInt8),(7 : UInt8),(7 : UInt8),(7 : UInt8),(7 : UInt8),(7 : UInt8),(7 : UInt8),(7 : UInt8),(7 : UInt8),(7 : UInt8),(7 : UInt8),(7 : UInt8),(7 : UInt8),(7 : UInt8),(7 : UInt8),(7 : UInt8),(7 : UInt8),(7 : UInt8),(7 : UInt8),(7 : UInt8),(7 : UInt8),(7 : UInt8),(7 : UInt8),(7 : UInt8),(7 : UInt8),(8 : UInt8),(8 : UInt8),(8 : UInt8),(8 : UInt8),(8 : UInt8),(8 : UInt8),(8 : UInt8),(8 : UInt8),(8 : UInt8),(8 : UInt8),(8 : UInt8),(8 : UInt8),(8 : UInt8),(8 : UInt8),(8 : UInt8),(8 : UInt8),(8 : UInt8),(8 : UInt8),(8 : UInt8),(8 : UInt8),(8 : UInt8),(8 : UInt8),(8 : UInt8),(8 : UInt8),(8 : UInt8),(8 : UInt8),(8 : UInt8),(8 : UInt8),(8 : UInt8),(8 : UInt8),(8 : UInt8),(8 : UInt8),(8 : UInt8),(8 : UInt8),(8 : UInt8),(8 : UInt8),(8 : UInt8),(8 : UInt8),(8 : UInt8),(8 : UInt8),(8 : UInt8),(8 : UInt8),(8 : UInt8),(8 : UInt8),(8 : UInt8),(8 : UInt8),(8 : UInt8),(8 : UInt8),(8 : UInt8),(8 : UInt8),(8 : UInt8),(8 : UInt8),(8 : UInt8),(8 : UInt8),(8 : UInt8),(8 : UInt8),(8 : UInt8),(8 : UInt8),(8 : UInt8),(8 : UInt8),(8 : UInt8),(8 : UInt8),(8 : UInt8),(8 : UInt8),(8 : UInt8),(8 : UInt8),(8 : UInt8),(8 : UInt8),(8 : UInt8),(8 : UInt8),(8 : UInt8),(8 : UInt8),(8 : UInt8),(8 : UInt8),(8 : UInt8),(8 : UInt8),(8 : UInt8),(8 : UInt8),(8 : UInt8),(8 : UInt8),(8 : UInt8),(8 : UInt8),(8 : UInt8),(8 : UInt8),(8 : UInt8),(8 : UInt8),(8 : UInt8),(8 : UInt8),(8 : UInt8),(8 : UInt8),(8 : UInt8),(8 : UInt8),(8 : UInt8),(8 : UInt8),(8 : UInt8),(8 : UInt8),(8 : UInt8),(8 : UInt8),(8 : UInt8),(8 : UInt8),(8 : UInt8),(8 : UInt8),(8 : UInt8),(8 : UInt8),(8 : UInt8),(8 : UInt8),(8 : UInt8),(8 : UInt8),(8 : UInt8),(8 : UInt8),(8 : UInt8),(8 : UInt8),(8 : UInt8),(8 : UInt8),(8 : UInt8),(8 : UInt8),(8 : UInt8),(8 : UInt8),(8 : UInt8),(8 : UInt8),(8 : UInt8),(8 : UInt8),(8 : UInt8),(8 : UInt8),(8 : UInt8),(8 : UInt8),(8 : UInt8),(8 : UInt8)])[Int.toNat (IntKind.wrap IntKind.u8 (Int.fdiv (Int.fdiv x0 (4294967296 : Int)) (256 : Int)))]?) fun y2 =>
          some (IntKind.wrap IntKind.i64 ((40 : Int) + IntKind.wrap IntKind.i64 (↑(UInt8.toNat y2) : Int)))) (
          none )) (
        ac (decide ((0 : Int) ≤ IntKind.wrap IntKind.u8 (Int.fdiv x0 (4294967296 : Int)))) (
          Option.bind ((ByteArray.mk #[(0 : UInt8),(1 : UInt8),(2 : UInt8),(2 : UInt8),(3 : UInt8),(3 : UInt8),(3 : UInt8),(3 : UInt8),(4 : UInt8),(4 : UInt8),(4 : UInt8),(4 : UInt8),(4 : UInt8),(4 : UInt8),(4 : UInt8),(4 : UInt8),(5 : UInt8),(5 : UInt8),(5 : UInt8),(5 : UInt8),(5 : UInt8),(5 : UInt8),(5 : UInt8),(5 : UInt8),(5 : UInt8),(5 : UInt8),(5 : UInt8),(5 : UInt8),(5 : UInt8),(5 : UInt8),(5 : UInt8),(5 : UInt8),(6 : UInt8),(6 : UInt8),(6 : UInt8),(6 : UInt8),(6 : UInt8),(6 : UInt8),(6 : UInt8),(6 : UInt8),(6 : UInt8),(6 : UInt8),(6 : UInt8),(6 : UInt8),(6 : UInt8),(6 : UInt8),(6 : UInt8),(6 : UInt8),(6 : UInt8),(6 : UInt8),(6 : UInt8),(6 : UInt8),(6 : UInt8),(6 : UInt8),(6 : UInt8),(6 : UInt8),(6 : UInt8),(6 : UInt8),(6 : UInt8),(6 : UInt8),(6 : UInt8),(6 : UInt8),(6 : UInt8),(6 : UInt8),(7 : UInt8),(7 : UInt8),(7 : UInt8),(7 : UInt8),(7 : UInt8),(7 : UInt8),(7 : UInt8),(7 : UInt8),(7 : UInt8),(7 : UInt8),(7 : UInt8),(7 : UInt8),(7 : UInt8),(7 : UInt8),(7 : UInt8),(7 : UInt8),(7 : UInt8),(7 : UInt8),(7 : UInt8),(7 : UInt8),(7 : UInt8),(7 : UInt8),(7 : UInt8),(7 : UInt8),(7 : UInt8),(7 : UInt8),(7 : UInt8),(7 : UInt8),(7 : UInt8),(7 : UInt8),(7 : UInt8),(7 : UInt8),(7 : UInt8),(7 : UInt8),(7 : UInt8),(7 : UInt8),(7 : UInt8),(7 : UInt8),(7 : UInt8),(7 : UInt8),(7 : UInt8),(7 : UInt8),(7 : UInt8),(7 : UInt8),(7 : UInt8),(7 : UInt8),(7 : UInt8),(7 : UInt8),(7 : UInt8),(7 : UInt8),(7 : UInt8),(7 : UInt8),(7 : UInt8),(7 : UInt8),(7 : UInt8),(7 : UInt8),(7 : UInt8),(7 : UInt8),(7 : UInt8),(7 : UInt8),(7 : UInt8),(7 : UInt8),(7 : UInt8),(7 : UInt8),(8 : UInt8),(8 : UInt8),(8 : UInt8),(8 : UInt8),(8 : UInt8),(8 : UInt8),(8 : UInt8),(8 : UInt8),(8 : UInt8),(8 : UInt8),(8 : UInt8),(8 : UInt8),(8 : UInt8),(8 : UInt8),(8 : UInt8),(8 : UInt8),(8 : UInt8),(8 : UInt8),(8 : UInt8),(8 : UInt8),(8 : UInt8),(8 : UInt8),(8 : UInt8),(8 : UInt8),(8 : UInt8),(8 : UInt8),(8 : UInt8),(8 : UInt8),(8 : UInt8),(8 : UInt8),(8 : UInt8),(8 : UInt8),(8 : UInt8),(8 : UInt8),(8 : UInt8),(8 : UInt8),(8 : UInt8),(8 : UInt8),(8 : UInt8),(8 : UInt8),(8 : UInt8),(8 : UInt8),(8 : UInt8),(8 : UInt8),(8 : UInt8),(8 : UInt8),(8 : UInt8),(8 : UInt8),(8 : UInt8),(8 : UInt8),(8 : UInt8),(8 : UInt8),(8 : UInt8),(8 : UInt8),(8 : UInt8),(8 : UInt8),(8 : UInt8),(8 : UInt8),(8 : UInt8),(8 : UInt8),(8 : UInt8),(8 : UInt8),(8 : UInt8),(8 : UInt8),(8 : UInt8),(8 : UInt8),(8 : UInt8),(8 : UInt8),(8 : UInt8),(8 : UInt8),(8 : UInt8),(8 : UInt8),(8 : UInt8),(8 : UInt8),(8 : UInt8),(8 : UInt8),(8 : UInt8),(8 : UInt8),(8 : UInt8),(8 : UInt8),(8 : UInt8),(8 : UInt8),(8 : UInt8),(8 : UInt8),(8 : UInt8),(8 : UInt8),(8 : UInt8),(8 : UInt8),(8 : UInt8),(8 : UInt8),(8 : UInt8),(8 : UInt8),(8 : UInt8),(8 : UInt8),(8 : UInt8),(8 : UInt8),(8 : UInt8),(8 : UInt8),(8 : UInt8),(8 : UInt8),(8 : UInt8),(8 : UInt8),(8 : UInt8),(8 : UInt8),(8 : UInt8),(8 : UInt8),(8 : UInt8),(8 : UInt8),(8 : UInt8),(8 : UInt8),(8 : UInt8),(8 : UInt8),(8 : UInt8),(8 : UInt8),(8 : UInt8),(8 : UInt8),(8 : UInt8),(8 : UInt8),(8 : UInt8),(8 : UInt8),(8 : UInt8),(8 : UInt8),(8 : UInt8),(8 : UInt8),(8 : UInt8),(8 : UInt8),(8 : UInt8),(8 : UInt8)])[Int.toNat (IntKind.wrap IntKind.u8 (Int.fdiv x0 (4294967296 : Int)))]?) fun y3 =>
          some (IntKind.wrap IntKind.i64 ((32 : Int) + IntKind.wrap IntKind.i64 (↑(UInt8.toNat y3) : Int)))) (
          none )))) (
    ac (decide (x0 ≥ (65536 : Int))) (
      ac (decide (Int.fdiv x0 (65536 : Int) ≥ (256 : Int))) (
        ac (decide ((0 : Int) ≤ IntKind.wrap IntKind.u8 (Int.fdiv (Int.fdiv x0 (65536 : Int)) (256 : Int)))) (
          Option.bind ((ByteArray.mk #[(0 : UInt8),(1 : UInt8),(2 : UInt8),(2 : UInt8),(3 : UInt8),(3 : UInt8),(3 : UInt8),(3 : UInt8),(4 : UInt8),(4 : UInt8),(4 : UInt8),(4 : UInt8),(4 : UInt8),(4 : UInt8),(4 : UInt8),(4 : UInt8),(5 : UInt8),(5 : UInt8),(5 : UInt8),(5 : UInt8),(5 : UInt8),(5 : UInt8),(5 : UInt8),(5 : UInt8),(5 : UInt8),(5 : UInt8),(5 : UInt8),(5 : UInt8),(5 : UInt8),(5 : UInt8),(5 : UInt8),(5 : UInt8),(6 : UInt8),(6 : UInt8),(6 : UInt8),(6 : UInt8),(6 : UInt8),(6 : UInt8),(6 : UInt8),(6 : UInt8),(6 : UInt8),(6 : UInt8),(6 : UInt8),(6 : UInt8),(6 : UInt8),(6 : UInt8),(6 : UInt8),(6 : UInt8),(6 : UInt8),(6 : UInt8),(6 : UInt8),(6 : UInt8),(6 : UInt8),(6 : UInt8),(6 : UInt8),(6 : UInt8),(6 : UInt8),(6 : UInt8),(6 : UInt8),(6 : UInt8),(6 : UInt8),(6 : UInt8),(6 : UInt8),(6 : UInt8),(7 : UInt8),(7 : UInt8),(7 : UInt8),(7 : UInt8),(7 : UInt8),(7 : UInt8),(7 : UInt8),(7 : UInt8),(7 : UInt8),(7 : UInt8),(7 : UInt8),(7 : UInt8),(7 : UInt8),(7 : UInt8),(7 : UInt8),(7 : UInt8),(7 : UInt8),(7 : UInt8),(7 : UInt8),(7 : UInt8),(7 : UInt8),(7 : UInt8),(7 : UInt8),(7 : UInt8),(7 : UInt8),(7 : UInt8),(7 : UInt8),(7 : UInt8),(7 : UInt8),(7 : UInt8),(7 : UInt8),(7 : UInt8),(7 : UInt8),(7 : UInt8),(7 : UInt8),(7 : UInt8),(7 : UInt8),(7 : UInt8),(7 : UInt8),(7 : UInt8),(7 : UInt8),(7 : UInt8),(7 : UInt8),(7 : UInt8),(7 : UInt8),(7 : UInt8),(7 : UInt8),(7 : UInt8),(7 : UInt8),(7 : UInt8),(7 : UInt8),(7 : UInt8),(7 : UInt8),(7 : UInt8),(7 : UInt8),(7 : UInt8),(7 : UInt8),(7 : UInt8),(7 : UInt8),(7 : UInt8),(7 : UInt8),(7 : UInt8),(7 : UInt8),(7 : UInt8),(8 : UInt8),(8 : UInt8),(8 : UInt8),(8 : UInt8),(8 : UInt8),(8 : UInt8),(8 : UInt8),(8 : UInt8),(8 : UInt8),(8 : UInt8),(8 : UInt8),(8 : UInt8),(8 : UInt8),(8 : UInt8),(8 : UInt8),(8 : UInt8),(8 : UInt8),(8 : UInt8),(8 : UInt8),(8 : UInt8),(8 : UInt8),(8 : UInt8),(8 : UInt8),(8 : UInt8),(8 : UInt8),(8 : UInt8),(8 : UInt8),(8 : UInt8),(8 : UInt8),(8 : UInt8),(8 : UInt8),(8 : UInt8),(8 : UInt8),(8 : UInt8),(8 : UInt8),(8 : UInt8),(8 : UInt8),(8 : UInt8),(8 : UInt8),(8 : UInt8),(8 : UInt8),(8 : UInt8),(8 : UInt8),(8 : UInt8),(8 : UInt8),(8 : UInt8),(8 : UInt8),(8 : UInt8),(8 : UInt8),(8 : UInt8),(8 : UInt8),(8 : UInt8),(8 : UInt8),(8 : UInt8),(8 : UInt8),(8 : UInt8),(8 : UInt8),(8 : UInt8),(8 : UInt8),(8 : UInt8),(8 : UInt8),(8 : UInt8),(8 : UInt8),(8 : UInt8),(8 : UInt8),(8 : UInt8),(8 : UInt8),(8 : UInt8),(8 : UInt8),(8 : UInt8),(8 : UInt8),(8 : UInt8),(8 : UInt8),(8 : UInt8),(8 : UInt8),(8 : UInt8),(8 : UInt8),(8 : UInt8),(8 : UInt8),(8 : UInt8),(8 : UInt8),(8 : UInt8),(8 : UInt8),(8 : UInt8),(8 : UInt8),(8 : UInt8),(8 : UInt8),(8 : UInt8),(8 : UInt8),(8 : UInt8),(8 : UInt8),(8 : UInt8),(8 : UInt8),(8 : UInt8),(8 : UInt8),(8 : UInt8),(8 : UInt8),(8 : UInt8),(8 : UInt8),(8 : UInt8),(8 : UInt8),(8 : UInt8),(8 : UInt8),(8 : UInt8),(8 : UInt8),(8 : UInt8),(8 : UInt8),(8 : UInt8),(8 : UInt8),(8 : UInt8),(8 : UInt8),(8 : UInt8),(8 : UInt8),(8 : UInt8),(8 : UInt8),(8 : UInt8),(8 : UInt8),(8 : UInt8),(8 : UInt8),(8 : UInt8),(8 : UInt8),(8 : UInt8),(8 : UInt8),(8 : UInt8),(8 : UInt8),(8 : UInt8),(8 : UInt8),(8 : UInt8)])[Int.toNat (IntKind.wrap IntKind.u8 (Int.fdiv (Int.fdiv x0 (65536 : Int)) (256 : Int)))]?) fun y4 =>
          some (IntKind.wrap IntKind.i64 ((24 : Int) + IntKind.wrap IntKind.i64 (↑(UInt8.toNat y4) : Int)))) (
          none )) (
        ac (decide ((0 : Int) ≤ IntKind.wrap IntKind.u8 (Int.fdiv x0 (65536 : Int)))) (
          Option.bind ((ByteArray.mk #[(0 : UInt8),(1 : UInt8),(2 : UInt8),(2 : UInt8),(3 : UInt8),(3 : UInt8),(3 : UInt8),(3 : UInt8),(4 : UInt8),(4 : UInt8),(4 : UInt8),(4 : UInt8),(4 : UInt8),(4 : UInt8),(4 : UInt8),(4 : UInt8),(5 : UInt8),(5 : UInt8),(5 : UInt8),(5 : UInt8),(5 : UInt8),(5 : UInt8),(5 : UInt8),(5 : UInt8),(5 : UInt8),(5 : UInt8),(5 : UInt8),(5 : UInt8),(5 : UInt8),(5 : UInt8),(5 : UInt8),(5 : UInt8),(6 : UInt8),(6 : UInt8),(6 : UInt8),(6 : UInt8),(6 : UInt8),(6 : UInt8),(6 : UInt8),(6 : UInt8),(6 : UInt8),(6 : UInt8),(6 : UInt8),(6 : UInt8),(6 : UInt8),(6 : UInt8),(6 : UInt8),(6 : UInt8),(6 : UInt8),(6 : UInt8),(6 : UInt8),(6 : UInt8),(6 : UInt8),(6 : UInt8),(6 : UInt8),(6 : UInt8),(6 : UInt8),(6 : UInt8),(6 : UInt8),(6 : UInt8),(6 : UInt8),(6 : UInt8),(6 : UInt8),(6 : UInt8),(7 : UInt8),(7 : UInt8),(7 : UInt8),(7 : UInt8),(7 : UInt8),(7 : UInt8),(7 : UInt8),(7 : UInt8),(7 : UInt8),(7 : UInt8),(7 : UInt8),(7 : UInt8),(7 : UInt8),(7 : UInt8),(7 : UInt8),(7 : UInt8),(7 : UInt8),(7 : UInt8),(7 : UInt8),(7 : UInt8),(7 : UInt8),(7 : UInt8),(7 : UInt8),(7 : UInt8),(7 : UInt8),(7 : UInt8),(7 : UInt8),(7 : UInt8),(7 : UInt8),(7 : UInt8),(7 : UInt8),(7 : UInt8),(7 : UInt8),(7 : UInt8),(7 : UInt8),(7 : UInt8),(7 : UInt8),(7 : UInt8),(7 : UInt8),(7 : UInt8),(7 : UInt8),(7 : UInt8),(7 : UInt8),(7 : UInt8),(7 : UInt8),(7 : UInt8),(7 : UInt8),(7 : UInt8),(7 : UInt8),(7 : UInt8),(7 : UInt8),(7 : UInt8),(7 : UInt8),(7 : UInt8),(7 : UInt8),(7 : UInt8),(7 : UInt8),(7 : UInt8),(7 : UInt8),(7 : UInt8),(7 : UInt8),(7 : UInt8),(7 : UInt8),(7 : UInt8),(8 : UInt8),(8 : UInt8),(8 : UInt8),(8 : UInt8),(8 : UInt8),(8 : UInt8),(8 : UInt8),(8 : UInt8),(8 : UInt8),(8 : UInt8),(8 : UInt8),(8 : UInt8),(8 : UInt8),(8 : UInt8),(8 : UInt8),(8 : UInt8),(8 : UInt8),(8 : UInt8),(8 : UInt8),(8 : UInt8),(8 : UInt8),(8 : UInt8),(8 : UInt8),(8 : UInt8),(8 : UInt8),(8 : UInt8),(8 : UInt8),(8 : UInt8),(8 : UInt8),(8 : UInt8),(8 : UInt8),(8 : UInt8),(8 : UInt8),(8 : UInt8),(8 : UInt8),(8 : UInt8),(8 : UInt8),(8 : UInt8),(8 : UInt8),(8 : UInt8),(8 : UInt8),(8 : UInt8),(8 : UInt8),(8 : UInt8),(8 : UInt8),(8 : UInt8),(8 : UInt8),(8 : UInt8),(8 : UInt8),(8 : UInt8),(8 : UInt8),(8 : UInt8),(8 : UInt8),(8 : UInt8),(8 : UInt8),(8 : UInt8),(8 : UInt8),(8 : UInt8),(8 : UInt8),(8 : UInt8),(8 : UInt8),(8 : UInt8),(8 : UInt8),(8 : UInt8),(8 : UInt8),(8 : UInt8),(8 : UInt8),(8 : UInt8),(8 : UInt8),(8 : UInt8),(8 : UInt8),(8 : UInt8),(8 : UInt8),(8 : UInt8),(8 : UInt8),(8 : UInt8),(8 : UInt8),(8 : UInt8),(8 : UInt8),(8 : UInt8),(8 : UInt8),(8 : UInt8),(8 : UInt8),(8 : UInt8),(8 : UInt8),(8 : UInt8),(8 : UInt8),(8 : UInt8),(8 : UInt8),(8 : UInt8),(8 : UInt8),(8 : UInt8),(8 : UInt8),(8 : UInt8),(8 : UInt8),(8 : UInt8),(8 : UInt8),(8 : UInt8),(8 : UInt8),(8 : UInt8),(8 : UInt8),(8 : UInt8),(8 : UInt8),(8 : UInt8),(8 : UInt8),(8 : UInt8),(8 : UInt8),(8 : UInt8),(8 : UInt8),(8 : UInt8),(8 : UInt8),(8 : UInt8),(8 : UInt8),(8 : UInt8),(8 : UInt8),(8 : UInt8),(8 : UInt8),(8 : UInt8),(8 : UInt8),(8 : UInt8),(8 : UInt8),(8 : UInt8),(8 : UInt8),(8 : UInt8),(8 : UInt8),(8 : UInt8),(8 : UInt8),(8 : UInt8)])[Int.toNat (IntKind.wrap IntKind.u8 (Int.fdiv x0 (65536 : Int)))]?) fun y5 =>
          some (IntKind.wrap IntKind.i64 ((16 : Int) + IntKind.wrap IntKind.i64 (↑(UInt8.toNat y5) : Int)))) (
          none ))) (
      ac (decide (x0 ≥ (256 : Int))) (
        ac (decide ((0 : Int) ≤ IntKind.wrap IntKind.u8 (Int.fdiv x0 (256 : Int)))) (
          Option.bind ((ByteArray.mk #[(0 : UInt8),(1 : UInt8),(2 : UInt8),(2 : UInt8),(3 : UInt8),(3 : UInt8),(3 : UInt8),(3 : UInt8),(4 : UInt8),(4 : UInt8),(4 : UInt8),(4 : UInt8),(4 : UInt8),(4 : UInt8),(4 : UInt8),(4 : UInt8),(5 : UInt8),(5 : UInt8),(5 : UInt8),(5 : UInt8),(5 : UInt8),(5 : UInt8),(5 : UInt8),(5 : UInt8),(5 : UInt8),(5 : UInt8),(5 : UInt8),(5 : UInt8),(5 : UInt8),(5 : UInt8),(5 : UInt8),(5 : UInt8),(6 : UInt8),(6 : UInt8),(6 : UInt8),(6 : UInt8),(6 : UInt8),(6 : UInt8),(6 : UInt8),(6 : UInt8),(6 : UInt8),(6 : UInt8),(6 : UInt8),(6 : UInt8),(6 : UInt8),(6 : UInt8),(6 : UInt8),(6 : UInt8),(6 : UInt8),(6 : UInt8),(6 : UInt8),(6 : UInt8),(6 : UInt8),(6 : UInt8),(6 : UInt8),(6 : UInt8),(6 : UInt8),(6 : UInt8),(6 : UInt8),(6 : UInt8),(6 : UInt8),(6 : UInt8),(6 : UInt8),(6 : UInt8),(7 : UInt8),(7 : UInt8),(7 : UInt8),(7 : UInt8),(7 : UInt8),(7 : UInt8),(7 : UInt8),(7 : UInt8),(7 : UInt8),(7 : UInt8),(7 : UInt8),(7 : UInt8),(7 : UInt8),(7 : UInt8),(7 : UInt8),(7 : UInt8),(7 : UInt8),(7 : UInt8),(7 : UInt8),(7 : UInt8),(7 : UInt8),(7 : UInt8),(7 : UInt8),(7 : UInt8),(7 : UInt8),(7 : UInt8),(7 : UInt8),(7 : UInt8),(7 : UInt8),(7 : UInt8),(7 : UInt8),(7 : UInt8),(7 : UInt8),(7 : UInt8),(7 : UInt8),(7 : UInt8),(7 : UInt8),(7 : UInt8),(7 : UInt8),(7 : UInt8),(7 : UInt8),(7 : UInt8),(7 : UInt8),(7 : UInt8),(7 : UInt8),(7 : UInt8),(7 : UInt8),(7 : UInt8),(7 : UInt8),(7 : UInt8),(7 : UInt8),(7 : UInt8),(7 : UInt8),(7 : UInt8),(7 : UInt8),(7 : UInt8),(7 : UInt8),(7 : UInt8),(7 : UInt8),(7 : UInt8),(7 : UInt8),(7 : UInt8),(7 : UInt8),(7 : UInt8),(8 : UInt8),(8 : UInt8),(8 : UInt8),(8 : UInt8),(8 : UInt8),(8 : UInt8),(8 : UInt8),(8 : UInt8),(8 : UInt8),(8 : UInt8),(8 : UInt8),(8 : UInt8),(8 : UInt8),(8 : UInt8),(8 : UInt8),(8 : UInt8),(8 : UInt8),(8 : UInt8),(8 : UInt8),(8 : UInt8),(8 : UInt8),(8 : UInt8),(8 : UInt8),(8 : UInt8),(8 : UInt8),(8 : UInt8),(8 : UInt8),(8 : UInt8),(8 : UInt8),(8 : UInt8),(8 : UInt8),(8 : UInt8),(8 : UInt8),(8 : UInt8),(8 : UInt8),(8 : UInt8),(8 : UInt8),(8 : UInt8),(8 : UInt8),(8 : UInt8),(8 : UInt8),(8 : UInt8),(8 : UInt8),(8 : UInt8),(8 : UInt8),(8 : UInt8),(8 : UInt8),(8 : UInt8),(8 : UInt8),(8 : UInt8),(8 : UInt8),(8 : UInt8),(8 : UInt8),(8 : UInt8),(8 : UInt8),(8 : UInt8),(8 : UInt8),(8 : UInt8),(8 : UInt8),(8 : UInt8),(8 : UInt8),(8 : UInt8),(8 : UInt8),(8 : UInt8),(8 : UInt8),(8 : UInt8),(8 : UInt8),(8 : UInt8),(8 : UInt8),(8 : UInt8),(8 : UInt8),(8 : UInt8),(8 : UInt8),(8 : UInt8),(8 : UInt8),(8 : UInt8),(8 : UInt8),(8 : UInt8),(8 : UInt8),(8 : UInt8),(8 : UInt8),(8 : UInt8),(8 : UInt8),(8 : UInt8),(8 : UInt8),(8 : UInt8),(8 : UInt8),(8 : UInt8),(8 : UInt8),(8 : UInt8),(8 : UInt8),(8 : UInt8),(8 : UInt8),(8 : UInt8),(8 : UInt8),(8 : UInt8),(8 : UInt8),(8 : UInt8),(8 : UInt8),(8 : UInt8),(8 : UInt8),(8 : UInt8),(8 : UInt8),(8 : UInt8),(8 : UInt8),(8 : UInt8),(8 : UInt8),(8 : UInt8),(8 : UInt8),(8 : UInt8),(8 : UInt8),(8 : UInt8),(8 : UInt8),(8 : UInt8),(8 : UInt8),(8 : UInt8),(8 : UInt8),(8 : UInt8),(8 : UInt8),(8 : UInt8),(8 : UInt8),(8 : UInt8),(8 : UInt8),(8 : UInt8),(8 : UInt8),(8 : UInt8),(8 : UInt8),(8 : UInt8)])[Int.toNat (IntKind.wrap IntKind.u8 (Int.fdiv x0 (256 : Int)))]?) fun y6 =>
          some (IntKind.wrap IntKind.i64 ((8 : Int) + IntKind.wrap IntKind.i64 (↑(UInt8.toNat y6) : Int)))) (
          none )) (
        ac (decide ((0 : Int) ≤ IntKind.wrap IntKind.u8 x0)) (
          Option.bind ((ByteArray.mk #[(0 : UInt8),(1 : UInt8),(2 : UInt8),(2 : UInt8),(3 : UInt8),(3 : UInt8),(3 : UInt8),(3 : UInt8),(4 : UInt8),(4 : UInt8),(4 : UInt8),(4 : UInt8),(4 : UInt8),(4 : UInt8),(4 : UInt8),(4 : UInt8),(5 : UInt8),(5 : UInt8),(5 : UInt8),(5 : UInt8),(5 : UInt8),(5 : UInt8),(5 : UInt8),(5 : UInt8),(5 : UInt8),(5 : UInt8),(5 : UInt8),(5 : UInt8),(5 : UInt8),(5 : UInt8),(5 : UInt8),(5 : UInt8),(6 : UInt8),(6 : UInt8),(6 : UInt8),(6 : UInt8),(6 : UInt8),(6 : UInt8),(6 : UInt8),(6 : UInt8),(6 : UInt8),(6 : UInt8),(6 : UInt8),(6 : UInt8),(6 : UInt8),(6 : UInt8),(6 : UInt8),(6 : UInt8),(6 : UInt8),(6 : UInt8),(6 : UInt8),(6 : UInt8),(6 : UInt8),(6 : UInt8),(6 : UInt8),(6 : UInt8),(6 : UInt8),(6 : UInt8),(6 : UInt8),(6 : UInt8),(6 : UInt8),(6 : UInt8),(6 : UInt8),(6 : UInt8),(7 : UInt8),(7 : UInt8),(7 : UInt8),(7 : UInt8),(7 : UInt8),(7 : UInt8),(7 : UInt8),(7 : UInt8),(7 : UInt8),(7 : UInt8),(7 : UInt8),(7 : UInt8),(7 : UInt8),(7 : UInt8),(7 : UInt8),(7 : UInt8),(7 : UInt8),(7 : UInt8),(7 : UInt8),(7 : UInt8),(7 : UInt8),(7 : UInt8),(7 : UInt8),(7 : UInt8),(7 : UInt8),(7 : UInt8),(7 : UInt8),(7 : UInt8),(7 : UInt8),(7 : UInt8),(7 : UInt8),(7 : UInt8),(7 : UInt8),(7 : UInt8),(7 : UInt8),(7 : UInt8),(7 : UInt8),(7 : UInt8),(7 : UInt8),(7 : UInt8),(7 : UInt8),(7 : UInt8),(7 : UInt8),(7 : UInt8),(7 : UInt8),(7 : UInt8),(7 : UInt8),(7 : UInt8),(7 : UInt8),(7 : UInt8),(7 : UInt8),(7 : UInt8),(7 : UInt8),(7 : UInt8),(7 : UInt8),(7 : UInt8),(7 : UInt8),(7 : UInt8),(7 : UInt8),(7 : UInt8),(7 : UInt8),(7 : UInt8),(7 : UInt8),(7 : UInt8),(8 : UInt8),(8 : UInt8),(8 : UInt8),(8 : UInt8),(8 : UInt8),(8 : UInt8),(8 : UInt8),(8 : UInt8),(8 : UInt8),(8 : UInt8),(8 : UInt8),(8 : UInt8),(8 : UInt8),(8 : UInt8),(8 : UInt8),(8 : UInt8),(8 : UInt8),(8 : UInt8),(8 : UInt8),(8 : UInt8),(8 : UInt8),(8 : UInt8),(8 : UInt8),(8 : UInt8),(8 : UInt8),(8 : UInt8),(8 : UInt8),(8 : UInt8),(8 : UInt8),(8 : UInt8),(8 : UInt8),(8 : UInt8),(8 : UInt8),(8 : UInt8),(8 : UInt8),(8 : UInt8),(8 : UInt8),(8 : UInt8),(8 : UInt8),(8 : UInt8),(8 : UInt8),(8 : UInt8),(8 : UInt8),(8 : UInt8),(8 : UInt8),(8 : UInt8),(8 : UInt8),(8 : UInt8),(8 : UInt8),(8 : UInt8),(8 : UInt8),(8 : UInt8),(8 : UInt8),(8 : UInt8),(8 : UInt8),(8 : UInt8),(8 : UInt8),(8 : UInt8),(8 : UInt8),(8 : UInt8),(8 : UInt8),(8 : UInt8),(8 : UInt8),(8 : UInt8),(8 : UInt8),(8 : UInt8),(8 : UInt8),(8 : UInt8),(8 : UInt8),(8 : UInt8),(8 : UInt8),(8 : UInt8),(8 : UInt8),(8 : UInt8),(8 : UInt8),(8 : UInt8),(8 : UInt8),(8 : UInt8),(8 : UInt8),(8 : UInt8),(8 : UInt8),(8 : UInt8),(8 : UInt8),(8 : UInt8),(8 : UInt8),(8 : UInt8),(8 : UInt8),(8 : UInt8),(8 : UInt8),(8 : UInt8),(8 : UInt8),(8 : UInt8),(8 : UInt8),(8 : UInt8),(8 : UInt8),(8 : UInt8),(8 : UInt8),(8 : UInt8),(8 : UInt8),(8 : UInt8),(8 : UInt8),(8 : UInt8),(8 : UInt8),(8 : UInt8),(8 : UInt8),(8 : UInt8),(8 : UInt8),(8 : UInt8),(8 : UInt8),(8 : UInt8),(8 : UInt8),(8 : UInt8),(8 : UInt8),(8 : UInt8),(8 : UInt8),(8 : UInt8),(8 : UInt8),(8 : UInt8),(8 : UInt8),(8 : UInt8),(8 : UInt8),(8 : UInt8),(8 : UInt8),(8 : UInt8),(8 : UInt8),(8 : UInt8),(8 : UInt8),(8 : UInt8)])[Int.toNat (IntKind.wrap IntKind.u8 x0)]?) fun y7 =>
          some (IntKind.wrap IntKind.i64 ((0 : Int) + IntKind.wrap IntKind.i64 (↑(UInt8.toNat y7) : Int)))) (
          none ))))
noncomputable def aC4 (N : Nat) : Pk → Tr Pk := ag s227 w227 (ak3 N)
theorem UC (N : Nat) : au Tryz.prog (227) (aC4 N) :=
  (ae af al (MJ N) Tryz.func227 s227 w227 [] (cuts := []) trivial (fun _ => by kernel_rfl) (by decide +kernel) (ak3 N) (fun x => by kernel_rfl))
@[reducible] def s161 : SP := ⟨[.int .u64],[]⟩
noncomputable def YV (N : Nat) : List (Nat × (Pk → Tr Pk)) := [(227,aC4 N)]
theorem M3 (N : Nat) : ah Tryz.prog (YV N) := ⟨UC N,trivial⟩
@[reducible] def w161 : List SP := [⟨[.int .i64],[]⟩]
noncomputable def Of (N : Nat) : (Int) → Option (Int)
  | x0 =>
  Option.bind (ak3 N x0) fun y0 =>
  some (y0)
noncomputable def aE5 (N : Nat) : Pk → Tr Pk := ag s161 w161 (Of N)
theorem U0 (N : Nat) : au Tryz.prog (161) (aE5 N) :=
  (ae af al (M3 N) Tryz.func161 s161 w161 [] (cuts := []) trivial (fun _ => by kernel_rfl) (by decide +kernel) (Of N) (fun x => by kernel_rfl))
@[reducible] def s98 : SP := ⟨[.agg [.int .i64,.int .i64],.int .i64],[]⟩
noncomputable def an6 (N : Nat) : List (Nat × (Pk → Tr Pk)) := [(161,aE5 N)]
theorem OR (N : Nat) : ah Tryz.prog (an6 N) := ⟨U0 N,trivial⟩
@[reducible] def w98 : List SP := [⟨[.bool],[]⟩]
noncomputable def F98 (N : Nat) : (Int × Int × Int) → Option (Bool)
  | (x0,x1,x2) =>
  ac (decide (x0 < (1 : Int))) (
    some (false)) (
    ac (decide (x0 > (65535 : Int))) (
      some (false)) (
      ac (IntKind.wrap IntKind.i64 (↑(BitVec.toNat (BitVec.ofInt (64 : Nat) x0 &&& BitVec.ofInt (64 : Nat) (IntKind.wrap IntKind.i64 (x0 + (1 : Int))))) : Int) != (0 : Int)) (
        some (false)) (
        ac (decide (x1 < (0 : Int))) (
          some (false)) (
          ac (decide (x1 > x2)) (
            some (false)) (
            Option.bind (Of N (IntKind.wrap IntKind.u64 x0)) fun y0 =>
            some (decide (IntKind.wrap IntKind.i64 (x1 + y0) ≤ x2)))))))
noncomputable def T98 (N : Nat) : Pk → Tr Pk := ag s98 w98 (F98 N)
theorem aa5 (N : Nat) : au Tryz.prog (98) (T98 N) :=
  (ae af al (OR N) Tryz.func98 s98 w98 [] (cuts := []) trivial (fun _ => by kernel_rfl) (by decide +kernel) (F98 N) (fun x => by kernel_rfl))
@[reducible] def s96 : SP := ⟨[.agg [.int .i64,.int .i64]],[]⟩
noncomputable def an8 (N : Nat) : List (Nat × (Pk → Tr Pk)) := []
theorem OT (N : Nat) : ah Tryz.prog (an8 N) := trivial
@[reducible] def w96 : List SP := [⟨[.int .i64],[]⟩]
noncomputable def F96 (N : Nat) : (Int × Int) → Option (Int)
  | (x0,x1) =>
  ac (decide (x1 < (0 : Int))) (
    none ) (
    some (IntKind.wrap IntKind.i64 (x0 * (2 : Int) ^ min (Int.toNat x1) (64 : Nat))))
noncomputable def T96 (N : Nat) : Pk → Tr Pk := ag s96 w96 (F96 N)
theorem Qs (N : Nat) : au Tryz.prog (96) (T96 N) :=
  (ae af al (OT N) Tryz.func96 s96 w96 [] (cuts := []) trivial (fun _ => by kernel_rfl) (by decide +kernel) (F96 N) (fun x => by kernel_rfl))
@[reducible] def s39 : SP := ⟨[.agg [.int .i64,.int .i64,.bool,.bool,.int .i64,.int .i64,.int .i64,.int .i64,.int .i64,.int .i64]],[]⟩
noncomputable def aq0 (N : Nat) : List (Nat × (Pk → Tr Pk)) := [(95,T95 N),(98,T98 N),(96,T96 N)]
theorem rF (N : Nat) : ah Tryz.prog (aq0 N) := ⟨zt N,aa5 N,Qs N,trivial⟩
@[reducible] def Jk : LD := ⟨250,[28,1,29,3],[(.ret,[2]),(.exit 1,[])],⟨[.arr y0 3,.adr 0 [],.int .i64,.int .i64],[.var 43 (.agg [.int .i64,.int .i64,.bool,.bool,.int .i64,.int .i64,.int .i64,.int .i64,.int .i64,.int .i64])]⟩,[(.ret,⟨[.bool],[]⟩),(.exit 1,⟨[],[]⟩)]⟩
abbrev AD : Type := (List (Int × (Int × Unit))) × Int × Int × Int × Int × Bool × Bool × Int × Int × Int × Int × Int × Int
abbrev zM : Type := ((Bool) ⊕ (Unit))
noncomputable def kw (N : Nat) (f : AD → Option zM) : AD → Option zM
  | (x0,x1,x2,x3,x4,x5,x6,x7,x8,x9,x10,x11,x12) =>
  ac (decide (x1 < (3 : Int))) (
    ac (within x1 (List.length x0)) (
      Option.bind (x0[Int.toNat x1]?) fun y0 =>
      Option.bind (F98 N (y0.1,y0.2.1,x3)) fun y1 =>
      ac (!y1) (
        some (.inl (false))) (
        Option.bind (F96 N (y0.1,y0.2.1)) fun y2 =>
        ac (IntKind.wrap IntKind.i64 (↑(BitVec.toNat (BitVec.ofInt (64 : Nat) x2 &&& BitVec.ofInt (64 : Nat) y2)) : Int) != (0 : Int)) (
          some (.inl (false))) (
          Option.bind (F96 N (y0.1,y0.2.1)) fun y3 =>
          Option.bind (f (x0,IntKind.wrap IntKind.i64 (x1 + (1 : Int)),IntKind.wrap IntKind.i64 (↑(BitVec.toNat (BitVec.ofInt (64 : Nat) x2 ||| BitVec.ofInt (64 : Nat) y3)) : Int),x3,x4,x5,x6,x7,x8,x9,x10,x11,x12)) fun r => match r with | .inl y => some (.inl y) | .inr y => some (.inr y)))) (
      none )) (
    some (.inr (())))
noncomputable def co (N : Nat) : Nat → AD → Option zM
  | 0,_ => none
  | k + 1,x => kw N (co N k) x
noncomputable def BB (N : Nat) (k : Nat) : Cut := Jk.cut (co N k)
theorem uQ (N : Nat) (k : Nat) : aj Tryz.prog false Tryz.f39 [] 250 (BB N k) :=
  Jk.loopT af al (rF N) Tryz.f39 [] (cuts := []) trivial (by decide +kernel) (by kernel_rfl) (kw N) (co N) (fun _ => rfl) (fun _ _ => rfl) (fun f x => by kernel_rfl) k
@[reducible] def WJ : LD := ⟨7,[1],[(.ret,[2]),(.normal,[2])],⟨[.adr 0 []],[.var 43 (.agg [.int .i64,.int .i64,.bool,.bool,.int .i64,.int .i64,.int .i64,.int .i64,.int .i64,.int .i64])]⟩,[(.ret,⟨[.bool],[]⟩)]⟩
noncomputable def uL (N : Nat) : (Int × Int × Bool × Bool × Int × Int × Int × Int × Int × Int) → Option (Bool)
  | (x0,x1,x2,x3,x4,x5,x6,x7,x8,x9) =>
  ac (decide (x1 < (1 : Int))) (
    some (false)) (
    ac (decide (x1 > x0)) (
      some (false)) (
      ac (!x3) (
        some (false)) (
        Option.bind (Vu N (x0,x1,x2,x3,x4,x5,x6,x7,x8,x9)) fun y0 =>
        Option.bind (co N N (y0,(0 : Int),(0 : Int),x0,x1,x2,x3,x4,x5,x6,x7,x8,x9)) fun y1 =>
        match y1 with
        | .inl y2 =>
          some (y2)
        | .inr y2 =>
          some (true))))
noncomputable def WP (N : Nat) (_ : Nat) : Cut := WJ.cut (uL N)
theorem RZ (N : Nat) (k : Nat) : aj Tryz.prog false Tryz.f39 [] 7 (WP N k) :=
  WJ.pieceT af al (rF N) Tryz.f39 [] (cuts := [(250,BB N N)]) ⟨uQ N N,trivial⟩ (by decide +kernel) (by kernel_rfl) (uL N) (fun x => by kernel_rfl)
@[reducible] def w39 : List SP := [⟨[.bool],[]⟩]
noncomputable def Ss (N : Nat) : (Int × Int × Bool × Bool × Int × Int × Int × Int × Int × Int) → Option (Bool)
  | (x0,x1,x2,x3,x4,x5,x6,x7,x8,x9) =>
  ac (x0 == (8 : Int)) (
    Option.bind (uL N (x0,x1,x2,x3,x4,x5,x6,x7,x8,x9)) fun y0 =>
    some (y0)) (
    ac (x0 == (16 : Int)) (
      Option.bind (uL N (x0,x1,x2,x3,x4,x5,x6,x7,x8,x9)) fun y1 =>
      some (y1)) (
      ac (x0 == (32 : Int)) (
        Option.bind (uL N (x0,x1,x2,x3,x4,x5,x6,x7,x8,x9)) fun y2 =>
        some (y2)) (
        some (false))))
noncomputable def T39 (N : Nat) : Pk → Tr Pk := ag s39 w39 (Ss N)
theorem oy (N : Nat) : au Tryz.prog (39) (T39 N) :=
  (ae af al (rF N) Tryz.func39 s39 w39 [] (cuts := [(250,BB N N),(7,WP N N)]) ⟨uQ N N,RZ N N,trivial⟩ (fun _ => by kernel_rfl) (by decide +kernel) (Ss N) (fun x => by kernel_rfl))
@[reducible] def s93 : SP := ⟨[.int .i64],[]⟩
noncomputable def ao0 (N : Nat) : List (Nat × (Pk → Tr Pk)) := []
theorem OV (N : Nat) : ah Tryz.prog (ao0 N) := trivial
@[reducible] def w93 : List SP := [⟨[.bool],[]⟩]
noncomputable def F93 (N : Nat) : (Int) → Option (Bool)
  | x0 =>
  ac (decide ((0 : Int) ≤ x0)) (
    some (decide (x0 ≤ (4096 : Int)))) (
    some (false))
noncomputable def T93 (N : Nat) : Pk → Tr Pk := ag s93 w93 (F93 N)
theorem aa6 (N : Nat) : au Tryz.prog (93) (T93 N) :=
  (ae af al (OV N) Tryz.func93 s93 w93 [] (cuts := []) trivial (fun _ => by kernel_rfl) (by decide +kernel) (F93 N) (fun x => by kernel_rfl))
@[reducible] def s35 : SP := ⟨[.agg [.int .i64,.int .i64,.bool,.bool,.int .i64,.int .i64,.int .i64,.int .i64,.int .i64,.int .i64],.int .i64,.int .i64],[]⟩
noncomputable def aq3 (N : Nat) : List (Nat × (Pk → Tr Pk)) := [(39,T39 N),(93,T93 N)]
theorem O5 (N : Nat) : ah Tryz.prog (aq3 N) := ⟨oy N,aa6 N,trivial⟩
@[reducible] def w35 : List SP := [⟨[.bool],[]⟩]
noncomputable def WM (N : Nat) : (Int × Int × Bool × Bool × Int × Int × Int × Int × Int × Int × Int × Int) → Option (Bool)
  | (x0,x1,x2,x3,x4,x5,x6,x7,x8,x9,x10,x11) =>
  Option.bind (Ss N (x0,x1,x2,x3,x4,x5,x6,x7,x8,x9)) fun y0 =>
  ac (y0) (
    Option.bind (F93 N x10) fun y1 =>
    ac (y1) (
      Option.bind (F93 N x11) fun y2 =>
      some (y2)) (
      some (false))) (
    some (false))
noncomputable def T35 (N : Nat) : Pk → Tr Pk := ag s35 w35 (WM N)
theorem zx (N : Nat) : au Tryz.prog (35) (T35 N) :=
  (ae af al (O5 N) Tryz.func35 s35 w35 [] (cuts := []) trivial (fun _ => by kernel_rfl) (by decide +kernel) (WM N) (fun x => by kernel_rfl))
@[reducible] def s97 : SP := ⟨[.agg [.int .i64,.int .i64,.bool,.bool,.int .i64,.int .i64,.int .i64,.int .i64,.int .i64,.int .i64]],[]⟩
noncomputable def an7 (N : Nat) : List (Nat × (Pk → Tr Pk)) := [(39,T39 N)]
theorem OS (N : Nat) : ah Tryz.prog (an7 N) := ⟨oy N,trivial⟩
@[reducible] def w97 : List SP := [⟨[.int .i64],[]⟩]
noncomputable def WK (N : Nat) : (Int × Int × Bool × Bool × Int × Int × Int × Int × Int × Int) → Option (Int)
  | (x0,x1,x2,x3,x4,x5,x6,x7,x8,x9) =>
  Option.bind (Ss N (x0,x1,x2,x3,x4,x5,x6,x7,x8,x9)) fun y0 =>
  ac (!y0) (
    some ((0 : Int))) (
    some (IntKind.wrap IntKind.i64 (Int.tdiv x0 (8 : Int))))
noncomputable def T97 (N : Nat) : Pk → Tr Pk := ag s97 w97 (WK N)
theorem Qr (N : Nat) : au Tryz.prog (97) (T97 N) :=
  (ae af al (OS N) Tryz.func97 s97 w97 [] (cuts := []) trivial (fun _ => by kernel_rfl) (by decide +kernel) (WK N) (fun x => by kernel_rfl))
@[reducible] def s37 : SP := ⟨[.agg [.int .i64,.int .i64,.bool,.bool,.int .i64,.int .i64,.int .i64,.int .i64,.int .i64,.int .i64]],[]⟩
noncomputable def aq2 (N : Nat) : List (Nat × (Pk → Tr Pk)) := [(39,T39 N),(95,T95 N),(96,T96 N),(97,T97 N)]
theorem Cb (N : Nat) : ah Tryz.prog (aq2 N) := ⟨oy N,zt N,Qs N,Qr N,trivial⟩
@[reducible] def Js : LD := ⟨122,[4,12,1,11],[(.ret,[2,3]),(.exit 0,[4,1])],⟨[.int .i64,.int .i64,.adr 0 [],.arr y0 3],[.var 43 (.agg [.int .i64,.int .i64,.bool,.bool,.int .i64,.int .i64,.int .i64,.int .i64,.int .i64,.int .i64])]⟩,[(.exit 0,⟨[.int .i64,.adr 0 []],[.var 43 (.agg [.int .i64,.int .i64,.bool,.bool,.int .i64,.int .i64,.int .i64,.int .i64,.int .i64,.int .i64])]⟩)]⟩
abbrev AL : Type := Int × Int × (List (Int × (Int × Unit))) × Int × Int × Bool × Bool × Int × Int × Int × Int × Int × Int
abbrev zU : Type := Int × Int × Int × Bool × Bool × Int × Int × Int × Int × Int × Int
noncomputable def ky (N : Nat) (f : AL → Option zU) : AL → Option zU
  | (x0,x1,x2,x3,x4,x5,x6,x7,x8,x9,x10,x11,x12) =>
  ac (decide (x1 < (3 : Int))) (
    ac (within x1 (List.length x2)) (
      Option.bind (x2[Int.toNat x1]?) fun y0 =>
      Option.bind (F96 N (y0.1,y0.2.1)) fun y1 =>
      Option.bind (f (IntKind.wrap IntKind.i64 (↑(BitVec.toNat (BitVec.ofInt (64 : Nat) x0 ||| BitVec.ofInt (64 : Nat) y1)) : Int),IntKind.wrap IntKind.i64 (x1 + (1 : Int)),x2,x3,x4,x5,x6,x7,x8,x9,x10,x11,x12)) fun r => some r) (
      none )) (
    some ((x0,x3,x4,x5,x6,x7,x8,x9,x10,x11,x12)))
noncomputable def cp (N : Nat) : Nat → AL → Option zU
  | 0,_ => none
  | k + 1,x => ky N (cp N k) x
noncomputable def Kl (N : Nat) (k : Nat) : Cut := Js.cut (cp N k)
theorem Hr (N : Nat) (k : Nat) : aj Tryz.prog false Tryz.f37 [] 122 (Kl N k) :=
  Js.loopT af al (Cb N) Tryz.f37 [] (cuts := []) trivial (by decide +kernel) (by kernel_rfl) (ky N) (cp N) (fun _ => rfl) (fun _ _ => rfl) (fun f x => by kernel_rfl) k
@[reducible] def w37 : List SP := [⟨[.tup [.int .i64,.int .i64]],[]⟩]
noncomputable def J8 (N : Nat) : (Int × Int × Bool × Bool × Int × Int × Int × Int × Int × Int) → Option (Int × Int)
  | (x0,x1,x2,x3,x4,x5,x6,x7,x8,x9) =>
  Option.bind (Ss N (x0,x1,x2,x3,x4,x5,x6,x7,x8,x9)) fun y0 =>
  ac (!y0) (
    some (((0 : Int),(0 : Int)))) (
    Option.bind (Vu N (x0,x1,x2,x3,x4,x5,x6,x7,x8,x9)) fun y1 =>
    Option.bind (cp N N ((0 : Int),(0 : Int),y1,x0,x1,x2,x3,x4,x5,x6,x7,x8,x9)) fun (y2_0,y2_1,y2_2,y2_3,y2_4,y2_5,y2_6,y2_7,y2_8,y2_9,y2_10) =>
    ac (decide (y2_1 < (32 : Int))) (
      Option.bind (WK N (y2_1,y2_2,y2_3,y2_4,y2_5,y2_6,y2_7,y2_8,y2_9,y2_10)) fun y3 =>
      some ((y3,(0 : Int)))) (
      ac (decide (y2_2 > (24 : Int))) (
        Option.bind (WK N (y2_1,y2_2,y2_3,y2_4,y2_5,y2_6,y2_7,y2_8,y2_9,y2_10)) fun y4 =>
        some ((y4,(0 : Int)))) (
        ac (decide (y2_0 < (16777216 : Int))) (
          some (((3 : Int),(0 : Int)))) (
          ac (IntKind.wrap IntKind.i64 (↑(BitVec.toNat (BitVec.ofInt (64 : Nat) y2_0 &&& BitVec.ofInt (64 : Nat) (255 : Int))) : Int) == (0 : Int)) (
            some (((3 : Int),(8 : Int)))) (
            Option.bind (WK N (y2_1,y2_2,y2_3,y2_4,y2_5,y2_6,y2_7,y2_8,y2_9,y2_10)) fun y5 =>
            some ((y5,(0 : Int))))))))
noncomputable def T37 (N : Nat) : Pk → Tr Pk := ag s37 w37 (J8 N)
theorem zu (N : Nat) : au Tryz.prog (37) (T37 N) :=
  (ae af al (Cb N) Tryz.func37 s37 w37 [] (cuts := [(122,Kl N N)]) ⟨Hr N N,trivial⟩ (fun _ => by kernel_rfl) (by decide +kernel) (J8 N) (fun x => by kernel_rfl))
@[reducible] def s81 : SP := ⟨[.str],[]⟩
noncomputable def ap2 (N : Nat) : List (Nat × (Pk → Tr Pk)) := []
theorem OZ (N : Nat) : ah Tryz.prog (ap2 N) := trivial
@[reducible] def w81 : List SP := [⟨[.adr 0 []],[.var 189 (.agg [.str,.int .i64,.int .i64])]⟩]
noncomputable def F81 (N : Nat) : (ByteArray) → Option (ByteArray × Int × Int)
  | x0 =>
  some ((x0,(0 : Int),(0 : Int)))
noncomputable def T81 (N : Nat) : Pk → Tr Pk := ag s81 w81 (F81 N)
theorem Gw (N : Nat) : au Tryz.prog (81) (T81 N) :=
  (ae af al (OZ N) Tryz.func81 s81 w81 [] (cuts := []) trivial (fun _ => by kernel_rfl) (by decide +kernel) (F81 N) (fun x => by kernel_rfl))
@[reducible] def s139 : SP := ⟨[.int .i64],[]⟩
noncomputable def Zg (N : Nat) : List (Nat × (Pk → Tr Pk)) := []
theorem Nf (N : Nat) : ah Tryz.prog (Zg N) := trivial
@[reducible] def w139 : List SP := [⟨[.bool],[]⟩]
noncomputable def RN (N : Nat) : (Int) → Option (Bool)
  | x0 =>
  ac (decide ((1 : Int) ≤ x0)) (
    some (decide (x0 ≤ (4096 : Int)))) (
    some (false))
noncomputable def aF8 (N : Nat) : Pk → Tr Pk := ag s139 w139 (RN N)
theorem Vk (N : Nat) : au Tryz.prog (139) (aF8 N) :=
  (ae af al (Nf N) Tryz.func139 s139 w139 [] (cuts := []) trivial (fun _ => by kernel_rfl) (by decide +kernel) (RN N) (fun x => by kernel_rfl))
@[reducible] def y1 : Ty := (.cons (.int .i64) (.cons (.int .i64) (.cons (.int .i64) (.cons (.int .i64) .unit))))
@[reducible] def s140 : SP := ⟨[.int .i64,.int .i64,.int .i64],[]⟩
noncomputable def Zf (N : Nat) : List (Nat × (Pk → Tr Pk)) := []
theorem Nc (N : Nat) : ah Tryz.prog (Zf N) := trivial
@[reducible] def w140 : List SP := [⟨[.clo 209 [.adr 0 [],.adr 1 [],.adr 2 []]],[.var 3 (.int .i64),.var 3 (.int .i64),.var 3 (.int .i64)]⟩]
noncomputable def Wa (N : Nat) : (Int × Int × Int) → Option (Int × Int × Int)
  | (x0,x1,x2) =>
  some ((x1,x2,x0))
noncomputable def aF7 (N : Nat) : Pk → Tr Pk := ag s140 w140 (Wa N)
theorem Vj (N : Nat) : au Tryz.prog (140) (aF7 N) :=
  (ae af al (Nc N) Tryz.func140 s140 w140 [] (cuts := []) trivial (fun _ => by kernel_rfl) (by decide +kernel) (Wa N) (fun x => by kernel_rfl))
@[reducible] def s82r122 : SP := ⟨[.yv 0,.agg [.int .i64,.int .i64,.int .i64,.int .i64],.adr 1 []],[.lp 1512633014044183232634 [7] [.adr 1 []] 0,.var 55 (.sl 2),.row y1 126]⟩
noncomputable def LG (N : Nat) : List (Nat × (Pk → Tr Pk)) := []
theorem yr (N : Nat) : ah Tryz.prog (LG N) := trivial
@[reducible] def w82r122 : List SP := [⟨[.bc true],[.lp 1512633014044183232634 [7] [.adr 1 []] 0,.var 55 (.sl 2),.row y1 126]⟩]
noncomputable def mH (N : Nat) : (Int × Int × Int × Int × (List (Int × (Int × (Int × (Int × Unit)))))) → Option ((List (Int × (Int × (Int × (Int × Unit))))))
  | (x0,x1,x2,x3,x4) =>
  ac (decide ((List.length x4 + List.length [(x0,x1,x2,x3,())]) * (32 : Nat) ≤ (140737488355328 : Nat) ∧ List.length x4 + List.length [(x0,x1,x2,x3,())] ≤ (140737488355328 : Nat))) (
    some (x4 ++ [(x0,x1,x2,x3,())])) (
    none )
noncomputable def II (N : Nat) : Pk → Tr Pk := ag s82r122 w82r122 (mH N)
theorem Gu (N : Nat) : au Tryz.prog (82 * aX + 122) (II N) :=
  (Pm af al (yr N) Tryz.func82 122 s82r122 w82r122 [0,1,1] (cuts := []) trivial (fun _ => by kernel_rfl) (by decide +kernel) (mH N) (fun x => by kernel_rfl))
@[reducible] def s209 : SP := ⟨[.yv 0,.adr 1 [],.adr 2 [],.adr 3 []],[.lp 1512633014044183232634 [7] [.adr 4 []] 0,.var 3 (.int .i64),.var 3 (.int .i64),.var 3 (.int .i64),.var 55 (.sl 5),.row y1 126]⟩
noncomputable def YI (N : Nat) : List (Nat × (Pk → Tr Pk)) := [(82 * aX + 122,II N)]
theorem nK (N : Nat) : ah Tryz.prog (YI N) := ⟨Gu N,trivial⟩
@[reducible] def Dx : LD := ⟨402,[0,3,1,5,2,6],[(.exit 2,[5,0,3,1,2]),(.exit 1,[5,0,3,1,2])],⟨[.yv 0,.adr 3 [],.adr 1 [],.int .i64,.adr 2 [],.int .i64],[.lp 1512633014044183232634 [7] [.adr 4 []] 0,.var 3 (.int .i64),.var 3 (.int .i64),.var 3 (.int .i64),.var 55 (.sl 5),.row y1 126]⟩,[(.exit 2,⟨[.int .i64,.yv 0,.adr 3 [],.adr 1 [],.adr 2 []],[.lp 1512633014044183232634 [7] [.adr 4 []] 0,.var 3 (.int .i64),.var 3 (.int .i64),.var 3 (.int .i64),.var 55 (.sl 5),.row y1 126]⟩)]⟩
abbrev uo : Type := Int × Int × Int × Int × Int × (List (Int × (Int × (Int × (Int × Unit)))))
abbrev tB : Type := Int × Int × Int × Int × (List (Int × (Int × (Int × (Int × Unit)))))
noncomputable def eI (N : Nat) (f : uo → Option tB) : uo → Option tB
  | (x0,x1,x2,x3,x4,x5) =>
  ac (decide (x1 < x4)) (
    Option.bind (mH N (x1,x0,if IntKind.wrap IntKind.i64 (x4 - x1) < x3 then IntKind.wrap IntKind.i64 (x4 - x1) else x3,if IntKind.wrap IntKind.i64 (x2 - x0) < x3 then IntKind.wrap IntKind.i64 (x2 - x0) else x3,x5)) fun y0 =>
    Option.bind (f (x0,IntKind.wrap IntKind.i64 (x1 + x3),x2,x3,x4,y0)) fun r => some r) (
    some ((x0,x2,x3,x4,x5)))
noncomputable def dz (N : Nat) : Nat → uo → Option tB
  | 0,_ => none
  | k + 1,x => eI N (dz N k) x
noncomputable def uY (N : Nat) (k : Nat) : Cut := Dx.cut (dz N k)
theorem qh (N : Nat) (k : Nat) : aj Tryz.prog false Tryz.f209 [0,1,2,3,4] 402 (uY N k) :=
  Dx.loopT af al (nK N) Tryz.f209 [0,1,2,3,4] (cuts := []) trivial (by decide +kernel) (by kernel_rfl) (eI N) (dz N) (fun _ => rfl) (fun _ _ => rfl) (fun f x => by kernel_rfl) k
@[reducible] def QY : LD := ⟨6,[0,3,1,5,2],[(.exit 0,[])],⟨[.yv 0,.adr 3 [],.adr 1 [],.int .i64,.adr 2 []],[.lp 1512633014044183232634 [7] [.adr 4 []] 0,.var 3 (.int .i64),.var 3 (.int .i64),.var 3 (.int .i64),.var 55 (.sl 5),.row y1 126]⟩,[(.exit 0,⟨[],[.lp 1512633014044183232634 [7] [.adr 4 []] 0,.var 3 (.int .i64),.var 3 (.int .i64),.var 3 (.int .i64),.var 55 (.sl 5),.row y1 126]⟩)]⟩
abbrev GZ : Type := Int × Int × Int × Int × (List (Int × (Int × (Int × (Int × Unit)))))
abbrev GL : Type := Int × Int × Int × (List (Int × (Int × (Int × (Int × Unit)))))
noncomputable def lP (N : Nat) (f : GZ → Option GL) : GZ → Option GL
  | (x0,x1,x2,x3,x4) =>
  ac (decide (x0 < x1)) (
    Option.bind (dz N N (x0,(0 : Int),x1,x2,x3,x4)) fun y0 =>
    Option.bind (f (IntKind.wrap IntKind.i64 (y0.1 + y0.2.2.1),y0.2.1,y0.2.2.1,y0.2.2.2.1,y0.2.2.2.2)) fun r => some r) (
    some ((x1,x2,x3,x4)))
noncomputable def hJ (N : Nat) : Nat → GZ → Option GL
  | 0,_ => none
  | k + 1,x => lP N (hJ N k) x
noncomputable def Si (N : Nat) (k : Nat) : Cut := QY.cut (hJ N k)
theorem Ox (N : Nat) (k : Nat) : aj Tryz.prog false Tryz.f209 [0,1,2,3,4] 6 (Si N k) :=
  QY.loopT af al (nK N) Tryz.f209 [0,1,2,3,4] (cuts := [(402,uY N N)]) ⟨qh N N,trivial⟩ (by decide +kernel) (by kernel_rfl) (lP N) (hJ N) (fun _ => rfl) (fun _ _ => rfl) (fun f x => by kernel_rfl) k
@[reducible] def w209 : List SP := [⟨[.tup []],[.lp 1512633014044183232634 [7] [.adr 4 []] 0,.var 3 (.int .i64),.var 3 (.int .i64),.var 3 (.int .i64),.var 55 (.sl 5),.row y1 126]⟩]
noncomputable def V5 (N : Nat) : (Int × Int × Int × (List (Int × (Int × (Int × (Int × Unit)))))) → Option (Int × Int × Int × (List (Int × (Int × (Int × (Int × Unit))))))
  | (x0,x1,x2,x3) =>
  Option.bind (hJ N N ((0 : Int),x0,x1,x2,x3)) fun y0 =>
  some ((y0.1,y0.2.1,y0.2.2.1,y0.2.2.2))
noncomputable def aD5 (N : Nat) : Pk → Tr Pk := ag s209 w209 (V5 N)
theorem UQ (N : Nat) : au Tryz.prog (209) (aD5 N) :=
  (ae af al (nK N) Tryz.func209 s209 w209 [0,1,2,3,4] (cuts := [(402,uY N N),(6,Si N N)]) ⟨qh N N,Ox N N,trivial⟩ (fun _ => by kernel_rfl) (by decide +kernel) (V5 N) (fun x => by kernel_rfl))
@[reducible] def s82 : SP := ⟨[.int .i64,.int .i64,.int .i64],[]⟩
noncomputable def ap1 (N : Nat) : List (Nat × (Pk → Tr Pk)) := [(139,aF8 N),(140,aF7 N),(209,aD5 N)]
theorem BY (N : Nat) : ah Tryz.prog (ap1 N) := ⟨Vk N,Vj N,UQ N,trivial⟩
@[reducible] def Jj : LD := ⟨122,[6,7,25],[(.ret,[6]),(.exit 0,[7]),(.normal,[7])],⟨[.sl 0,.adr 1 [],.clo 209 [.adr 2 [],.adr 3 [],.adr 4 []]],[.row y1 126,.var 55 (.sl 5),.var 3 (.int .i64),.var 3 (.int .i64),.var 3 (.int .i64),.row y1 126]⟩,[(.normal,⟨[.adr 0 []],[.var 55 (.sl 1),.row y1 126]⟩)]⟩
noncomputable def qP (N : Nat) : ((List (Int × (Int × (Int × (Int × Unit))))) × Int × Int × Int × (List (Int × (Int × (Int × (Int × Unit)))))) → Option ((List (Int × (Int × (Int × (Int × Unit))))))
  | (x0,x1,x2,x3,x4) =>
  Option.bind (V5 N (x1,x2,x3,x4)) fun y0 =>
  some y0.2.2.2
noncomputable def Kf (N : Nat) (_ : Nat) : Cut := Jj.cut (qP N)
theorem Hk (N : Nat) (k : Nat) : aj Tryz.prog false Tryz.f82 [] 122 (Kf N k) :=
  Jj.rngT af al (BY N) Tryz.func82 [] [7] (by decide +kernel) (qP N) (fun x => by kernel_rfl)
@[reducible] def w82 : List SP := [⟨[.sl 0],[.row y1 126]⟩]
noncomputable def F82 (N : Nat) : (Int × Int × Int) → Option ((List (Int × (Int × (Int × (Int × Unit))))))
  | (x0,x1,x2) =>
  Option.bind (RN N x0) fun y0 =>
  ac (!y0) (
    some ([])) (
    Option.bind (RN N x1) fun y1 =>
    ac (!y1) (
      some ([])) (
      ac (decide (x2 < (1 : Int))) (
        some ([])) (
        Option.bind (Wa N (x0,x1,if (4096 : Int) < x2 then (4096 : Int) else x2)) fun y2 =>
        Option.bind (qP N ([],y2.1,y2.2.1,y2.2.2,[])) fun y3 =>
        some (y3))))
noncomputable def T82 (N : Nat) : Pk → Tr Pk := ag s82 w82 (F82 N)
theorem Gv (N : Nat) : au Tryz.prog (82) (T82 N) :=
  (ae af al (BY N) Tryz.func82 s82 w82 [] (cuts := [(122,Kf N N)]) ⟨Hk N N,trivial⟩ (fun _ => by kernel_rfl) (by decide +kernel) (F82 N) (fun x => by kernel_rfl))
@[reducible] def s230 : SP := ⟨[.int .i64],[]⟩
noncomputable def Yp (N : Nat) : List (Nat × (Pk → Tr Pk)) := []
theorem MH (N : Nat) : ah Tryz.prog (Yp N) := trivial
@[reducible] def w230 : List SP := [⟨[.bool],[]⟩]
noncomputable def Rs (N : Nat) : (Int) → Option (Bool)
  | x0 =>
  ac (x0 == (1 : Int)) (
    some (true)) (
    ac (x0 == (2 : Int)) (
      some (true)) (
      some (x0 == (4 : Int))))
noncomputable def af0 (N : Nat) : Pk → Tr Pk := ag s230 w230 (Rs N)
theorem I9 (N : Nat) : au Tryz.prog (230) (af0 N) :=
  (ae af al (MH N) Tryz.func230 s230 w230 [] (cuts := []) trivial (fun _ => by kernel_rfl) (by decide +kernel) (Rs N) (fun x => by kernel_rfl))
@[reducible] def s206 : SP := ⟨[.adr 0 [],.int .i64],[.var 189 (.agg [.str,.int .i64,.int .i64])]⟩
noncomputable def YL (N : Nat) : List (Nat × (Pk → Tr Pk)) := []
theorem MX (N : Nat) : ah Tryz.prog (YL N) := trivial
@[reducible] def w206 : List SP := [⟨[.tup []],[.var 189 (.agg [.str,.int .i64,.int .i64])]⟩]
noncomputable def Ha (N : Nat) : (Int × ByteArray × Int × Int) → Option (ByteArray × Int × Int)
  | (x0,x1,x2,x3) =>
  ac (x3 == (0 : Int)) (
    some ((x1,x2,x0))) (
    some ((x1,x2,x3)))
noncomputable def af4 (N : Nat) : Pk → Tr Pk := ag s206 w206 (Ha N)
theorem Jd (N : Nat) : au Tryz.prog (206) (af4 N) :=
  (ae af al (MX N) Tryz.func206 s206 w206 [0] (cuts := []) trivial (fun _ => by kernel_rfl) (by decide +kernel) (Ha N) (fun x => by kernel_rfl))
@[reducible] def y2 : Ty := (.cons .str (.cons (.int .i64) (.cons (.int .i64) .unit)))
@[reducible] def s86 : SP := ⟨[.radr y2 [.i 0 3]],[]⟩
noncomputable def ao7 (N : Nat) : List (Nat × (Pk → Tr Pk)) := []
theorem OX (N : Nat) : ah Tryz.prog (ao7 N) := trivial
@[reducible] def w86 : List SP := [⟨[.int .i64],[]⟩]
noncomputable def F86 (N : Nat) : ((ByteArray × (Int × (Int × Unit)))) → Option (Int)
  | x0 =>
  some (IntKind.wrap IntKind.i64 ((↑(ByteArray.size x0.1) : Int) - x0.2.1))
noncomputable def T86 (N : Nat) : Pk → Tr Pk := ag s86 w86 (F86 N)
theorem Qu (N : Nat) : au Tryz.prog (86) (T86 N) :=
  (ae af al (OX N) Tryz.func86 s86 w86 [] (cuts := []) trivial (fun _ => by kernel_rfl) (by decide +kernel) (F86 N) (fun x => by kernel_rfl))
@[reducible] def s135 : SP := ⟨[.adr 0 [],.int .i64],[.var 189 (.agg [.str,.int .i64,.int .i64])]⟩
noncomputable def Zk (N : Nat) : List (Nat × (Pk → Tr Pk)) := [(206,af4 N),(86,T86 N)]
theorem Nj (N : Nat) : ah Tryz.prog (Zk N) := ⟨Jd N,Qu N,trivial⟩
@[reducible] def w135 : List SP := [⟨[.str],[.var 189 (.agg [.str,.int .i64,.int .i64])]⟩]
noncomputable def lG (N : Nat) : (Int × ByteArray × Int × Int) → Option (ByteArray × ByteArray × Int × Int)
  | (x0,x1,x2,x3) =>
  ac (decide (x0 < (0 : Int))) (
    Option.bind (Ha N ((1 : Int),x1,x2,x3)) fun y0 =>
    ac (y0.2.2 != (0 : Int)) (
      some ((ByteArray.mk #[],y0.1,y0.2.1,y0.2.2))) (
      ac (decide ((0 : Int) ≤ IntKind.wrap IntKind.i64 (y0.2.1 + x0) ∧ IntKind.wrap IntKind.i64 (y0.2.1 + x0) ≤ (↑(ByteArray.size y0.1) : Int))) (
        ac (decide ((0 : Int) ≤ IntKind.wrap IntKind.i64 (IntKind.wrap IntKind.i64 (y0.2.1 + x0) - x0) ∧ IntKind.wrap IntKind.i64 (IntKind.wrap IntKind.i64 (y0.2.1 + x0) - x0) ≤ (↑(Int.toNat (IntKind.wrap IntKind.i64 (y0.2.1 + x0))) : Int))) (
          some ((ByteArray.extract y0.1 (Int.toNat (IntKind.wrap IntKind.i64 (IntKind.wrap IntKind.i64 (y0.2.1 + x0) - x0))) (Int.toNat (IntKind.wrap IntKind.i64 (y0.2.1 + x0))),y0.1,IntKind.wrap IntKind.i64 (y0.2.1 + x0),y0.2.2))) (
          none )) (
        none ))) (
    Option.bind (F86 N (x1,x2,x3,())) fun y1 =>
    ac (decide (x0 > y1)) (
      Option.bind (Ha N ((2 : Int),x1,x2,x3)) fun y2 =>
      ac (y2.2.2 != (0 : Int)) (
        some ((ByteArray.mk #[],y2.1,y2.2.1,y2.2.2))) (
        ac (decide ((0 : Int) ≤ IntKind.wrap IntKind.i64 (y2.2.1 + x0) ∧ IntKind.wrap IntKind.i64 (y2.2.1 + x0) ≤ (↑(ByteArray.size y2.1) : Int))) (
          ac (decide ((0 : Int) ≤ IntKind.wrap IntKind.i64 (IntKind.wrap IntKind.i64 (y2.2.1 + x0) - x0) ∧ IntKind.wrap IntKind.i64 (IntKind.wrap IntKind.i64 (y2.2.1 + x0) - x0) ≤ (↑(Int.toNat (IntKind.wrap IntKind.i64 (y2.2.1 + x0))) : Int))) (
            some ((ByteArray.extract y2.1 (Int.toNat (IntKind.wrap IntKind.i64 (IntKind.wrap IntKind.i64 (y2.2.1 + x0) - x0))) (Int.toNat (IntKind.wrap IntKind.i64 (y2.2.1 + x0))),y2.1,IntKind.wrap IntKind.i64 (y2.2.1 + x0),y2.2.2))) (
            none )) (
          none ))) (
      ac (x3 != (0 : Int)) (
        some ((ByteArray.mk #[],x1,x2,x3))) (
        ac (decide ((0 : Int) ≤ IntKind.wrap IntKind.i64 (x2 + x0) ∧ IntKind.wrap IntKind.i64 (x2 + x0) ≤ (↑(ByteArray.size x1) : Int))) (
          ac (decide ((0 : Int) ≤ IntKind.wrap IntKind.i64 (IntKind.wrap IntKind.i64 (x2 + x0) - x0) ∧ IntKind.wrap IntKind.i64 (IntKind.wrap IntKind.i64 (x2 + x0) - x0) ≤ (↑(Int.toNat (IntKind.wrap IntKind.i64 (x2 + x0))) : Int))) (
            some ((ByteArray.extract x1 (Int.toNat (IntKind.wrap IntKind.i64 (IntKind.wrap IntKind.i64 (x2 + x0) - x0))) (Int.toNat (IntKind.wrap IntKind.i64 (x2 + x0))),x1,IntKind.wrap IntKind.i64 (x2 + x0),x3))) (
            none )) (
          none ))))
noncomputable def QH (N : Nat) : Pk → Tr Pk := ag s135 w135 (lG N)
theorem qN (N : Nat) : au Tryz.prog (135) (QH N) :=
  (ae af al (Nj N) Tryz.func135 s135 w135 [0] (cuts := []) trivial (fun _ => by kernel_rfl) (by decide +kernel) (lG N) (fun x => by kernel_rfl))
@[reducible] def s231 : SP := ⟨[.slp 0 .h .h],[.row (.int .u8) 5]⟩
noncomputable def Yo (N : Nat) : List (Nat × (Pk → Tr Pk)) := []
theorem wl (N : Nat) : ah Tryz.prog (Yo N) := trivial
@[reducible] def QV : LD := ⟨6,[2,3,0],[(.exit 0,[])],⟨[.int .i64,.int .i64,.slp 0 .h .h],[.row (.int .u8) 5]⟩,[(.exit 0,⟨[],[.row (.int .u8) 5]⟩)]⟩
abbrev GW : Type := Int × Int × Nat × Nat × (List Int)
abbrev GI : Type := (List Int)
noncomputable def pC (N : Nat) (f : GW → Option GI) : GW → Option GI
  | (x0,x1,x2,x3,x4) =>
  ac (decide (x0 < x1)) (
    ac (within x1 x3) (
      Option.bind (x4[x2 + Int.toNat x1]?) fun y0 =>
      ac (within x0 x3) (
        Option.bind (x4[x2 + Int.toNat x0]?) fun y1 =>
        ac (within x0 x3) (
          Option.bind (x4[x2 + Int.toNat x0]?) fun y2 =>
          ac (within x1 x3) (
            Option.bind ((List.set x4 (x2 + Int.toNat x0) y0)[x2 + Int.toNat x1]?) fun y3 =>
            Option.bind (f (IntKind.wrap IntKind.i64 (x0 + (1 : Int)),IntKind.wrap IntKind.i64 (x1 - (1 : Int)),x2,x3,List.set (List.set x4 (x2 + Int.toNat x0) y0) (x2 + Int.toNat x1) y1)) fun r => some r) (
            none )) (
          none )) (
        none )) (
      none )) (
    some (x4))
noncomputable def fp (N : Nat) : Nat → GW → Option GI
  | 0,_ => none
  | k + 1,x => pC N (fp N k) x
noncomputable def Se (N : Nat) (k : Nat) : Cut := QV.cut (fp N k)
theorem Ou (N : Nat) (k : Nat) : aj Tryz.prog false Tryz.f231 [0] 6 (Se N k) :=
  QV.loopT af al (wl N) Tryz.f231 [0] (cuts := []) trivial (by decide +kernel) (by kernel_rfl) (pC N) (fp N) (fun _ => rfl) (fun _ _ => rfl) (fun f x => by kernel_rfl) k
@[reducible] def w231 : List SP := [⟨[.tup []],[.row (.int .u8) 5]⟩]
noncomputable def Br (N : Nat) : (Nat × Nat × (List Int)) → Option ((List Int))
  | (x0,x1,x2) =>
  Option.bind (fp N N ((0 : Int),IntKind.wrap IntKind.i64 ((↑x1 : Int) - (1 : Int)),x0,x1,x2)) fun y0 =>
  some (y0)
noncomputable def ae9 (N : Nat) : Pk → Tr Pk := ag s231 w231 (Br N)
theorem I8 (N : Nat) : au Tryz.prog (231) (ae9 N) :=
  (ae af al (wl N) Tryz.func231 s231 w231 [0] (cuts := [(6,Se N N)]) ⟨Ou N N,trivial⟩ (fun _ => by kernel_rfl) (by decide +kernel) (Br N) (fun x => by kernel_rfl))
@[reducible] def s165 : SP := ⟨[.str],[]⟩
noncomputable def YR (N : Nat) : List (Nat × (Pk → Tr Pk)) := [(231,ae9 N)]
theorem M0 (N : Nat) : ah Tryz.prog (YR N) := ⟨I8 N,trivial⟩
@[reducible] def w165 : List SP := [⟨[.str],[]⟩]
noncomputable def vC (N : Nat) : (ByteArray) → Option (ByteArray)
  | x0 =>
  ac (decide (ByteArray.size x0 ≤ (140737488355328 : Nat))) (
    Option.bind (Br N ((0 : Nat),List.length (bytesOf x0),bytesOf x0)) fun y0 =>
    some (aB y0)) (
    none )
noncomputable def af6 (N : Nat) : Pk → Tr Pk := ag s165 w165 (vC N)
theorem Jf (N : Nat) : au Tryz.prog (165) (af6 N) :=
  (ae af al (M0 N) Tryz.func165 s165 w165 [] (cuts := []) trivial (fun _ => by kernel_rfl) (by decide +kernel) (vC N) (fun x => by kernel_rfl))
@[reducible] def s173 : SP := ⟨[.adr 0 [],.int .i64,.fn 165],[.var 189 (.agg [.str,.int .i64,.int .i64])]⟩
noncomputable def YP (N : Nat) : List (Nat × (Pk → Tr Pk)) := [(230,af0 N),(206,af4 N),(135,QH N),(165,af6 N)]
theorem wv (N : Nat) : ah Tryz.prog (YP N) := ⟨I9 N,Jd N,qN N,Jf N,trivial⟩
@[reducible] def Dy : LD := ⟨122,[7,22,21,20],[(.ret,[6]),(.exit 0,[7])],⟨[.int .i64,.int .i64,.int .i64,.sl 1],[.var 189 (.agg [.str,.int .i64,.int .i64]),.row (.int .u8) 5]⟩,[(.exit 0,⟨[.int .i64],[.var 189 (.agg [.str,.int .i64,.int .i64])]⟩)]⟩
abbrev ut : Type := Int × Int × Int × ByteArray × Int × Int × (List Int)
abbrev tE : Type := Int × ByteArray × Int × Int
noncomputable def gq (N : Nat) (f : ut → Option tE) : ut → Option tE
  | (x0,x1,x2,x3,x4,x5,x6) =>
  ac (decide (x1 < x2)) (
    ac (within x1 (List.length x6)) (
      Option.bind (x6[Int.toNat x1]?) fun y0 =>
      ac (decide (IntKind.wrap IntKind.i64 ((8 : Int) * x1) < (0 : Int))) (
        none ) (
        Option.bind (f (IntKind.wrap IntKind.i64 (↑(BitVec.toNat (BitVec.ofInt (64 : Nat) x0 ||| BitVec.ofInt (64 : Nat) (IntKind.wrap IntKind.i64 (IntKind.wrap IntKind.i64 y0 * (2 : Int) ^ min (Int.toNat (IntKind.wrap IntKind.i64 ((8 : Int) * x1))) (64 : Nat))))) : Int),IntKind.wrap IntKind.i64 (x1 + (1 : Int)),x2,x3,x4,x5,x6)) fun r => some r)) (
      none )) (
    some ((x0,x3,x4,x5)))
noncomputable def cm (N : Nat) : Nat → ut → Option tE
  | 0,_ => none
  | k + 1,x => gq N (cm N k) x
noncomputable def EN (N : Nat) (k : Nat) : Cut := Dy.cut (cm N k)
theorem EM (N : Nat) (k : Nat) : aj Tryz.prog false Tryz.f173 [0] 122 (EN N k) :=
  Dy.loopT af al (wv N) Tryz.f173 [0] (cuts := []) trivial (by decide +kernel) (by kernel_rfl) (gq N) (cm N) (fun _ => rfl) (fun _ _ => rfl) (fun f x => by kernel_rfl) k
@[reducible] def w173 : List SP := [⟨[.int .i64],[.var 189 (.agg [.str,.int .i64,.int .i64])]⟩]
noncomputable def V7 (N : Nat) : (Int × ByteArray × Int × Int) → Option (Int × ByteArray × Int × Int)
  | (x0,x1,x2,x3) =>
  Option.bind (Rs N x0) fun y0 =>
  ac (!y0) (
    Option.bind (Ha N ((1 : Int),x1,x2,x3)) fun y1 =>
    Option.bind (lG N (x0,y1.1,y1.2.1,y1.2.2)) fun y2 =>
    Option.bind (vC N y2.1) fun y3 =>
    ac (decide (ByteArray.size y3 ≤ (140737488355328 : Nat))) (
      Option.bind (cm N N ((0 : Int),(0 : Int),(↑(List.length (bytesOf y3)) : Int),y2.2.1,y2.2.2.1,y2.2.2.2,bytesOf y3)) fun y4 =>
      some ((y4.1,y4.2.1,y4.2.2.1,y4.2.2.2))) (
      none )) (
    Option.bind (lG N (x0,x1,x2,x3)) fun y5 =>
    Option.bind (vC N y5.1) fun y6 =>
    ac (decide (ByteArray.size y6 ≤ (140737488355328 : Nat))) (
      Option.bind (cm N N ((0 : Int),(0 : Int),(↑(List.length (bytesOf y6)) : Int),y5.2.1,y5.2.2.1,y5.2.2.2,bytesOf y6)) fun y7 =>
      some ((y7.1,y7.2.1,y7.2.2.1,y7.2.2.2))) (
      none ))
noncomputable def aE0 (N : Nat) : Pk → Tr Pk := ag s173 w173 (V7 N)
theorem UV (N : Nat) : au Tryz.prog (173) (aE0 N) :=
  (ae af al (wv N) Tryz.func173 s173 w173 [0] (cuts := [(122,EN N N)]) ⟨EM N N,trivial⟩ (fun _ => by kernel_rfl) (by decide +kernel) (V7 N) (fun x => by kernel_rfl))
@[reducible] def s105 : SP := ⟨[.adr 0 [],.int .i64],[.var 189 (.agg [.str,.int .i64,.int .i64])]⟩
noncomputable def Zq (N : Nat) : List (Nat × (Pk → Tr Pk)) := [(173,aE0 N)]
theorem No (N : Nat) : ah Tryz.prog (Zq N) := ⟨UV N,trivial⟩
@[reducible] def w105 : List SP := [⟨[.int .i64],[.var 189 (.agg [.str,.int .i64,.int .i64])]⟩]
noncomputable def uP (N : Nat) : (Int × ByteArray × Int × Int) → Option (Int × ByteArray × Int × Int)
  | (x0,x1,x2,x3) =>
  Option.bind (V7 N (x0,x1,x2,x3)) fun y0 =>
  some ((y0.1,y0.2.1,y0.2.2.1,y0.2.2.2))
noncomputable def NZ (N : Nat) : Pk → Tr Pk := ag s105 w105 (uP N)
theorem mF (N : Nat) : au Tryz.prog (105) (NZ N) :=
  (ae af al (No N) Tryz.func105 s105 w105 [0] (cuts := []) trivial (fun _ => by kernel_rfl) (by decide +kernel) (uP N) (fun x => by kernel_rfl))
@[reducible] def s84 : SP := ⟨[.radr y2 [.i 0 3]],[]⟩
noncomputable def ao9 (N : Nat) : List (Nat × (Pk → Tr Pk)) := []
theorem OY (N : Nat) : ah Tryz.prog (ao9 N) := trivial
@[reducible] def w84 : List SP := [⟨[.int .i64],[]⟩]
noncomputable def Sr (N : Nat) : ((ByteArray × (Int × (Int × Unit)))) → Option (Int)
  | x0 =>
  some x0.2.2.1
noncomputable def T84 (N : Nat) : Pk → Tr Pk := ag s84 w84 (Sr N)
theorem ox (N : Nat) : au Tryz.prog (84) (T84 N) :=
  (ae af al (OY N) Tryz.func84 s84 w84 [] (cuts := []) trivial (fun _ => by kernel_rfl) (by decide +kernel) (Sr N) (fun x => by kernel_rfl))
@[reducible] def s264 : SP := ⟨[.agg [.int .i64,.int .i64,.bool,.bool,.int .i64,.int .i64,.int .i64,.int .i64,.int .i64,.int .i64],.int .i64,.str],[]⟩
noncomputable def Yj (N : Nat) : List (Nat × (Pk → Tr Pk)) := [(39,T39 N)]
theorem wi (N : Nat) : ah Tryz.prog (Yj N) := ⟨oy N,trivial⟩
@[reducible] def Dt : LD := ⟨122,[8,21,20,1,3,2],[(.ret,[6,7]),(.exit 1,[8])],⟨[.int .i64,.int .i64,.int .i64,.int .i64,.adr 0 [],.str],[.var 43 (.agg [.int .i64,.int .i64,.bool,.bool,.int .i64,.int .i64,.int .i64,.int .i64,.int .i64,.int .i64])]⟩,[(.exit 1,⟨[.int .i64],[]⟩)]⟩
abbrev uk : Type := Int × Int × Int × Int × ByteArray × Int × Int × Bool × Bool × Int × Int × Int × Int × Int × Int
abbrev tw : Type := Int
noncomputable def gp (N : Nat) (f : uk → Option tw) : uk → Option tw
  | (x0,x1,x2,x3,x4,x5,x6,x7,x8,x9,x10,x11,x12,x13,x14) =>
  ac (decide (x1 < x2)) (
    ac (x7) (
      ac (decide ((0 : Int) ≤ x1)) (
        Option.bind (x4[Int.toNat x1]?) fun y0 =>
        Option.bind (f (IntKind.wrap IntKind.i64 (↑(BitVec.toNat (BitVec.ofInt (64 : Nat) (IntKind.wrap IntKind.i64 (x0 * (256 : Int))) ||| BitVec.ofInt (64 : Nat) (IntKind.wrap IntKind.i64 (↑(UInt8.toNat y0) : Int)))) : Int),IntKind.wrap IntKind.i64 (x1 + (1 : Int)),x2,x3,x4,x5,x6,x7,x8,x9,x10,x11,x12,x13,x14)) fun r => some r) (
        none )) (
      ac (decide ((0 : Int) ≤ IntKind.wrap IntKind.i64 (IntKind.wrap IntKind.i64 (x3 - (1 : Int)) - x1))) (
        Option.bind (x4[Int.toNat (IntKind.wrap IntKind.i64 (IntKind.wrap IntKind.i64 (x3 - (1 : Int)) - x1))]?) fun y1 =>
        Option.bind (f (IntKind.wrap IntKind.i64 (↑(BitVec.toNat (BitVec.ofInt (64 : Nat) (IntKind.wrap IntKind.i64 (x0 * (256 : Int))) ||| BitVec.ofInt (64 : Nat) (IntKind.wrap IntKind.i64 (↑(UInt8.toNat y1) : Int)))) : Int),IntKind.wrap IntKind.i64 (x1 + (1 : Int)),x2,x3,x4,x5,x6,x7,x8,x9,x10,x11,x12,x13,x14)) fun r => some r) (
        none ))) (
    some (x0))
noncomputable def cN (N : Nat) : Nat → uk → Option tw
  | 0,_ => none
  | k + 1,x => gp N (cN N k) x
noncomputable def EH (N : Nat) (k : Nat) : Cut := Dt.cut (cN N k)
theorem EG (N : Nat) (k : Nat) : aj Tryz.prog false Tryz.f264 [] 122 (EH N k) :=
  Dt.loopT af al (wi N) Tryz.f264 [] (cuts := []) trivial (by decide +kernel) (by kernel_rfl) (gp N) (cN N) (fun _ => rfl) (fun _ _ => rfl) (fun f x => by kernel_rfl) k
@[reducible] def w264 : List SP := [⟨[.tup [.int .i64,.int .i64]],[]⟩]
noncomputable def V1 (N : Nat) : (Int × Int × Bool × Bool × Int × Int × Int × Int × Int × Int × Int × ByteArray) → Option (Int × Int)
  | (x0,x1,x2,x3,x4,x5,x6,x7,x8,x9,x10,x11) =>
  Option.bind (Ss N (x0,x1,x2,x3,x4,x5,x6,x7,x8,x9)) fun y0 =>
  ac (!y0) (
    some (((0 : Int),(130 : Int)))) (
    ac (decide ((↑(ByteArray.size x11) : Int) < x10)) (
      some (((0 : Int),(2 : Int)))) (
      Option.bind (cN N N ((0 : Int),(0 : Int),x10,x10,x11,x0,x1,x2,x3,x4,x5,x6,x7,x8,x9)) fun y1 =>
      some ((y1,(0 : Int)))))
noncomputable def aB9 (N : Nat) : Pk → Tr Pk := ag s264 w264 (V1 N)
theorem Ux (N : Nat) : au Tryz.prog (264) (aB9 N) :=
  (ae af al (wi N) Tryz.func264 s264 w264 [] (cuts := [(122,EH N N)]) ⟨EG N N,trivial⟩ (fun _ => by kernel_rfl) (by decide +kernel) (V1 N) (fun x => by kernel_rfl))
@[reducible] def s210 : SP := ⟨[.agg [.int .i64,.int .i64,.bool,.bool,.int .i64,.int .i64,.int .i64,.int .i64,.int .i64,.int .i64],.str],[]⟩
noncomputable def YH (N : Nat) : List (Nat × (Pk → Tr Pk)) := [(37,T37 N),(264,aB9 N)]
theorem MV (N : Nat) : ah Tryz.prog (YH N) := ⟨zu N,Ux N,trivial⟩
@[reducible] def w210 : List SP := [⟨[.tup [.int .i64,.int .i64]],[]⟩]
noncomputable def Rz (N : Nat) : (Int × Int × Bool × Bool × Int × Int × Int × Int × Int × Int × ByteArray) → Option (Int × Int)
  | (x0,x1,x2,x3,x4,x5,x6,x7,x8,x9,x10) =>
  Option.bind (J8 N (x0,x1,x2,x3,x4,x5,x6,x7,x8,x9)) fun y0 =>
  Option.bind (V1 N (x0,x1,x2,x3,x4,x5,x6,x7,x8,x9,y0.1,x10)) fun y1 =>
  ac (decide (y0.2 < (0 : Int))) (
    none ) (
    some ((IntKind.wrap IntKind.i64 (y1.1 * (2 : Int) ^ min (Int.toNat y0.2) (64 : Nat)),y1.2)))
noncomputable def aD4 (N : Nat) : Pk → Tr Pk := ag s210 w210 (Rz N)
theorem UP (N : Nat) : au Tryz.prog (210) (aD4 N) :=
  (ae af al (MV N) Tryz.func210 s210 w210 [] (cuts := []) trivial (fun _ => by kernel_rfl) (by decide +kernel) (Rz N) (fun x => by kernel_rfl))
@[reducible] def s142 : SP := ⟨[.agg [.adr 0 [],.agg [.int .i64,.int .i64,.bool,.bool,.int .i64,.int .i64,.int .i64,.int .i64,.int .i64,.int .i64],.int .i64]],[.var 189 (.agg [.str,.int .i64,.int .i64])]⟩
noncomputable def Zd (N : Nat) : List (Nat × (Pk → Tr Pk)) := [(135,QH N),(210,aD4 N)]
theorem Nb (N : Nat) : ah Tryz.prog (Zd N) := ⟨qN N,UP N,trivial⟩
@[reducible] def w142 : List SP := [⟨[.int .i64],[.var 189 (.agg [.str,.int .i64,.int .i64])]⟩]
noncomputable def Hf (N : Nat) : (Int × Int × Bool × Bool × Int × Int × Int × Int × Int × Int × Int × ByteArray × Int × Int) → Option (Int × ByteArray × Int × Int)
  | (x0,x1,x2,x3,x4,x5,x6,x7,x8,x9,x10,x11,x12,x13) =>
  Option.bind (lG N (x10,x11,x12,x13)) fun y0 =>
  Option.bind (Rz N (x0,x1,x2,x3,x4,x5,x6,x7,x8,x9,y0.1)) fun y1 =>
  some ((y1.1,y0.2.1,y0.2.2.1,y0.2.2.2))
noncomputable def Vh (N : Nat) : Pk → Tr Pk := ag s142 w142 (Hf N)
theorem zJ (N : Nat) : au Tryz.prog (142) (Vh N) :=
  (ae af al (Nb N) Tryz.func142 s142 w142 [0] (cuts := []) trivial (fun _ => by kernel_rfl) (by decide +kernel) (Hf N) (fun x => by kernel_rfl))
@[reducible] def s141 : SP := ⟨[.agg [.adr 0 [],.agg [.int .i64,.int .i64,.bool,.bool,.int .i64,.int .i64,.int .i64,.int .i64,.int .i64,.int .i64],.int .i64],.int .i64],[.var 189 (.agg [.str,.int .i64,.int .i64])]⟩
noncomputable def Ze (N : Nat) : List (Nat × (Pk → Tr Pk)) := [(142,Vh N)]
theorem wE (N : Nat) : ah Tryz.prog (Ze N) := ⟨zJ N,trivial⟩
@[reducible] def J4 : LD := ⟨58,[5,7,6,2],[(.ret,[4]),(.exit 0,[5])],⟨[.sl 1,.int .i64,.int .i64,.adr 2 []],[.var 189 (.agg [.str,.int .i64,.int .i64]),.row (.int .i64) 3,.var 124 (.agg [.adr 0 [],.agg [.int .i64,.int .i64,.bool,.bool,.int .i64,.int .i64,.int .i64,.int .i64,.int .i64,.int .i64],.int .i64])]⟩,[(.exit 0,⟨[.sl 1],[.var 189 (.agg [.str,.int .i64,.int .i64]),.row (.int .i64) 3]⟩)]⟩
abbrev Bg : Type := Int × Int × ByteArray × Int × Int × (List Int) × Int × Int × Bool × Bool × Int × Int × Int × Int × Int × Int × Int
abbrev AA : Type := ByteArray × Int × Int × (List Int)
noncomputable def kE (N : Nat) (f : Bg → Option AA) : Bg → Option AA
  | (x0,x1,x2,x3,x4,x5,x6,x7,x8,x9,x10,x11,x12,x13,x14,x15,x16) =>
  ac (decide (x0 < x1)) (
    Option.bind (Hf N (x6,x7,x8,x9,x10,x11,x12,x13,x14,x15,x16,x2,x3,x4)) fun y0 =>
    ac (decide ((List.length x5 + List.length [y0.1]) * (8 : Nat) ≤ (140737488355328 : Nat) ∧ List.length x5 + List.length [y0.1] ≤ (140737488355328 : Nat))) (
      Option.bind (f (IntKind.wrap IntKind.i64 (x0 + (1 : Int)),x1,y0.2.1,y0.2.2.1,y0.2.2.2,x5 ++ [y0.1],x6,x7,x8,x9,x10,x11,x12,x13,x14,x15,x16)) fun r => some r) (
      none )) (
    some ((x2,x3,x4,x5)))
noncomputable def dO (N : Nat) : Nat → Bg → Option AA
  | 0,_ => none
  | k + 1,x => kE N (dO N k) x
noncomputable def KV (N : Nat) (k : Nat) : Cut := J4.cut (dO N k)
theorem H2 (N : Nat) (k : Nat) : aj Tryz.prog false Tryz.f141 [0] 58 (KV N k) :=
  J4.loopT af al (wE N) Tryz.f141 [0] (cuts := []) trivial (by decide +kernel) (by kernel_rfl) (kE N) (dO N) (fun _ => rfl) (fun _ _ => rfl) (fun f x => by kernel_rfl) k
@[reducible] def w141 : List SP := [⟨[.sl 1],[.var 189 (.agg [.str,.int .i64,.int .i64]),.row (.int .i64) 3]⟩]
noncomputable def Hg (N : Nat) : (Int × Int × Bool × Bool × Int × Int × Int × Int × Int × Int × Int × Int × ByteArray × Int × Int) → Option (ByteArray × Int × Int × (List Int))
  | (x0,x1,x2,x3,x4,x5,x6,x7,x8,x9,x10,x11,x12,x13,x14) =>
  Option.bind (dO N N ((0 : Int),x11,x12,x13,x14,[],x0,x1,x2,x3,x4,x5,x6,x7,x8,x9,x10)) fun y0 =>
  some ((y0.1,y0.2.1,y0.2.2.1,y0.2.2.2))
noncomputable def Vi (N : Nat) : Pk → Tr Pk := ag s141 w141 (Hg N)
theorem zK (N : Nat) : au Tryz.prog (141) (Vi N) :=
  (ae af al (wE N) Tryz.func141 s141 w141 [0] (cuts := [(58,KV N N)]) ⟨H2 N N,trivial⟩ (fun _ => by kernel_rfl) (by decide +kernel) (Hg N) (fun x => by kernel_rfl))
@[reducible] def s211 : SP := ⟨[.int .i64],[]⟩
noncomputable def YG (N : Nat) : List (Nat × (Pk → Tr Pk)) := []
theorem MU (N : Nat) : ah Tryz.prog (YG N) := trivial
@[reducible] def w211 : List SP := [⟨[.int .i64],[]⟩]
noncomputable def Oe (N : Nat) : (Int) → Option (Int)
  | x0 =>
  ac (decide (x0 ≤ (2 : Int))) (
    some ((1 : Int))) (
    ac (decide (x0 ≤ (4 : Int))) (
      some ((2 : Int))) (
      some ((4 : Int))))
noncomputable def af3 (N : Nat) : Pk → Tr Pk := ag s211 w211 (Oe N)
theorem Jc (N : Nat) : au Tryz.prog (211) (af3 N) :=
  (ae af al (MU N) Tryz.func211 s211 w211 [] (cuts := []) trivial (fun _ => by kernel_rfl) (by decide +kernel) (Oe N) (fun x => by kernel_rfl))
@[reducible] def s143 : SP := ⟨[.agg [.adr 0 [],.agg [.int .i64,.int .i64,.bool,.bool,.int .i64,.int .i64,.int .i64,.int .i64,.int .i64,.int .i64],.int .i64],.int .i64,.int .i64,.int .i64],[.var 189 (.agg [.str,.int .i64,.int .i64])]⟩
noncomputable def Zc (N : Nat) : List (Nat × (Pk → Tr Pk)) := [(141,Vi N),(211,af3 N),(135,QH N),(84,T84 N)]
theorem nQ (N : Nat) : ah Tryz.prog (Zc N) := ⟨zK N,Jc N,qN N,ox N,trivial⟩
@[reducible] def p9 : LD := ⟨128206,[37,2,4,22,23,13,11,1,10,38,12],[(.ret,[8,9]),(.exit 2,[23,12,10,1,11,22,4,2]),(.exit 1,[23,12,10,1,11,22,4,2]),(.exit 0,[12])],⟨[.int .i64,.int .i64,.adr 1 [],.int .i64,.int .i64,.str,.int .i64,.int .i64,.sl 2,.int .i64,.sl 3],[.var 189 (.agg [.str,.int .i64,.int .i64]),.var 124 (.agg [.adr 0 [],.agg [.int .i64,.int .i64,.bool,.bool,.int .i64,.int .i64,.int .i64,.int .i64,.int .i64,.int .i64],.int .i64]),.row (.int .i64) 3,.row (.int .i64) 3]⟩,[(.ret,⟨[.sl 1,.bool],[.var 189 (.agg [.str,.int .i64,.int .i64]),.row (.int .i64) 3]⟩),(.exit 2,⟨[.int .i64,.sl 1,.sl 2,.int .i64,.int .i64,.int .i64,.adr 3 [],.int .i64],[.var 189 (.agg [.str,.int .i64,.int .i64]),.row (.int .i64) 3,.row (.int .i64) 3,.var 124 (.agg [.adr 0 [],.agg [.int .i64,.int .i64,.bool,.bool,.int .i64,.int .i64,.int .i64,.int .i64,.int .i64,.int .i64],.int .i64])]⟩)]⟩
abbrev jf : Type := Int × Int × Int × Int × ByteArray × Int × Int × Int × ByteArray × Int × Int × Int × Int × Bool × Bool × Int × Int × Int × Int × Int × Int × Int × (List Int) × (List Int)
abbrev i6 : Type := ((Bool × ByteArray × Int × Int × (List Int)) ⊕ (Int × Int × Int × Int × Int × ByteArray × Int × Int × (List Int) × (List Int) × Int × Int × Bool × Bool × Int × Int × Int × Int × Int × Int × Int))
noncomputable def cG (N : Nat) (f : jf → Option i6) : jf → Option i6
  | (x0,x1,x2,x3,x4,x5,x6,x7,x8,x9,x10,x11,x12,x13,x14,x15,x16,x17,x18,x19,x20,x21,x22,x23) =>
  ac (decide (x7 < x0)) (
    ac (decide ((0 : Int) ≤ IntKind.wrap IntKind.i64 (Int.tdiv (IntKind.wrap IntKind.i64 (x7 * x5)) (8 : Int)))) (
      Option.bind (x4[Int.toNat (IntKind.wrap IntKind.i64 (Int.tdiv (IntKind.wrap IntKind.i64 (x7 * x5)) (8 : Int)))]?) fun y0 =>
      ac (decide (IntKind.wrap IntKind.i64 (IntKind.wrap IntKind.i64 ((8 : Int) - x5) - Int.tmod (IntKind.wrap IntKind.i64 (x7 * x5)) (8 : Int)) < (0 : Int))) (
        none ) (
        ac (decide (x5 < (0 : Int))) (
          none ) (
          ac (decide (IntKind.wrap IntKind.i64 (↑(BitVec.toNat (BitVec.ofInt (64 : Nat) (Int.fdiv (IntKind.wrap IntKind.i64 (↑(UInt8.toNat y0) : Int)) ((2 : Int) ^ min (Int.toNat (IntKind.wrap IntKind.i64 (IntKind.wrap IntKind.i64 ((8 : Int) - x5) - Int.tmod (IntKind.wrap IntKind.i64 (x7 * x5)) (8 : Int)))) (64 : Nat))) &&& BitVec.ofInt (64 : Nat) (IntKind.wrap IntKind.i64 (IntKind.wrap IntKind.i64 ((1 : Int) * (2 : Int) ^ min (Int.toNat x5) (64 : Nat)) - (1 : Int))))) : Int) ≥ x6)) (
            some (.inl ((false,x8,x9,x10,[])))) (
            ac (within (IntKind.wrap IntKind.i64 (↑(BitVec.toNat (BitVec.ofInt (64 : Nat) (Int.fdiv (IntKind.wrap IntKind.i64 (↑(UInt8.toNat y0) : Int)) ((2 : Int) ^ min (Int.toNat (IntKind.wrap IntKind.i64 (IntKind.wrap IntKind.i64 ((8 : Int) - x5) - Int.tmod (IntKind.wrap IntKind.i64 (x7 * x5)) (8 : Int)))) (64 : Nat))) &&& BitVec.ofInt (64 : Nat) (IntKind.wrap IntKind.i64 (IntKind.wrap IntKind.i64 ((1 : Int) * (2 : Int) ^ min (Int.toNat x5) (64 : Nat)) - (1 : Int))))) : Int)) (List.length x22)) (
              Option.bind (x22[Int.toNat (IntKind.wrap IntKind.i64 (↑(BitVec.toNat (BitVec.ofInt (64 : Nat) (Int.fdiv (IntKind.wrap IntKind.i64 (↑(UInt8.toNat y0) : Int)) ((2 : Int) ^ min (Int.toNat (IntKind.wrap IntKind.i64 (IntKind.wrap IntKind.i64 ((8 : Int) - x5) - Int.tmod (IntKind.wrap IntKind.i64 (x7 * x5)) (8 : Int)))) (64 : Nat))) &&& BitVec.ofInt (64 : Nat) (IntKind.wrap IntKind.i64 (IntKind.wrap IntKind.i64 ((1 : Int) * (2 : Int) ^ min (Int.toNat x5) (64 : Nat)) - (1 : Int))))) : Int))]?) fun y1 =>
              ac (decide ((List.length x23 + List.length [y1]) * (8 : Nat) ≤ (140737488355328 : Nat) ∧ List.length x23 + List.length [y1] ≤ (140737488355328 : Nat))) (
                Option.bind (f (x0,x1,x2,x3,x4,x5,x6,IntKind.wrap IntKind.i64 (x7 + (1 : Int)),x8,x9,x10,x11,x12,x13,x14,x15,x16,x17,x18,x19,x20,x21,x22,x23 ++ [y1])) fun r => match r with | .inl y => some (.inl y) | .inr y => some (.inr y)) (
                none )) (
              none ))))) (
      none )) (
    some (.inr ((x3,x6,x5,x2,x1,x8,x9,x10,x23,x22,x11,x12,x13,x14,x15,x16,x17,x18,x19,x20,x21))))
noncomputable def aT (N : Nat) : Nat → jf → Option i6
  | 0,_ => none
  | k + 1,x => cG N (aT N k) x
noncomputable def jI (N : Nat) (k : Nat) : Cut := p9.cut (aT N k)
theorem jH (N : Nat) (k : Nat) : aj Tryz.prog false Tryz.f143 [0] 128206 (jI N k) :=
  p9.loopT af al (nQ N) Tryz.f143 [0] (cuts := []) trivial (by decide +kernel) (by kernel_rfl) (cG N) (aT N) (fun _ => rfl) (fun _ _ => rfl) (fun f x => by kernel_rfl) k
@[reducible] def DG : LD := ⟨250,[12,10,1,11,23,22,4,2],[(.ret,[8,9]),(.exit 0,[12])],⟨[.sl 1,.sl 2,.int .i64,.int .i64,.int .i64,.int .i64,.adr 3 [],.int .i64],[.var 189 (.agg [.str,.int .i64,.int .i64]),.row (.int .i64) 3,.row (.int .i64) 3,.var 124 (.agg [.adr 0 [],.agg [.int .i64,.int .i64,.bool,.bool,.int .i64,.int .i64,.int .i64,.int .i64,.int .i64,.int .i64],.int .i64])]⟩,[(.ret,⟨[.sl 1,.bool],[.var 189 (.agg [.str,.int .i64,.int .i64]),.row (.int .i64) 3]⟩),(.exit 0,⟨[.sl 1],[.var 189 (.agg [.str,.int .i64,.int .i64]),.row (.int .i64) 3]⟩)]⟩
abbrev uz : Type := Int × Int × Int × Int × Int × ByteArray × Int × Int × (List Int) × (List Int) × Int × Int × Bool × Bool × Int × Int × Int × Int × Int × Int × Int
abbrev tL : Type := ((Bool × ByteArray × Int × Int × (List Int)) ⊕ (ByteArray × Int × Int × (List Int)))
noncomputable def gu (N : Nat) (f : uz → Option tL) : uz → Option tL
  | (x0,x1,x2,x3,x4,x5,x6,x7,x8,x9,x10,x11,x12,x13,x14,x15,x16,x17,x18,x19,x20) =>
  ac (decide (x2 < x3)) (
    Option.bind (lG N (IntKind.wrap IntKind.i64 (Int.tdiv (IntKind.wrap IntKind.i64 (IntKind.wrap IntKind.i64 (x4 * x1) + (7 : Int))) (8 : Int)),x5,x6,x7)) fun y0 =>
    Option.bind (Sr N (y0.2.1,y0.2.2.1,y0.2.2.2,())) fun y1 =>
    ac (y1 != (0 : Int)) (
      some (.inl ((false,y0.2.1,y0.2.2.1,y0.2.2.2,[])))) (
      Option.bind (aT N N (x4,x4,x3,x2,y0.1,x1,x0,(0 : Int),y0.2.1,y0.2.2.1,y0.2.2.2,x10,x11,x12,x13,x14,x15,x16,x17,x18,x19,x20,x9,x8)) fun y2 =>
      match y2 with
      | .inl y3 =>
        some (.inl ((y3.1,y3.2.1,y3.2.2.1,y3.2.2.2.1,y3.2.2.2.2)))
      | .inr (y3_0,y3_1,y3_2,y3_3,y3_4,y3_5,y3_6,y3_7,y3_8,y3_9,y3_10,y3_11,y3_12,y3_13,y3_14,y3_15,y3_16,y3_17,y3_18,y3_19,y3_20) =>
        Option.bind (f (y3_1,y3_2,IntKind.wrap IntKind.i64 (y3_0 + (1 : Int)),y3_3,y3_4,y3_5,y3_6,y3_7,y3_8,y3_9,y3_10,y3_11,y3_12,y3_13,y3_14,y3_15,y3_16,y3_17,y3_18,y3_19,y3_20)) fun r => match r with | .inl y => some (.inl y) | .inr y => some (.inr y))) (
    some (.inr ((x5,x6,x7,x8))))
noncomputable def bM (N : Nat) : Nat → uz → Option tL
  | 0,_ => none
  | k + 1,x => gu N (bM N k) x
noncomputable def EX (N : Nat) (k : Nat) : Cut := DG.cut (bM N k)
theorem EW (N : Nat) (k : Nat) : aj Tryz.prog false Tryz.f143 [0] 250 (EX N k) :=
  DG.loopT af al (nQ N) Tryz.f143 [0] (cuts := [(128206,jI N N)]) ⟨jH N N,trivial⟩ (by decide +kernel) (by kernel_rfl) (gu N) (bM N) (fun _ => rfl) (fun _ _ => rfl) (fun f x => by kernel_rfl) k
@[reducible] def w143 : List SP := [⟨[.tup [.sl 1,.bool]],[.var 189 (.agg [.str,.int .i64,.int .i64]),.row (.int .i64) 3]⟩]
noncomputable def RJ (N : Nat) : (Int × Int × Bool × Bool × Int × Int × Int × Int × Int × Int × Int × Int × Int × Int × ByteArray × Int × Int) → Option (Bool × ByteArray × Int × Int × (List Int))
  | (x0,x1,x2,x3,x4,x5,x6,x7,x8,x9,x10,x11,x12,x13,x14,x15,x16) =>
  Option.bind (Hg N (x0,x1,x2,x3,x4,x5,x6,x7,x8,x9,x10,x11,x14,x15,x16)) fun y0 =>
  Option.bind (Oe N x11) fun y1 =>
  Option.bind (bM N N (x11,y1,(0 : Int),x13,x12,y0.1,y0.2.1,y0.2.2.1,[],y0.2.2.2,x0,x1,x2,x3,x4,x5,x6,x7,x8,x9,x10)) fun y2 =>
  match y2 with
  | .inl y3 =>
    some ((y3.1,y3.2.1,y3.2.2.1,y3.2.2.2.1,y3.2.2.2.2))
  | .inr y3 =>
    some ((true,y3.1,y3.2.1,y3.2.2.1,y3.2.2.2))
noncomputable def aF6 (N : Nat) : Pk → Tr Pk := ag s143 w143 (RJ N)
theorem Vg (N : Nat) : au Tryz.prog (143) (aF6 N) :=
  (ae af al (nQ N) Tryz.func143 s143 w143 [0] (cuts := [(128206,jI N N),(250,EX N N)]) ⟨jH N N,EW N N,trivial⟩ (fun _ => by kernel_rfl) (by decide +kernel) (RJ N) (fun x => by kernel_rfl))
@[reducible] def s265 : SP := ⟨[.agg [.adr 0 [],.agg [.int .i64,.int .i64,.bool,.bool,.int .i64,.int .i64,.int .i64,.int .i64,.int .i64,.int .i64],.int .i64]],[.var 189 (.agg [.str,.int .i64,.int .i64])]⟩
noncomputable def Yi (N : Nat) : List (Nat × (Pk → Tr Pk)) := [(105,NZ N)]
theorem wh (N : Nat) : ah Tryz.prog (Yi N) := ⟨mF N,trivial⟩
@[reducible] def JQ : LD := ⟨58,[4,3,1],[(.ret,[2]),(.exit 0,[3])],⟨[.int .i64,.int .i64,.adr 1 []],[.var 189 (.agg [.str,.int .i64,.int .i64]),.var 124 (.agg [.adr 0 [],.agg [.int .i64,.int .i64,.bool,.bool,.int .i64,.int .i64,.int .i64,.int .i64,.int .i64,.int .i64],.int .i64])]⟩,[(.exit 0,⟨[.int .i64],[.var 189 (.agg [.str,.int .i64,.int .i64])]⟩)]⟩
abbrev A5 : Type := Int × Int × ByteArray × Int × Int × Int × Int × Bool × Bool × Int × Int × Int × Int × Int × Int × Int
abbrev Ap : Type := Int × ByteArray × Int × Int
noncomputable def kA (N : Nat) (f : A5 → Option Ap) : A5 → Option Ap
  | (x0,x1,x2,x3,x4,x5,x6,x7,x8,x9,x10,x11,x12,x13,x14,x15) =>
  ac (x0 == (255 : Int)) (
    Option.bind (uP N ((1 : Int),x2,x3,x4)) fun y0 =>
    Option.bind (f (y0.1,IntKind.wrap IntKind.i64 (x1 + y0.1),y0.2.1,y0.2.2.1,y0.2.2.2,x5,x6,x7,x8,x9,x10,x11,x12,x13,x14,x15)) fun r => some r) (
    some ((x1,x2,x3,x4)))
noncomputable def dn (N : Nat) : Nat → A5 → Option Ap
  | 0,_ => none
  | k + 1,x => kA N (dn N k) x
noncomputable def KH (N : Nat) (k : Nat) : Cut := JQ.cut (dn N k)
theorem HO (N : Nat) (k : Nat) : aj Tryz.prog false Tryz.f265 [0] 58 (KH N k) :=
  JQ.loopT af al (wh N) Tryz.f265 [0] (cuts := []) trivial (by decide +kernel) (by kernel_rfl) (kA N) (dn N) (fun _ => rfl) (fun _ _ => rfl) (fun f x => by kernel_rfl) k
@[reducible] def w265 : List SP := [⟨[.int .i64],[.var 189 (.agg [.str,.int .i64,.int .i64])]⟩]
noncomputable def Oa (N : Nat) : (Int × Int × Bool × Bool × Int × Int × Int × Int × Int × Int × Int × ByteArray × Int × Int) → Option (Int × ByteArray × Int × Int)
  | (x0,x1,x2,x3,x4,x5,x6,x7,x8,x9,x10,x11,x12,x13) =>
  Option.bind (dn N N ((255 : Int),(1 : Int),x11,x12,x13,x0,x1,x2,x3,x4,x5,x6,x7,x8,x9,x10)) fun y0 =>
  some ((y0.1,y0.2.1,y0.2.2.1,y0.2.2.2))
noncomputable def aB8 (N : Nat) : Pk → Tr Pk := ag s265 w265 (Oa N)
theorem Uw (N : Nat) : au Tryz.prog (265) (aB8 N) :=
  (ae af al (wh N) Tryz.func265 s265 w265 [0] (cuts := [(58,KH N N)]) ⟨HO N N,trivial⟩ (fun _ => by kernel_rfl) (by decide +kernel) (Oa N) (fun x => by kernel_rfl))
@[reducible] def s212 : SP := ⟨[.agg [.adr 0 [],.agg [.int .i64,.int .i64,.bool,.bool,.int .i64,.int .i64,.int .i64,.int .i64,.int .i64,.int .i64],.int .i64],.ro (.int .i64)],[.var 189 (.agg [.str,.int .i64,.int .i64])]⟩
noncomputable def YF (N : Nat) : List (Nat × (Pk → Tr Pk)) := [(142,Vh N),(265,aB8 N),(105,NZ N)]
theorem MS (N : Nat) : ah Tryz.prog (YF N) := ⟨zJ N,Uw N,mF N,trivial⟩
@[reducible] def w212 : List SP := [⟨[.tup [.int .i64,.int .i64,.bool]],[.var 189 (.agg [.str,.int .i64,.int .i64])]⟩]
noncomputable def Bv (N : Nat) : (Int × Int × Bool × Bool × Int × Int × Int × Int × Int × Int × Int × (List Int) × ByteArray × Int × Int) → Option (Int × Int × Bool × ByteArray × Int × Int)
  | (x0,x1,x2,x3,x4,x5,x6,x7,x8,x9,x10,x11,x12,x13,x14) =>
  ac ((↑(List.length x11) : Int) == (0 : Int)) (
    Option.bind (Hf N (x0,x1,x2,x3,x4,x5,x6,x7,x8,x9,x10,x12,x13,x14)) fun y0 =>
    Option.bind (Oa N (x0,x1,x2,x3,x4,x5,x6,x7,x8,x9,x10,y0.2.1,y0.2.2.1,y0.2.2.2)) fun y1 =>
    some ((y0.1,y1.1,true,y1.2.1,y1.2.2.1,y1.2.2.2))) (
    Option.bind (uP N ((1 : Int),x12,x13,x14)) fun y2 =>
    ac (decide (IntKind.wrap IntKind.i64 (↑(BitVec.toNat (BitVec.ofInt (64 : Nat) y2.1 &&& BitVec.ofInt (64 : Nat) (127 : Int))) : Int) ≥ (↑(List.length x11) : Int))) (
      some (((0 : Int),(0 : Int),false,y2.2.1,y2.2.2.1,y2.2.2.2))) (
      ac (decide (y2.1 ≥ (128 : Int))) (
        Option.bind (Oa N (x0,x1,x2,x3,x4,x5,x6,x7,x8,x9,x10,y2.2.1,y2.2.2.1,y2.2.2.2)) fun y3 =>
        ac (within (IntKind.wrap IntKind.i64 (↑(BitVec.toNat (BitVec.ofInt (64 : Nat) y2.1 &&& BitVec.ofInt (64 : Nat) (127 : Int))) : Int)) (List.length x11)) (
          Option.bind (x11[Int.toNat (IntKind.wrap IntKind.i64 (↑(BitVec.toNat (BitVec.ofInt (64 : Nat) y2.1 &&& BitVec.ofInt (64 : Nat) (127 : Int))) : Int))]?) fun y4 =>
          some ((y4,y3.1,true,y3.2.1,y3.2.2.1,y3.2.2.2))) (
          none )) (
        ac (within (IntKind.wrap IntKind.i64 (↑(BitVec.toNat (BitVec.ofInt (64 : Nat) y2.1 &&& BitVec.ofInt (64 : Nat) (127 : Int))) : Int)) (List.length x11)) (
          Option.bind (x11[Int.toNat (IntKind.wrap IntKind.i64 (↑(BitVec.toNat (BitVec.ofInt (64 : Nat) y2.1 &&& BitVec.ofInt (64 : Nat) (127 : Int))) : Int))]?) fun y5 =>
          some ((y5,(1 : Int),true,y2.2.1,y2.2.2.1,y2.2.2.2))) (
          none ))))
noncomputable def aD3 (N : Nat) : Pk → Tr Pk := ag s212 w212 (Bv N)
theorem UO (N : Nat) : au Tryz.prog (212) (aD3 N) :=
  (ae af al (MS N) Tryz.func212 s212 w212 [0] (cuts := []) trivial (fun _ => by kernel_rfl) (by decide +kernel) (Bv N) (fun x => by kernel_rfl))
@[reducible] def s144 : SP := ⟨[.agg [.adr 0 [],.agg [.int .i64,.int .i64,.bool,.bool,.int .i64,.int .i64,.int .i64,.int .i64,.int .i64,.int .i64],.int .i64],.int .i64,.int .i64],[.var 189 (.agg [.str,.int .i64,.int .i64])]⟩
noncomputable def Zb (N : Nat) : List (Nat × (Pk → Tr Pk)) := [(141,Vi N),(212,aD3 N),(84,T84 N)]
theorem nP (N : Nat) : ah Tryz.prog (Zb N) := ⟨zK N,UO N,ox N,trivial⟩
@[reducible] def xv : LD := ⟨7726,[9,44,43,2,3,8,10],[(.ret,[6,7]),(.exit 2,[8,3,2,9]),(.exit 1,[8,3,2,9]),(.exit 0,[9])],⟨[.sl 1,.int .i64,.int .i64,.int .i64,.adr 2 [],.sl 3,.int .i64],[.var 189 (.agg [.str,.int .i64,.int .i64]),.row (.int .i64) 3,.var 124 (.agg [.adr 0 [],.agg [.int .i64,.int .i64,.bool,.bool,.int .i64,.int .i64,.int .i64,.int .i64,.int .i64,.int .i64],.int .i64]),.row (.int .i64) 3]⟩,[(.exit 2,⟨[.sl 1,.adr 2 [],.int .i64,.sl 3],[.var 189 (.agg [.str,.int .i64,.int .i64]),.row (.int .i64) 3,.var 124 (.agg [.adr 0 [],.agg [.int .i64,.int .i64,.bool,.bool,.int .i64,.int .i64,.int .i64,.int .i64,.int .i64,.int .i64],.int .i64]),.row (.int .i64) 3]⟩)]⟩
abbrev o9 : Type := Int × Int × Int × Int × ByteArray × Int × Int × (List Int) × Int × Int × Bool × Bool × Int × Int × Int × Int × Int × Int × Int × (List Int)
abbrev oO : Type := Int × ByteArray × Int × Int × (List Int) × Int × Int × Bool × Bool × Int × Int × Int × Int × Int × Int × Int × (List Int)
noncomputable def d0 (N : Nat) (f : o9 → Option oO) : o9 → Option oO
  | (x0,x1,x2,x3,x4,x5,x6,x7,x8,x9,x10,x11,x12,x13,x14,x15,x16,x17,x18,x19) =>
  ac (decide (x0 < x1)) (
    ac (decide ((List.length x7 + List.length [x3]) * (8 : Nat) ≤ (140737488355328 : Nat) ∧ List.length x7 + List.length [x3] ≤ (140737488355328 : Nat))) (
      Option.bind (f (IntKind.wrap IntKind.i64 (x0 + (1 : Int)),x1,x2,x3,x4,x5,x6,x7 ++ [x3],x8,x9,x10,x11,x12,x13,x14,x15,x16,x17,x18,x19)) fun r => some r) (
      none )) (
    some ((x2,x4,x5,x6,x19,x8,x9,x10,x11,x12,x13,x14,x15,x16,x17,x18,x7)))
noncomputable def bN (N : Nat) : Nat → o9 → Option oO
  | 0,_ => none
  | k + 1,x => d0 N (bN N k) x
noncomputable def px (N : Nat) (k : Nat) : Cut := xv.cut (bN N k)
theorem nz (N : Nat) (k : Nat) : aj Tryz.prog false Tryz.f144 [0] 7726 (px N k) :=
  xv.loopT af al (nP N) Tryz.f144 [0] (cuts := []) trivial (by decide +kernel) (by kernel_rfl) (d0 N) (bN N) (fun _ => rfl) (fun _ _ => rfl) (fun f x => by kernel_rfl) k
@[reducible] def J3 : LD := ⟨60,[8,3,2,9],[(.ret,[6,7]),(.exit 0,[9])],⟨[.sl 1,.adr 2 [],.int .i64,.sl 3],[.var 189 (.agg [.str,.int .i64,.int .i64]),.row (.int .i64) 3,.var 124 (.agg [.adr 0 [],.agg [.int .i64,.int .i64,.bool,.bool,.int .i64,.int .i64,.int .i64,.int .i64,.int .i64,.int .i64],.int .i64]),.row (.int .i64) 3]⟩,[(.ret,⟨[.sl 1,.bool],[.var 189 (.agg [.str,.int .i64,.int .i64]),.row (.int .i64) 3]⟩),(.exit 0,⟨[.sl 1],[.var 189 (.agg [.str,.int .i64,.int .i64]),.row (.int .i64) 3]⟩)]⟩
abbrev Bf : Type := Int × ByteArray × Int × Int × (List Int) × Int × Int × Bool × Bool × Int × Int × Int × Int × Int × Int × Int × (List Int)
abbrev Az : Type := ((Bool × ByteArray × Int × Int × (List Int)) ⊕ (ByteArray × Int × Int × (List Int)))
noncomputable def fc (N : Nat) (f : Bf → Option Az) : Bf → Option Az
  | (x0,x1,x2,x3,x4,x5,x6,x7,x8,x9,x10,x11,x12,x13,x14,x15,x16) =>
  ac (decide ((↑(List.length x16) : Int) < x0)) (
    Option.bind (Bv N (x5,x6,x7,x8,x9,x10,x11,x12,x13,x14,x15,x4,x1,x2,x3)) fun (y0_0,y0_1,y0_2,y0_3,y0_4,y0_5) =>
    ac (!y0_2) (
      some (.inl ((false,y0_3,y0_4,y0_5,[])))) (
      Option.bind (Sr N (y0_3,y0_4,y0_5,())) fun y1 =>
      ac (y1 != (0 : Int)) (
        some (.inl ((false,y0_3,y0_4,y0_5,[])))) (
        ac (decide (y0_1 > IntKind.wrap IntKind.i64 (x0 - (↑(List.length x16) : Int)))) (
          some (.inl ((false,y0_3,y0_4,y0_5,[])))) (
          Option.bind (bN N N ((0 : Int),y0_1,x0,y0_0,y0_3,y0_4,y0_5,x16,x5,x6,x7,x8,x9,x10,x11,x12,x13,x14,x15,x4)) fun (y2_0,y2_1,y2_2,y2_3,y2_4,y2_5,y2_6,y2_7,y2_8,y2_9,y2_10,y2_11,y2_12,y2_13,y2_14,y2_15,y2_16) =>
          Option.bind (f (y2_0,y2_1,y2_2,y2_3,y2_4,y2_5,y2_6,y2_7,y2_8,y2_9,y2_10,y2_11,y2_12,y2_13,y2_14,y2_15,y2_16)) fun r => match r with | .inl y => some (.inl y) | .inr y => some (.inr y))))) (
    some (.inr ((x1,x2,x3,x16))))
noncomputable def ca (N : Nat) : Nat → Bf → Option Az
  | 0,_ => none
  | k + 1,x => fc N (ca N k) x
noncomputable def KU (N : Nat) (k : Nat) : Cut := J3.cut (ca N k)
theorem H1 (N : Nat) (k : Nat) : aj Tryz.prog false Tryz.f144 [0] 60 (KU N k) :=
  J3.loopT af al (nP N) Tryz.f144 [0] (cuts := [(7726,px N N)]) ⟨nz N N,trivial⟩ (by decide +kernel) (by kernel_rfl) (fc N) (ca N) (fun _ => rfl) (fun _ _ => rfl) (fun f x => by kernel_rfl) k
@[reducible] def w144 : List SP := [⟨[.tup [.sl 1,.bool]],[.var 189 (.agg [.str,.int .i64,.int .i64]),.row (.int .i64) 3]⟩]
noncomputable def D6 (N : Nat) : (Int × Int × Bool × Bool × Int × Int × Int × Int × Int × Int × Int × Int × Int × ByteArray × Int × Int) → Option (Bool × ByteArray × Int × Int × (List Int))
  | (x0,x1,x2,x3,x4,x5,x6,x7,x8,x9,x10,x11,x12,x13,x14,x15) =>
  Option.bind (Hg N (x0,x1,x2,x3,x4,x5,x6,x7,x8,x9,x10,x11,x13,x14,x15)) fun y0 =>
  Option.bind (ca N N (x12,y0.1,y0.2.1,y0.2.2.1,y0.2.2.2,x0,x1,x2,x3,x4,x5,x6,x7,x8,x9,x10,[])) fun y1 =>
  match y1 with
  | .inl y2 =>
    some ((y2.1,y2.2.1,y2.2.2.1,y2.2.2.2.1,y2.2.2.2.2))
  | .inr y2 =>
    some ((true,y2.1,y2.2.1,y2.2.2.1,y2.2.2.2))
noncomputable def aF5 (N : Nat) : Pk → Tr Pk := ag s144 w144 (D6 N)
theorem Vf (N : Nat) : au Tryz.prog (144) (aF5 N) :=
  (ae af al (nP N) Tryz.func144 s144 w144 [0] (cuts := [(7726,px N N),(60,KU N N)]) ⟨nz N N,H1 N N,trivial⟩ (fun _ => by kernel_rfl) (by decide +kernel) (D6 N) (fun x => by kernel_rfl))
@[reducible] def s83 : SP := ⟨[.agg [.adr 0 [],.agg [.int .i64,.int .i64,.bool,.bool,.int .i64,.int .i64,.int .i64,.int .i64,.int .i64,.int .i64],.int .i64],.int .i64,.int .i64],[.var 189 (.agg [.str,.int .i64,.int .i64])]⟩
noncomputable def ap0 (N : Nat) : List (Nat × (Pk → Tr Pk)) := [(105,NZ N),(84,T84 N),(141,Vi N),(142,Vh N),(143,aF6 N),(144,aF5 N)]
theorem BX (N : Nat) : ah Tryz.prog (ap0 N) := ⟨mF N,ox N,zK N,zJ N,Vg N,Vf N,trivial⟩
@[reducible] def xd : LD := ⟨59354,[39,38,10,9],[(.ret,[6,7]),(.exit 1,[10])],⟨[.int .i64,.int .i64,.sl 1,.int .i64],[.var 189 (.agg [.str,.int .i64,.int .i64]),.row (.int .i64) 3]⟩,[(.exit 1,⟨[.sl 1],[.var 189 (.agg [.str,.int .i64,.int .i64]),.row (.int .i64) 3]⟩)]⟩
abbrev oR : Type := Int × Int × Int × ByteArray × Int × Int × (List Int)
abbrev oA : Type := ByteArray × Int × Int × (List Int)
noncomputable def dZ (N : Nat) (f : oR → Option oA) : oR → Option oA
  | (x0,x1,x2,x3,x4,x5,x6) =>
  ac (decide (x0 < x1)) (
    ac (within x0 (List.length x6)) (
      Option.bind (x6[Int.toNat x0]?) fun y0 =>
      Option.bind (f (IntKind.wrap IntKind.i64 (x0 + (1 : Int)),x1,x2,x3,x4,x5,List.set x6 (Int.toNat x0) x2)) fun r => some r) (
      none )) (
    some ((x3,x4,x5,x6)))
noncomputable def cE (N : Nat) : Nat → oR → Option oA
  | 0,_ => none
  | k + 1,x => dZ N (cE N k) x
noncomputable def xS (N : Nat) (k : Nat) : Cut := xd.cut (cE N k)
theorem BA (N : Nat) (k : Nat) : aj Tryz.prog false Tryz.f83 [0] 59354 (xS N k) :=
  xd.loopT af al (BX N) Tryz.f83 [0] (cuts := []) trivial (by decide +kernel) (by kernel_rfl) (dZ N) (cE N) (fun _ => rfl) (fun _ _ => rfl) (fun f x => by kernel_rfl) k
@[reducible] def w83 : List SP := [⟨[.tup [.sl 1,.bool]],[.var 189 (.agg [.str,.int .i64,.int .i64]),.row (.int .i64) 3]⟩]
noncomputable def F83 (N : Nat) : (Int × Int × Bool × Bool × Int × Int × Int × Int × Int × Int × Int × Int × Int × ByteArray × Int × Int) → Option (Bool × ByteArray × Int × Int × (List Int))
  | (x0,x1,x2,x3,x4,x5,x6,x7,x8,x9,x10,x11,x12,x13,x14,x15) =>
  Option.bind (uP N ((1 : Int),x13,x14,x15)) fun y0 =>
  Option.bind (Sr N (y0.2.1,y0.2.2.1,y0.2.2.2,())) fun y1 =>
  ac (y1 != (0 : Int)) (
    some ((false,y0.2.1,y0.2.2.1,y0.2.2.2,[]))) (
    ac (y0.1 == (0 : Int)) (
      Option.bind (Hg N (x0,x1,x2,x3,x4,x5,x6,x7,x8,x9,x10,IntKind.wrap IntKind.i64 (x11 * x12),y0.2.1,y0.2.2.1,y0.2.2.2)) fun y2 =>
      some ((true,y2.1,y2.2.1,y2.2.2.1,y2.2.2.2))) (
      ac (y0.1 == (1 : Int)) (
        Option.bind (Hf N (x0,x1,x2,x3,x4,x5,x6,x7,x8,x9,x10,y0.2.1,y0.2.2.1,y0.2.2.2)) fun y3 =>
        ac (decide ((0 : Int) ≤ IntKind.wrap IntKind.i64 (x11 * x12) ∧ IntKind.wrap IntKind.i64 (x11 * x12) ≤ IntKind.wrap IntKind.i64 (x11 * x12) ∧ IntKind.wrap IntKind.i64 (x11 * x12) * (8 : Int) ≤ (140737488355328 : Int) ∧ IntKind.wrap IntKind.i64 (x11 * x12) ≤ (140737488355328 : Int))) (
          Option.bind (cE N N ((0 : Int),(↑(List.length (List.replicate (Int.toNat (IntKind.wrap IntKind.i64 (x11 * x12))) (0 : Int))) : Int),y3.1,y3.2.1,y3.2.2.1,y3.2.2.2,List.replicate (Int.toNat (IntKind.wrap IntKind.i64 (x11 * x12))) (0 : Int))) fun y4 =>
          some ((true,y4.1,y4.2.1,y4.2.2.1,y4.2.2.2))) (
          none )) (
        ac (decide (y0.1 ≤ (16 : Int))) (
          Option.bind (RJ N (x0,x1,x2,x3,x4,x5,x6,x7,x8,x9,x10,y0.1,x11,x12,y0.2.1,y0.2.2.1,y0.2.2.2)) fun y5 =>
          some ((y5.1,y5.2.1,y5.2.2.1,y5.2.2.2.1,y5.2.2.2.2))) (
          ac (y0.1 == (128 : Int)) (
            Option.bind (D6 N (x0,x1,x2,x3,x4,x5,x6,x7,x8,x9,x10,IntKind.wrap IntKind.i64 (y0.1 - (128 : Int)),IntKind.wrap IntKind.i64 (x11 * x12),y0.2.1,y0.2.2.1,y0.2.2.2)) fun y6 =>
            some ((y6.1,y6.2.1,y6.2.2.1,y6.2.2.2.1,y6.2.2.2.2))) (
            ac (decide (y0.1 ≥ (130 : Int))) (
              Option.bind (D6 N (x0,x1,x2,x3,x4,x5,x6,x7,x8,x9,x10,IntKind.wrap IntKind.i64 (y0.1 - (128 : Int)),IntKind.wrap IntKind.i64 (x11 * x12),y0.2.1,y0.2.2.1,y0.2.2.2)) fun y7 =>
              some ((y7.1,y7.2.1,y7.2.2.1,y7.2.2.2.1,y7.2.2.2.2))) (
              some ((false,y0.2.1,y0.2.2.1,y0.2.2.2,[]))))))))
noncomputable def T83 (N : Nat) : Pk → Tr Pk := ag s83 w83 (F83 N)
theorem ab4 (N : Nat) : au Tryz.prog (83) (T83 N) :=
  (ae af al (BX N) Tryz.func83 s83 w83 [0] (cuts := [(59354,xS N N)]) ⟨BA N N,trivial⟩ (fun _ => by kernel_rfl) (by decide +kernel) (F83 N) (fun x => by kernel_rfl))
@[reducible] def s85 : SP := ⟨[.agg [.int .i64,.int .i64,.bool,.bool,.int .i64,.int .i64,.int .i64,.int .i64,.int .i64,.int .i64],.int .i64],[]⟩
noncomputable def ao8 (N : Nat) : List (Nat × (Pk → Tr Pk)) := [(39,T39 N),(95,T95 N)]
theorem BW (N : Nat) : ah Tryz.prog (ao8 N) := ⟨oy N,zt N,trivial⟩
@[reducible] def Ji : LD := ⟨122,[5,14,13,1],[(.ret,[4]),(.exit 0,[5])],⟨[.int .i64,.int .i64,.arr y0 3,.int .i64],[]⟩,[(.exit 0,⟨[.int .i64],[]⟩)]⟩
abbrev AC : Type := Int × Int × (List (Int × (Int × Unit))) × Int
abbrev zL : Type := Int
noncomputable def kv (N : Nat) (f : AC → Option zL) : AC → Option zL
  | (x0,x1,x2,x3) =>
  ac (decide (x1 < (3 : Int))) (
    ac (within x1 (List.length x2)) (
      Option.bind (x2[Int.toNat x1]?) fun y0 =>
      ac (decide (y0.2.1 < (0 : Int))) (
        none ) (
        ac (decide (y0.1 = (0 : Int))) (
          none ) (
          Option.bind (f (IntKind.wrap IntKind.i64 (↑(BitVec.toNat (BitVec.ofInt (64 : Nat) (IntKind.wrap IntKind.i64 (x0 * (256 : Int))) ||| BitVec.ofInt (64 : Nat) (IntKind.wrap IntKind.i64 (Int.tdiv (IntKind.wrap IntKind.i64 (IntKind.wrap IntKind.i64 (IntKind.wrap IntKind.i64 (↑(BitVec.toNat (BitVec.ofInt (64 : Nat) (Int.fdiv x3 ((2 : Int) ^ min (Int.toNat y0.2.1) (64 : Nat))) &&& BitVec.ofInt (64 : Nat) y0.1)) : Int) * (255 : Int)) + IntKind.wrap IntKind.i64 (Int.tdiv y0.1 (2 : Int)))) y0.1)))) : Int),IntKind.wrap IntKind.i64 (x1 + (1 : Int)),x2,x3)) fun r => some r))) (
      none )) (
    some (x0))
noncomputable def cn (N : Nat) : Nat → AC → Option zL
  | 0,_ => none
  | k + 1,x => kv N (cn N k) x
noncomputable def Ke (N : Nat) (k : Nat) : Cut := Ji.cut (cn N k)
theorem Hj (N : Nat) (k : Nat) : aj Tryz.prog false Tryz.f85 [] 122 (Ke N k) :=
  Ji.loopT af al (BW N) Tryz.f85 [] (cuts := []) trivial (by decide +kernel) (by kernel_rfl) (kv N) (cn N) (fun _ => rfl) (fun _ _ => rfl) (fun f x => by kernel_rfl) k
@[reducible] def w85 : List SP := [⟨[.int .i64],[]⟩]
noncomputable def F85 (N : Nat) : (Int × Int × Bool × Bool × Int × Int × Int × Int × Int × Int × Int) → Option (Int)
  | (x0,x1,x2,x3,x4,x5,x6,x7,x8,x9,x10) =>
  Option.bind (Ss N (x0,x1,x2,x3,x4,x5,x6,x7,x8,x9)) fun y0 =>
  ac (!y0) (
    some ((0 : Int))) (
    Option.bind (Vu N (x0,x1,x2,x3,x4,x5,x6,x7,x8,x9)) fun y1 =>
    Option.bind (cn N N ((0 : Int),(0 : Int),y1,x10)) fun y2 =>
    some (y2))
noncomputable def T85 (N : Nat) : Pk → Tr Pk := ag s85 w85 (F85 N)
theorem ab2 (N : Nat) : au Tryz.prog (85) (T85 N) :=
  (ae af al (BW N) Tryz.func85 s85 w85 [] (cuts := [(122,Ke N N)]) ⟨Hj N N,trivial⟩ (fun _ => by kernel_rfl) (by decide +kernel) (F85 N) (fun x => by kernel_rfl))
@[reducible] def s29 : SP := ⟨[.agg [.int .i64,.int .i64,.bool,.bool,.int .i64,.int .i64,.int .i64,.int .i64,.int .i64,.int .i64],.int .i64,.int .i64,.str],[]⟩
noncomputable def aq9 (N : Nat) : List (Nat × (Pk → Tr Pk)) := [(35,T35 N),(37,T37 N),(81,T81 N),(82,T82 N),(83,T83 N),(84,T84 N),(85,T85 N),(86,T86 N)]
theorem rJ (N : Nat) : ah Tryz.prog (aq9 N) := ⟨zx N,zu N,Gw N,Gv N,ab4 N,ox N,ab2 N,Qu N,trivial⟩
@[reducible] def uE : LD := ⟨518558,[66,65,12,41,42,43,64,13,1,15,4],[(.ret,[8,9]),(.exit 2,[43,4,1,13,42,41,12]),(.exit 1,[43,4,1,13,42,41,12]),(.exit 0,[12,13])],⟨[.int .i64,.int .i64,.adr 0 [],.sl 1,.int .i64,.int .i64,.sl 2,.sl 3,.int .i64,.adr 4 [],.adr 5 []],[.var 124 (.agg [.adr 6 [],.agg [.int .i64,.int .i64,.bool,.bool,.int .i64,.int .i64,.int .i64,.int .i64,.int .i64,.int .i64],.int .i64]),.row y1 126,.row (.int .i64) 3,.row (.int .i64) 3,.var 126 (.agg [.int .i64,.int .i64,.int .i64,.int .i64]),.var 43 (.agg [.int .i64,.int .i64,.bool,.bool,.int .i64,.int .i64,.int .i64,.int .i64,.int .i64,.int .i64]),.var 189 (.agg [.str,.int .i64,.int .i64])]⟩,[(.exit 2,⟨[.int .i64,.adr 0 [],.int .i64,.sl 1,.int .i64,.sl 2,.adr 3 []],[.var 43 (.agg [.int .i64,.int .i64,.bool,.bool,.int .i64,.int .i64,.int .i64,.int .i64,.int .i64,.int .i64]),.row (.int .i64) 3,.row y1 126,.var 124 (.agg [.adr 4 [],.agg [.int .i64,.int .i64,.bool,.bool,.int .i64,.int .i64,.int .i64,.int .i64,.int .i64,.int .i64],.int .i64]),.var 189 (.agg [.str,.int .i64,.int .i64])]⟩)]⟩
abbrev lB : Type := Int × Int × Int × Int × Int × Int × Int × Bool × Bool × Int × Int × Int × Int × Int × Int × Int × (List (Int × (Int × (Int × (Int × Unit))))) × (List Int) × (List Int) × Int × Int × Int × Int × Int × Int × Bool × Bool × Int × Int × Int × Int × Int × Int × ByteArray × Int × Int
abbrev lq : Type := Int × Int × Int × Int × Int × Bool × Bool × Int × Int × Int × Int × Int × Int × (List Int) × (List (Int × (Int × (Int × (Int × Unit))))) × Int × Int × Bool × Bool × Int × Int × Int × Int × Int × Int × Int × ByteArray × Int × Int
noncomputable def dj (N : Nat) (f : lB → Option lq) : lB → Option lq
  | (x0,x1,x2,x3,x4,x5,x6,x7,x8,x9,x10,x11,x12,x13,x14,x15,x16,x17,x18,x19,x20,x21,x22,x23,x24,x25,x26,x27,x28,x29,x30,x31,x32,x33,x34,x35) =>
  ac (decide (x0 < x1)) (
    ac (within x0 (List.length x17)) (
      Option.bind (x17[Int.toNat x0]?) fun y0 =>
      ac (decide (x21 = (0 : Int))) (
        none ) (
        ac (decide (x21 = (0 : Int))) (
          none ) (
          Option.bind (F85 N (x23,x24,x25,x26,x27,x28,x29,x30,x31,x32,y0)) fun y1 =>
          ac (within (IntKind.wrap IntKind.i64 (IntKind.wrap IntKind.i64 (IntKind.wrap IntKind.i64 (IntKind.wrap IntKind.i64 (x20 + IntKind.wrap IntKind.i64 (Int.tdiv x0 x21)) * x4) + x19) + Int.tmod x0 x21)) (List.length x18)) (
            Option.bind (x18[Int.toNat (IntKind.wrap IntKind.i64 (IntKind.wrap IntKind.i64 (IntKind.wrap IntKind.i64 (IntKind.wrap IntKind.i64 (x20 + IntKind.wrap IntKind.i64 (Int.tdiv x0 x21)) * x4) + x19) + Int.tmod x0 x21))]?) fun y2 =>
            Option.bind (f (IntKind.wrap IntKind.i64 (x0 + (1 : Int)),x1,x2,x3,x4,x5,x6,x7,x8,x9,x10,x11,x12,x13,x14,x15,x16,x17,List.set x18 (Int.toNat (IntKind.wrap IntKind.i64 (IntKind.wrap IntKind.i64 (IntKind.wrap IntKind.i64 (IntKind.wrap IntKind.i64 (x20 + IntKind.wrap IntKind.i64 (Int.tdiv x0 x21)) * x4) + x19) + Int.tmod x0 x21))) y1,x19,x20,x21,x22,x23,x24,x25,x26,x27,x28,x29,x30,x31,x32,x33,x34,x35)) fun r => some r) (
            none )))) (
      none )) (
    some ((x3,x4,x2,x23,x24,x25,x26,x27,x28,x29,x30,x31,x32,x18,x16,x5,x6,x7,x8,x9,x10,x11,x12,x13,x14,x15,x33,x34,x35)))
noncomputable def bw (N : Nat) : Nat → lB → Option lq
  | 0,_ => none
  | k + 1,x => dj N (bw N k) x
noncomputable def lL (N : Nat) (k : Nat) : Cut := uE.cut (bw N k)
theorem kN (N : Nat) (k : Nat) : aj Tryz.prog false Tryz.f29 [] 518558 (lL N k) :=
  uE.loopT af al (rJ N) Tryz.f29 [] (cuts := []) trivial (by decide +kernel) (by kernel_rfl) (dj N) (bw N) (fun _ => rfl) (fun _ _ => rfl) (fun f x => by kernel_rfl) k
@[reducible] def JL : LD := ⟨506,[4,1,13,43,42,41,12],[(.ret,[8,9]),(.exit 0,[12,13])],⟨[.adr 0 [],.int .i64,.sl 1,.int .i64,.int .i64,.sl 2,.adr 3 []],[.var 43 (.agg [.int .i64,.int .i64,.bool,.bool,.int .i64,.int .i64,.int .i64,.int .i64,.int .i64,.int .i64]),.row (.int .i64) 3,.row y1 126,.var 124 (.agg [.adr 4 [],.agg [.int .i64,.int .i64,.bool,.bool,.int .i64,.int .i64,.int .i64,.int .i64,.int .i64,.int .i64],.int .i64]),.var 189 (.agg [.str,.int .i64,.int .i64])]⟩,[(.ret,⟨[.sl 0,.int .i64],[.row (.int .i64) 3]⟩),(.exit 0,⟨[.adr 0 [],.sl 1],[.var 124 (.agg [.adr 2 [],.agg [.int .i64,.int .i64,.bool,.bool,.int .i64,.int .i64,.int .i64,.int .i64,.int .i64,.int .i64],.int .i64]),.row (.int .i64) 3,.var 189 (.agg [.str,.int .i64,.int .i64])]⟩)]⟩
abbrev A2 : Type := Int × Int × Int × Int × Int × Bool × Bool × Int × Int × Int × Int × Int × Int × (List Int) × (List (Int × (Int × (Int × (Int × Unit))))) × Int × Int × Bool × Bool × Int × Int × Int × Int × Int × Int × Int × ByteArray × Int × Int
abbrev Al : Type := ((Int × (List Int)) ⊕ (Int × Int × Bool × Bool × Int × Int × Int × Int × Int × Int × Int × (List Int) × ByteArray × Int × Int))
noncomputable def ii (N : Nat) (f : A2 → Option Al) : A2 → Option Al
  | (x0,x1,x2,x3,x4,x5,x6,x7,x8,x9,x10,x11,x12,x13,x14,x15,x16,x17,x18,x19,x20,x21,x22,x23,x24,x25,x26,x27,x28) =>
  ac (decide (x1 < x2)) (
    ac (within x1 (List.length x14)) (
      Option.bind (x14[Int.toNat x1]?) fun y0 =>
      Option.bind (F83 N (x15,x16,x17,x18,x19,x20,x21,x22,x23,x24,x25,y0.2.2.1,y0.2.2.2.1,x26,x27,x28)) fun y1 =>
      ac (!y1.1) (
        some (.inl (((180 : Int),[])))) (
        Option.bind (Sr N (y1.2.1,y1.2.2.1,y1.2.2.2.1,())) fun y2 =>
        ac (y2 != (0 : Int)) (
          some (.inl (((180 : Int),[])))) (
          Option.bind (bw N N ((0 : Int),(↑(List.length y1.2.2.2.2) : Int),x2,x1,x0,x15,x16,x17,x18,x19,x20,x21,x22,x23,x24,x25,x14,y1.2.2.2.2,x13,y0.1,y0.2.1,y0.2.2.1,y0.2.2.2.1,x3,x4,x5,x6,x7,x8,x9,x10,x11,x12,y1.2.1,y1.2.2.1,y1.2.2.2.1)) fun (y3_0,y3_1,y3_2,y3_3,y3_4,y3_5,y3_6,y3_7,y3_8,y3_9,y3_10,y3_11,y3_12,y3_13,y3_14,y3_15,y3_16,y3_17,y3_18,y3_19,y3_20,y3_21,y3_22,y3_23,y3_24,y3_25,y3_26,y3_27,y3_28) =>
          Option.bind (f (y3_1,IntKind.wrap IntKind.i64 (y3_0 + (1 : Int)),y3_2,y3_3,y3_4,y3_5,y3_6,y3_7,y3_8,y3_9,y3_10,y3_11,y3_12,y3_13,y3_14,y3_15,y3_16,y3_17,y3_18,y3_19,y3_20,y3_21,y3_22,y3_23,y3_24,y3_25,y3_26,y3_27,y3_28)) fun r => match r with | .inl y => some (.inl y) | .inr y => some (.inr y)))) (
      none )) (
    some (.inr ((x15,x16,x17,x18,x19,x20,x21,x22,x23,x24,x25,x13,x26,x27,x28))))
noncomputable def bS (N : Nat) : Nat → A2 → Option Al
  | 0,_ => none
  | k + 1,x => ii N (bS N k) x
noncomputable def KD (N : Nat) (k : Nat) : Cut := JL.cut (bS N k)
theorem HJ (N : Nat) (k : Nat) : aj Tryz.prog false Tryz.f29 [] 506 (KD N k) :=
  JL.loopT af al (rJ N) Tryz.f29 [] (cuts := [(518558,lL N N)]) ⟨kN N N,trivial⟩ (by decide +kernel) (by kernel_rfl) (ii N) (bS N) (fun _ => rfl) (fun _ _ => rfl) (fun f x => by kernel_rfl) k
@[reducible] def w29 : List SP := [⟨[.tup [.sl 0,.int .i64]],[.row (.int .i64) 3]⟩]
noncomputable def Oy (N : Nat) : (Int × Int × Bool × Bool × Int × Int × Int × Int × Int × Int × Int × Int × ByteArray) → Option (Int × (List Int))
  | (x0,x1,x2,x3,x4,x5,x6,x7,x8,x9,x10,x11,x12) =>
  Option.bind (WM N (x0,x1,x2,x3,x4,x5,x6,x7,x8,x9,x10,x11)) fun y0 =>
  ac (!y0) (
    some (((1 : Int),[]))) (
    Option.bind (J8 N (x0,x1,x2,x3,x4,x5,x6,x7,x8,x9)) fun y1 =>
    Option.bind (F81 N x12) fun y2 =>
    ac (decide ((0 : Int) ≤ IntKind.wrap IntKind.i64 (x10 * x11) ∧ IntKind.wrap IntKind.i64 (x10 * x11) ≤ IntKind.wrap IntKind.i64 (x10 * x11) ∧ IntKind.wrap IntKind.i64 (x10 * x11) * (8 : Int) ≤ (140737488355328 : Int) ∧ IntKind.wrap IntKind.i64 (x10 * x11) ≤ (140737488355328 : Int))) (
      Option.bind (F82 N (x10,x11,(64 : Int))) fun y3 =>
      Option.bind (bS N N (x10,(0 : Int),(↑(List.length y3) : Int),x0,x1,x2,x3,x4,x5,x6,x7,x8,x9,List.replicate (Int.toNat (IntKind.wrap IntKind.i64 (x10 * x11))) (0 : Int),y3,x0,x1,x2,x3,x4,x5,x6,x7,x8,x9,y1.1,y2.1,y2.2.1,y2.2.2)) fun y4 =>
      match y4 with
      | .inl y5 =>
        some ((y5.1,y5.2))
      | .inr (y5_0,y5_1,y5_2,y5_3,y5_4,y5_5,y5_6,y5_7,y5_8,y5_9,y5_10,y5_11,y5_12,y5_13,y5_14) =>
        Option.bind (F86 N (y5_12,y5_13,y5_14,())) fun y6 =>
        ac (decide (y6 > (0 : Int))) (
          some (((3 : Int),[]))) (
          some (((0 : Int),y5_11)))) (
      none ))
noncomputable def T29 (N : Nat) : Pk → Tr Pk := ag s29 w29 (Oy N)
theorem Gx (N : Nat) : au Tryz.prog (29) (T29 N) :=
  (ae af al (rJ N) Tryz.func29 s29 w29 [] (cuts := [(518558,lL N N),(506,KD N N)]) ⟨kN N N,HJ N N,trivial⟩ (fun _ => by kernel_rfl) (by decide +kernel) (Oy N) (fun x => by kernel_rfl))
@[reducible] def s31 : SP := ⟨[.ro (.int .i64),.ro (.int .i64)],[]⟩
noncomputable def aq7 (N : Nat) : List (Nat × (Pk → Tr Pk)) := []
theorem Cc (N : Nat) : ah Tryz.prog (aq7 N) := trivial
@[reducible] def QU : LD := ⟨58,[0,1,5],[(.ret,[4]),(.exit 0,[])],⟨[.ro (.int .i64),.ro (.int .i64),.int .i64],[]⟩,[(.ret,⟨[.bool],[]⟩),(.exit 0,⟨[],[]⟩)]⟩
abbrev GV : Type := (List Int) × (List Int) × Int
abbrev GH : Type := ((Bool) ⊕ (Unit))
noncomputable def pB (N : Nat) (f : GV → Option GH) : GV → Option GH
  | (x0,x1,x2) =>
  ac (decide (x2 < (↑(List.length x0) : Int))) (
    ac (within x2 (List.length x0)) (
      Option.bind (x0[Int.toNat x2]?) fun y0 =>
      ac (within x2 (List.length x1)) (
        Option.bind (x1[Int.toNat x2]?) fun y1 =>
        ac (y0 != y1) (
          some (.inl (false))) (
          Option.bind (f (x0,x1,IntKind.wrap IntKind.i64 (x2 + (1 : Int)))) fun r => match r with | .inl y => some (.inl y) | .inr y => some (.inr y))) (
        none )) (
      none )) (
    some (.inr (())))
noncomputable def jo (N : Nat) : Nat → GV → Option GH
  | 0,_ => none
  | k + 1,x => pB N (jo N k) x
noncomputable def Sd (N : Nat) (k : Nat) : Cut := QU.cut (jo N k)
theorem Ot (N : Nat) (k : Nat) : aj Tryz.prog false Tryz.f31 [] 58 (Sd N k) :=
  QU.loopT af al (Cc N) Tryz.f31 [] (cuts := []) trivial (by decide +kernel) (by kernel_rfl) (pB N) (jo N) (fun _ => rfl) (fun _ _ => rfl) (fun f x => by kernel_rfl) k
@[reducible] def w31 : List SP := [⟨[.bool],[]⟩]
noncomputable def Rn (N : Nat) : ((List Int) × (List Int)) → Option (Bool)
  | (x0,x1) =>
  ac ((↑(List.length x0) : Int) != (↑(List.length x1) : Int)) (
    some (false)) (
    Option.bind (jo N N (x0,x1,(0 : Int))) fun y0 =>
    match y0 with
    | .inl y1 =>
      some (y1)
    | .inr y1 =>
      some (true))
noncomputable def T31 (N : Nat) : Pk → Tr Pk := ag s31 w31 (Rn N)
theorem QD (N : Nat) : au Tryz.prog (31) (T31 N) :=
  (ae af al (Cc N) Tryz.func31 s31 w31 [] (cuts := [(58,Sd N N)]) ⟨Ot N N,trivial⟩ (fun _ => by kernel_rfl) (by decide +kernel) (Rn N) (fun x => by kernel_rfl))
@[reducible] def s152 : SP := ⟨[.agg [.int .i64,.int .i64,.bool,.bool,.int .i64,.int .i64,.int .i64,.int .i64,.int .i64,.int .i64],.sl 0],[.row (.int .i64) 3]⟩
noncomputable def Y3 (N : Nat) : List (Nat × (Pk → Tr Pk)) := []
theorem M6 (N : Nat) : ah Tryz.prog (Y3 N) := trivial
@[reducible] def w152 : List SP := [⟨[.clo 219 [.adr 0 [],.adr 1 []]],[.var 29 (.sl 2),.var 43 (.agg [.int .i64,.int .i64,.bool,.bool,.int .i64,.int .i64,.int .i64,.int .i64,.int .i64,.int .i64]),.row (.int .i64) 3]⟩]
noncomputable def al5 (N : Nat) : (Int × Int × Bool × Bool × Int × Int × Int × Int × Int × Int × (List Int)) → Option (Int × Int × Bool × Bool × Int × Int × Int × Int × Int × Int × (List Int))
  | (x0,x1,x2,x3,x4,x5,x6,x7,x8,x9,x10) =>
  some ((x0,x1,x2,x3,x4,x5,x6,x7,x8,x9,x10))
noncomputable def aF0 (N : Nat) : Pk → Tr Pk := ag s152 w152 (al5 N)
theorem U6 (N : Nat) : au Tryz.prog (152) (aF0 N) :=
  (ae af al (M6 N) Tryz.func152 s152 w152 [] (cuts := []) trivial (fun _ => by kernel_rfl) (by decide +kernel) (al5 N) (fun x => by kernel_rfl))
@[reducible] def s171 : SP := ⟨[.agg [.int .i64,.int .i64,.bool,.bool,.int .i64,.int .i64,.int .i64,.int .i64,.int .i64,.int .i64],.int .i64],[]⟩
noncomputable def YQ (N : Nat) : List (Nat × (Pk → Tr Pk)) := [(39,T39 N),(95,T95 N)]
theorem ww (N : Nat) : ah Tryz.prog (YQ N) := ⟨oy N,zt N,trivial⟩
@[reducible] def Dz : LD := ⟨122,[5,14,13,1],[(.ret,[4]),(.exit 0,[5])],⟨[.int .i64,.int .i64,.arr y0 3,.int .i64],[]⟩,[(.exit 0,⟨[.int .i64],[]⟩)]⟩
abbrev uu : Type := Int × Int × (List (Int × (Int × Unit))) × Int
abbrev tF : Type := Int
noncomputable def Fp (N : Nat) (f : uu → Option tF) : uu → Option tF
  | (x0,x1,x2,x3) =>
  ac (decide (x1 < (3 : Int))) (
    ac (within x1 (List.length x2)) (
      Option.bind (x2[Int.toNat x1]?) fun y0 =>
      ac (decide (IntKind.wrap IntKind.i64 ((8 : Int) * IntKind.wrap IntKind.i64 ((2 : Int) - x1)) < (0 : Int))) (
        none ) (
        ac (decide (y0.2.1 < (0 : Int))) (
          none ) (
          Option.bind (f (IntKind.wrap IntKind.i64 (↑(BitVec.toNat (BitVec.ofInt (64 : Nat) x0 ||| BitVec.ofInt (64 : Nat) (IntKind.wrap IntKind.i64 (IntKind.wrap IntKind.i64 (Int.tdiv (IntKind.wrap IntKind.i64 (IntKind.wrap IntKind.i64 (IntKind.wrap IntKind.i64 (↑(BitVec.toNat (BitVec.ofInt (64 : Nat) (Int.fdiv x3 ((2 : Int) ^ min (Int.toNat (IntKind.wrap IntKind.i64 ((8 : Int) * IntKind.wrap IntKind.i64 ((2 : Int) - x1)))) (64 : Nat))) &&& BitVec.ofInt (64 : Nat) (255 : Int))) : Int) * y0.1) + (127 : Int))) (255 : Int)) * (2 : Int) ^ min (Int.toNat y0.2.1) (64 : Nat))))) : Int),IntKind.wrap IntKind.i64 (x1 + (1 : Int)),x2,x3)) fun r => some r))) (
      none )) (
    some (x0))
noncomputable def ng (N : Nat) : Nat → uu → Option tF
  | 0,_ => none
  | k + 1,x => Fp N (ng N k) x
noncomputable def EP (N : Nat) (k : Nat) : Cut := Dz.cut (ng N k)
theorem EO (N : Nat) (k : Nat) : aj Tryz.prog false Tryz.f171 [] 122 (EP N k) :=
  Dz.loopT af al (ww N) Tryz.f171 [] (cuts := []) trivial (by decide +kernel) (by kernel_rfl) (Fp N) (ng N) (fun _ => rfl) (fun _ _ => rfl) (fun f x => by kernel_rfl) k
@[reducible] def w171 : List SP := [⟨[.int .i64],[]⟩]
noncomputable def ak9 (N : Nat) : (Int × Int × Bool × Bool × Int × Int × Int × Int × Int × Int × Int) → Option (Int)
  | (x0,x1,x2,x3,x4,x5,x6,x7,x8,x9,x10) =>
  Option.bind (Ss N (x0,x1,x2,x3,x4,x5,x6,x7,x8,x9)) fun y0 =>
  ac (!y0) (
    some ((0 : Int))) (
    Option.bind (Vu N (x0,x1,x2,x3,x4,x5,x6,x7,x8,x9)) fun y1 =>
    Option.bind (ng N N ((0 : Int),(0 : Int),y1,x10)) fun y2 =>
    some (y2))
noncomputable def aE1 (N : Nat) : Pk → Tr Pk := ag s171 w171 (ak9 N)
theorem UW (N : Nat) : au Tryz.prog (171) (aE1 N) :=
  (ae af al (ww N) Tryz.func171 s171 w171 [] (cuts := [(122,EP N N)]) ⟨EO N N,trivial⟩ (fun _ => by kernel_rfl) (by decide +kernel) (ak9 N) (fun x => by kernel_rfl))
@[reducible] def s91r58 : SP := ⟨[.yv 0,.int .i64,.adr 1 []],[.lp 1678653710707569197114 [5] [.adr 1 []] 0,.var 29 (.sl 2),.row (.int .i64) 3]⟩
noncomputable def OW (N : Nat) : List (Nat × (Pk → Tr Pk)) := []
theorem BP (N : Nat) : ah Tryz.prog (OW N) := trivial
@[reducible] def w91r58 : List SP := [⟨[.bc true],[.lp 1678653710707569197114 [5] [.adr 1 []] 0,.var 29 (.sl 2),.row (.int .i64) 3]⟩]
noncomputable def G1 (N : Nat) : (Int × (List Int)) → Option ((List Int))
  | (x0,x1) =>
  ac (decide ((List.length x1 + List.length [x0]) * (8 : Nat) ≤ (140737488355328 : Nat) ∧ List.length x1 + List.length [x0] ≤ (140737488355328 : Nat))) (
    some (x1 ++ [x0])) (
    none )
noncomputable def Qt (N : Nat) : Pk → Tr Pk := ag s91r58 w91r58 (G1 N)
theorem NW (N : Nat) : au Tryz.prog (91 * aX + 58) (Qt N) :=
  (Pm af al (BP N) Tryz.func91 58 s91r58 w91r58 [0,1,1] (cuts := []) trivial (fun _ => by kernel_rfl) (by decide +kernel) (G1 N) (fun x => by kernel_rfl))
@[reducible] def s219 : SP := ⟨[.yv 0,.adr 1 [],.adr 2 []],[.lp 1678653710707569197114 [5] [.adr 3 []] 0,.var 29 (.sl 4),.var 43 (.agg [.int .i64,.int .i64,.bool,.bool,.int .i64,.int .i64,.int .i64,.int .i64,.int .i64,.int .i64]),.var 29 (.sl 5),.row (.int .i64) 3,.row (.int .i64) 3]⟩
noncomputable def Yy (N : Nat) : List (Nat × (Pk → Tr Pk)) := [(171,aE1 N),(91 * aX + 58,Qt N)]
theorem wo (N : Nat) : ah Tryz.prog (Yy N) := ⟨UW N,NW N,trivial⟩
@[reducible] def QX : LD := ⟨6,[7,6,0,2,8],[(.exit 0,[])],⟨[.int .i64,.sl 4,.yv 0,.adr 2 [],.int .i64],[.lp 1678653710707569197114 [5] [.adr 3 []] 0,.var 29 (.sl 4),.var 43 (.agg [.int .i64,.int .i64,.bool,.bool,.int .i64,.int .i64,.int .i64,.int .i64,.int .i64,.int .i64]),.var 29 (.sl 5),.row (.int .i64) 3,.row (.int .i64) 3]⟩,[(.exit 0,⟨[],[.lp 1678653710707569197114 [5] [.adr 3 []] 0,.var 29 (.sl 4),.var 43 (.agg [.int .i64,.int .i64,.bool,.bool,.int .i64,.int .i64,.int .i64,.int .i64,.int .i64,.int .i64]),.var 29 (.sl 5),.row (.int .i64) 3,.row (.int .i64) 3]⟩)]⟩
abbrev GY : Type := Int × Int × Int × Int × Bool × Bool × Int × Int × Int × Int × Int × Int × (List Int) × (List Int)
abbrev GK : Type := Int × Int × Bool × Bool × Int × Int × Int × Int × Int × Int × (List Int) × (List Int)
noncomputable def Sp (N : Nat) (f : GY → Option GK) : GY → Option GK
  | (x0,x1,x2,x3,x4,x5,x6,x7,x8,x9,x10,x11,x12,x13) =>
  ac (decide (x1 < x0)) (
    ac (within x1 (List.length x12)) (
      Option.bind (x12[Int.toNat x1]?) fun y0 =>
      Option.bind (ak9 N (x2,x3,x4,x5,x6,x7,x8,x9,x10,x11,y0)) fun y1 =>
      Option.bind (G1 N (y1,x13)) fun y2 =>
      Option.bind (f (x0,IntKind.wrap IntKind.i64 (x1 + (1 : Int)),x2,x3,x4,x5,x6,x7,x8,x9,x10,x11,x12,y2)) fun r => some r) (
      none )) (
    some ((x2,x3,x4,x5,x6,x7,x8,x9,x10,x11,x12,x13)))
noncomputable def Bt (N : Nat) : Nat → GY → Option GK
  | 0,_ => none
  | k + 1,x => Sp N (Bt N k) x
noncomputable def Sg (N : Nat) (k : Nat) : Cut := QX.cut (Bt N k)
theorem Ow (N : Nat) (k : Nat) : aj Tryz.prog false Tryz.f219 [0,1,2,3] 6 (Sg N k) :=
  QX.loopT af al (wo N) Tryz.f219 [0,1,2,3] (cuts := []) trivial (by decide +kernel) (by kernel_rfl) (Sp N) (Bt N) (fun _ => rfl) (fun _ _ => rfl) (fun f x => by kernel_rfl) k
@[reducible] def w219 : List SP := [⟨[.tup []],[.lp 1678653710707569197114 [5] [.adr 3 []] 0,.var 29 (.sl 4),.var 43 (.agg [.int .i64,.int .i64,.bool,.bool,.int .i64,.int .i64,.int .i64,.int .i64,.int .i64,.int .i64]),.var 29 (.sl 5),.row (.int .i64) 3,.row (.int .i64) 3]⟩]
noncomputable def ak5 (N : Nat) : (Int × Int × Bool × Bool × Int × Int × Int × Int × Int × Int × (List Int) × (List Int)) → Option (Int × Int × Bool × Bool × Int × Int × Int × Int × Int × Int × (List Int) × (List Int))
  | (x0,x1,x2,x3,x4,x5,x6,x7,x8,x9,x10,x11) =>
  Option.bind (Bt N N ((↑(List.length x10) : Int),(0 : Int),x0,x1,x2,x3,x4,x5,x6,x7,x8,x9,x10,x11)) fun (y0_0,y0_1,y0_2,y0_3,y0_4,y0_5,y0_6,y0_7,y0_8,y0_9,y0_10,y0_11) =>
  some ((y0_0,y0_1,y0_2,y0_3,y0_4,y0_5,y0_6,y0_7,y0_8,y0_9,y0_10,y0_11))
noncomputable def aC7 (N : Nat) : Pk → Tr Pk := ag s219 w219 (ak5 N)
theorem UH (N : Nat) : au Tryz.prog (219) (aC7 N) :=
  (ae af al (wo N) Tryz.func219 s219 w219 [0,1,2,3] (cuts := [(6,Sg N N)]) ⟨Ow N N,trivial⟩ (fun _ => by kernel_rfl) (by decide +kernel) (ak5 N) (fun x => by kernel_rfl))
@[reducible] def s91 : SP := ⟨[.agg [.int .i64,.int .i64,.bool,.bool,.int .i64,.int .i64,.int .i64,.int .i64,.int .i64,.int .i64],.sl 0],[.row (.int .i64) 3]⟩
noncomputable def ao2 (N : Nat) : List (Nat × (Pk → Tr Pk)) := [(152,aF0 N),(219,aC7 N)]
theorem BQ (N : Nat) : ah Tryz.prog (ao2 N) := ⟨U6 N,UH N,trivial⟩
@[reducible] def QL : LD := ⟨58,[4,5,9],[(.ret,[4]),(.exit 0,[5]),(.normal,[5])],⟨[.sl 0,.adr 1 [],.clo 219 [.adr 2 [],.adr 3 []]],[.row (.int .i64) 3,.var 29 (.sl 4),.var 29 (.sl 5),.var 43 (.agg [.int .i64,.int .i64,.bool,.bool,.int .i64,.int .i64,.int .i64,.int .i64,.int .i64,.int .i64]),.row (.int .i64) 3,.row (.int .i64) 3]⟩,[(.normal,⟨[.adr 0 []],[.var 29 (.sl 1),.row (.int .i64) 3]⟩)]⟩
noncomputable def G2 (N : Nat) : ((List Int) × Int × Int × Bool × Bool × Int × Int × Int × Int × Int × Int × (List Int) × (List Int)) → Option ((List Int))
  | (x0,x1,x2,x3,x4,x5,x6,x7,x8,x9,x10,x11,x12) =>
  Option.bind (ak5 N (x1,x2,x3,x4,x5,x6,x7,x8,x9,x10,x12,x11)) fun (y0_0,y0_1,y0_2,y0_3,y0_4,y0_5,y0_6,y0_7,y0_8,y0_9,y0_10,y0_11) =>
  some (y0_11)
noncomputable def RQ (N : Nat) (_ : Nat) : Cut := QL.cut (G2 N)
theorem Oh (N : Nat) (k : Nat) : aj Tryz.prog false Tryz.f91 [] 58 (RQ N k) :=
  QL.rngT af al (BQ N) Tryz.func91 [] [5] (by decide +kernel) (G2 N) (fun x => by kernel_rfl)
@[reducible] def w91 : List SP := [⟨[.sl 0],[.row (.int .i64) 3]⟩]
noncomputable def F91 (N : Nat) : (Int × Int × Bool × Bool × Int × Int × Int × Int × Int × Int × (List Int)) → Option ((List Int))
  | (x0,x1,x2,x3,x4,x5,x6,x7,x8,x9,x10) =>
  Option.bind (al5 N (x0,x1,x2,x3,x4,x5,x6,x7,x8,x9,x10)) fun (y0_0,y0_1,y0_2,y0_3,y0_4,y0_5,y0_6,y0_7,y0_8,y0_9,y0_10) =>
  Option.bind (G2 N ([],y0_0,y0_1,y0_2,y0_3,y0_4,y0_5,y0_6,y0_7,y0_8,y0_9,[],y0_10)) fun y1 =>
  some (y1)
noncomputable def T91 (N : Nat) : Pk → Tr Pk := ag s91 w91 (F91 N)
theorem aa8 (N : Nat) : au Tryz.prog (91) (T91 N) :=
  (ae af al (BQ N) Tryz.func91 s91 w91 [] (cuts := [(58,RQ N N)]) ⟨Oh N N,trivial⟩ (fun _ => by kernel_rfl) (by decide +kernel) (F91 N) (fun x => by kernel_rfl))
@[reducible] def s153 : SP := ⟨[.adr 0 [],.int .i64],[.var 200 (.agg [.sl 1,.mp 2]),.row (.int .i64) 3,.map (.int .i64) (.int .i64)]⟩
noncomputable def Y2 (N : Nat) : List (Nat × (Pk → Tr Pk)) := []
theorem M5 (N : Nat) : ah Tryz.prog (Y2 N) := trivial
@[reducible] def w153 : List SP := [⟨[.int .i64],[.var 200 (.agg [.sl 1,.mp 2]),.row (.int .i64) 3,.map (.int .i64) (.int .i64)]⟩]
noncomputable def RF (N : Nat) : (Int × (List Int) × (List (Int × Int))) → Option (Int × (List Int) × (List (Int × Int)))
  | (x0,x1,x2) =>
  ac (!kZ (Ty.int IntKind.i64) x0 x2) (
    ac (decide ((List.length x1 + List.length [x0]) * (8 : Nat) ≤ (140737488355328 : Nat) ∧ List.length x1 + List.length [x0] ≤ (140737488355328 : Nat))) (
      some (((↑(List.length x1) : Int),x1 ++ [x0],dC (Ty.int IntKind.i64) x0 (↑(List.length x1) : Int) x2))) (
      none )) (
    some ((gJ (Ty.int IntKind.i64) x0 (0 : Int) x2,x1,x2)))
noncomputable def U5 (N : Nat) : Pk → Tr Pk := ag s153 w153 (RF N)
theorem zF (N : Nat) : au Tryz.prog (153) (U5 N) :=
  (ae af al (M5 N) Tryz.func153 s153 w153 [0] (cuts := []) trivial (fun _ => by kernel_rfl) (by decide +kernel) (RF N) (fun x => by kernel_rfl))
@[reducible] def s154 : SP := ⟨[.int .i64],[]⟩
noncomputable def Y1 (N : Nat) : List (Nat × (Pk → Tr Pk)) := []
theorem M4 (N : Nat) : ah Tryz.prog (Y1 N) := trivial
@[reducible] def w154 : List SP := [⟨[.str],[]⟩]
noncomputable def vD (N : Nat) : (Int) → Option (ByteArray)
  | x0 =>
  some (aB [IntKind.wrap IntKind.u8 x0])
noncomputable def NY (N : Nat) : Pk → Tr Pk := ag s154 w154 (vD N)
theorem mE (N : Nat) : au Tryz.prog (154) (NY N) :=
  (ae af al (M4 N) Tryz.func154 s154 w154 [] (cuts := []) trivial (fun _ => by kernel_rfl) (by decide +kernel) (vD N) (fun x => by kernel_rfl))
@[reducible] def s267 : SP := ⟨[.agg [.int .i64,.int .i64,.bool,.bool,.int .i64,.int .i64,.int .i64,.int .i64,.int .i64,.int .i64],.int .i64,.int .i64],[]⟩
noncomputable def Yg (N : Nat) : List (Nat × (Pk → Tr Pk)) := [(231,ae9 N)]
theorem we (N : Nat) : ah Tryz.prog (Yg N) := ⟨I8 N,trivial⟩
@[reducible] def JP : LD := ⟨58,[7,10,9,3,2],[(.ret,[6]),(.exit 0,[3,7])],⟨[.sl 0,.int .i64,.int .i64,.adr 1 [],.int .i64],[.row (.int .u8) 5,.var 43 (.agg [.int .i64,.int .i64,.bool,.bool,.int .i64,.int .i64,.int .i64,.int .i64,.int .i64,.int .i64])]⟩,[(.exit 0,⟨[.adr 0 [],.sl 1],[.var 43 (.agg [.int .i64,.int .i64,.bool,.bool,.int .i64,.int .i64,.int .i64,.int .i64,.int .i64,.int .i64]),.row (.int .u8) 5]⟩)]⟩
abbrev A4 : Type := Int × Int × Int × (List Int) × Int × Int × Bool × Bool × Int × Int × Int × Int × Int × Int
abbrev Ao : Type := Int × Int × Bool × Bool × Int × Int × Int × Int × Int × Int × (List Int)
noncomputable def Lo (N : Nat) (f : A4 → Option Ao) : A4 → Option Ao
  | (x0,x1,x2,x3,x4,x5,x6,x7,x8,x9,x10,x11,x12,x13) =>
  ac (decide (x0 < x1)) (
    ac (decide (IntKind.wrap IntKind.i64 ((8 : Int) * x0) < (0 : Int))) (
      none ) (
      ac (decide ((List.length x3 + List.length [IntKind.wrap IntKind.u8 (Int.fdiv x2 ((2 : Int) ^ min (Int.toNat (IntKind.wrap IntKind.i64 ((8 : Int) * x0))) (64 : Nat)))]) * (1 : Nat) ≤ (140737488355328 : Nat) ∧ List.length x3 + List.length [IntKind.wrap IntKind.u8 (Int.fdiv x2 ((2 : Int) ^ min (Int.toNat (IntKind.wrap IntKind.i64 ((8 : Int) * x0))) (64 : Nat)))] ≤ (140737488355328 : Nat))) (
        Option.bind (f (IntKind.wrap IntKind.i64 (x0 + (1 : Int)),x1,x2,x3 ++ [IntKind.wrap IntKind.u8 (Int.fdiv x2 ((2 : Int) ^ min (Int.toNat (IntKind.wrap IntKind.i64 ((8 : Int) * x0))) (64 : Nat)))],x4,x5,x6,x7,x8,x9,x10,x11,x12,x13)) fun r => some r) (
        none ))) (
    some ((x4,x5,x6,x7,x8,x9,x10,x11,x12,x13,x3)))
noncomputable def rl (N : Nat) : Nat → A4 → Option Ao
  | 0,_ => none
  | k + 1,x => Lo N (rl N k) x
noncomputable def KG (N : Nat) (k : Nat) : Cut := JP.cut (rl N k)
theorem HN (N : Nat) (k : Nat) : aj Tryz.prog false Tryz.f267 [] 58 (KG N k) :=
  JP.loopT af al (we N) Tryz.f267 [] (cuts := []) trivial (by decide +kernel) (by kernel_rfl) (Lo N) (rl N) (fun _ => rfl) (fun _ _ => rfl) (fun f x => by kernel_rfl) k
@[reducible] def w267 : List SP := [⟨[.str],[]⟩]
noncomputable def ak0 (N : Nat) : (Int × Int × Bool × Bool × Int × Int × Int × Int × Int × Int × Int × Int) → Option (ByteArray)
  | (x0,x1,x2,x3,x4,x5,x6,x7,x8,x9,x10,x11) =>
  Option.bind (rl N N ((0 : Int),x10,x11,[],x0,x1,x2,x3,x4,x5,x6,x7,x8,x9)) fun (y0_0,y0_1,y0_2,y0_3,y0_4,y0_5,y0_6,y0_7,y0_8,y0_9,y0_10) =>
  ac (y0_2) (
    Option.bind (Br N ((0 : Nat),List.length y0_10,y0_10)) fun y1 =>
    some (aB y1)) (
    some (aB y0_10))
noncomputable def aB6 (N : Nat) : Pk → Tr Pk := ag s267 w267 (ak0 N)
theorem Uu (N : Nat) : au Tryz.prog (267) (aB6 N) :=
  (ae af al (we N) Tryz.func267 s267 w267 [] (cuts := [(58,KG N N)]) ⟨HN N N,trivial⟩ (fun _ => by kernel_rfl) (by decide +kernel) (ak0 N) (fun x => by kernel_rfl))
@[reducible] def s220 : SP := ⟨[.agg [.int .i64,.int .i64,.bool,.bool,.int .i64,.int .i64,.int .i64,.int .i64,.int .i64,.int .i64],.int .i64],[]⟩
noncomputable def Yx (N : Nat) : List (Nat × (Pk → Tr Pk)) := [(37,T37 N),(97,T97 N),(267,aB6 N)]
theorem MN (N : Nat) : ah Tryz.prog (Yx N) := ⟨zu N,Qr N,Uu N,trivial⟩
@[reducible] def w220 : List SP := [⟨[.str],[]⟩]
noncomputable def V4 (N : Nat) : (Int × Int × Bool × Bool × Int × Int × Int × Int × Int × Int × Int) → Option (ByteArray)
  | (x0,x1,x2,x3,x4,x5,x6,x7,x8,x9,x10) =>
  Option.bind (J8 N (x0,x1,x2,x3,x4,x5,x6,x7,x8,x9)) fun y0 =>
  Option.bind (WK N (x0,x1,x2,x3,x4,x5,x6,x7,x8,x9)) fun y1 =>
  ac (decide (IntKind.wrap IntKind.i64 ((8 : Int) * y1) < (0 : Int))) (
    none ) (
    ac (decide (y0.2 < (0 : Int))) (
      none ) (
      Option.bind (ak0 N (x0,x1,x2,x3,x4,x5,x6,x7,x8,x9,y0.1,Int.fdiv (IntKind.wrap IntKind.i64 (↑(BitVec.toNat (BitVec.ofInt (64 : Nat) x10 &&& BitVec.ofInt (64 : Nat) (IntKind.wrap IntKind.i64 (IntKind.wrap IntKind.i64 ((1 : Int) * (2 : Int) ^ min (Int.toNat (IntKind.wrap IntKind.i64 ((8 : Int) * y1))) (64 : Nat)) - (1 : Int))))) : Int)) ((2 : Int) ^ min (Int.toNat y0.2) (64 : Nat)))) fun y2 =>
      some (y2)))
noncomputable def aC6 (N : Nat) : Pk → Tr Pk := ag s220 w220 (V4 N)
theorem UG (N : Nat) : au Tryz.prog (220) (aC6 N) :=
  (ae af al (MN N) Tryz.func220 s220 w220 [] (cuts := []) trivial (fun _ => by kernel_rfl) (by decide +kernel) (V4 N) (fun x => by kernel_rfl))
@[reducible] def s122 : SP := ⟨[.adr 0 []],[.var 95 (.agg [.nilp,.sl 1]),.row (.int .u8) 5]⟩
noncomputable def Zl (N : Nat) : List (Nat × (Pk → Tr Pk)) := []
theorem Nk (N : Nat) : ah Tryz.prog (Zl N) := trivial
@[reducible] def w122 : List SP := [⟨[.tup []],[.var 95 (.agg [.adr 0 [],.sl 1]),.row (.int .u8) 5]⟩]
noncomputable def Wc (N : Nat) : ((List Int)) → Option ((List Int))
  | x0 =>
  some (x0)
noncomputable def af8 (N : Nat) : Pk → Tr Pk := ag s122 w122 (Wc N)
theorem Jh (N : Nat) : au Tryz.prog (122) (af8 N) :=
  (ae af al (Nk N) Tryz.func122 s122 w122 [0] (cuts := []) trivial (fun _ => by kernel_rfl) (by decide +kernel) (Wc N) (fun x => by kernel_rfl))
@[reducible] def s62 : SP := ⟨[.adr 0 [],.str],[.var 95 (.agg [.nilp,.sl 1]),.row (.int .u8) 5]⟩
noncomputable def ap7 (N : Nat) : List (Nat × (Pk → Tr Pk)) := [(122,af8 N)]
theorem O3 (N : Nat) : ah Tryz.prog (ap7 N) := ⟨Jh N,trivial⟩
@[reducible] def w62 : List SP := [⟨[.tup [.int .i64,.nili]],[.var 95 (.agg [.adr 0 [],.sl 1]),.row (.int .u8) 5]⟩]
noncomputable def F62 (N : Nat) : (ByteArray × (List Int)) → Option (Int × (List Int))
  | (x0,x1) =>
  Option.bind (Wc N x1) fun y0 =>
  ac (decide ((List.length y0 + List.length (bytesOf x0)) * (1 : Nat) ≤ (140737488355328 : Nat) ∧ List.length y0 + List.length (bytesOf x0) ≤ (140737488355328 : Nat))) (
    some (((↑(ByteArray.size x0) : Int),y0 ++ bytesOf x0))) (
    none )
noncomputable def T62 (N : Nat) : Pk → Tr Pk := ag s62 w62 (F62 N)
theorem Qv (N : Nat) : au Tryz.prog (62) (T62 N) :=
  (ae af al (O3 N) Tryz.func62 s62 w62 [0] (cuts := []) trivial (fun _ => by kernel_rfl) (by decide +kernel) (F62 N) (fun x => by kernel_rfl))
@[reducible] def s122a : SP := ⟨[.adr 0 []],[.var 95 (.agg [.adr 0 [],.sl 1]),.row (.int .u8) 5]⟩
noncomputable def SD (N : Nat) : List (Nat × (Pk → Tr Pk)) := []
theorem FH (N : Nat) : ah Tryz.prog (SD N) := trivial
@[reducible] def w122a : List SP := [⟨[.tup []],[.var 95 (.agg [.adr 0 [],.sl 1]),.row (.int .u8) 5]⟩]
noncomputable def RP (N : Nat) : ((List Int)) → Option ((List Int))
  | x0 =>
  some (x0)
noncomputable def WG (N : Nat) : Pk → Tr Pk := ag s122a w122a (RP N)
theorem QI (N : Nat) : au Tryz.prog (122) (WG N) :=
  (ae af al (FH N) Tryz.func122 s122a w122a [0,0] (cuts := []) trivial (fun _ => by kernel_rfl) (by decide +kernel) (RP N) (fun x => by kernel_rfl))
@[reducible] def s62a : SP := ⟨[.adr 0 [],.str],[.var 95 (.agg [.adr 0 [],.sl 1]),.row (.int .u8) 5]⟩
noncomputable def WQ (N : Nat) : List (Nat × (Pk → Tr Pk)) := [(122,WG N)]
theorem LH (N : Nat) : ah Tryz.prog (WQ N) := ⟨QI N,trivial⟩
@[reducible] def w62a : List SP := [⟨[.tup [.int .i64,.nili]],[.var 95 (.agg [.adr 0 [],.sl 1]),.row (.int .u8) 5]⟩]
noncomputable def Vw (N : Nat) : (ByteArray × (List Int)) → Option (Int × (List Int))
  | (x0,x1) =>
  Option.bind (RP N x1) fun y0 =>
  ac (decide ((List.length y0 + List.length (bytesOf x0)) * (1 : Nat) ≤ (140737488355328 : Nat) ∧ List.length y0 + List.length (bytesOf x0) ≤ (140737488355328 : Nat))) (
    some (((↑(ByteArray.size x0) : Int),y0 ++ bytesOf x0))) (
    none )
noncomputable def ab9 (N : Nat) : Pk → Tr Pk := ag s62a w62a (Vw N)
theorem IJ (N : Nat) : au Tryz.prog (62) (ab9 N) :=
  (ae af al (LH N) Tryz.func62 s62a w62a [0,0] (cuts := []) trivial (fun _ => by kernel_rfl) (by decide +kernel) (Vw N) (fun x => by kernel_rfl))
@[reducible] def s155 : SP := ⟨[.agg [.agg [.int .i64,.int .i64,.bool,.bool,.int .i64,.int .i64,.int .i64,.int .i64,.int .i64,.int .i64]],.ro (.int .i64)],[]⟩
noncomputable def Y0 (N : Nat) : List (Nat × (Pk → Tr Pk)) := [(220,aC6 N),(62,SN s62.I (T62 N) (ab9 N))]
theorem nM (N : Nat) : ah Tryz.prog (Y0 N) := ⟨UG N,kW (Qv N) (IJ N),trivial⟩
@[reducible] def eu : LD := ⟨58,[10,9,8,2,5],[(.ret,[4]),(.exit 0,[5])],⟨[.int .i64,.int .i64,.ro (.int .i64),.adr 0 [],.adr 1 []],[.var 140 (.agg [.agg [.int .i64,.int .i64,.bool,.bool,.int .i64,.int .i64,.int .i64,.int .i64,.int .i64,.int .i64]]),.var 95 (.agg [.adr 1 [],.sl 2]),.row (.int .u8) 5]⟩,[(.exit 0,⟨[.adr 0 []],[.var 95 (.agg [.adr 0 [],.sl 1]),.row (.int .u8) 5]⟩),(.exit 0,⟨[.adr 0 []],[.var 95 (.agg [.nilp,.sl 1]),.row (.int .u8) 5]⟩)]⟩
abbrev ux : Type := Int × Int × (List Int) × Int × Int × Bool × Bool × Int × Int × Int × Int × Int × Int × (List Int)
abbrev tJ : Type := (((List Int)) ⊕ ((List Int)))
noncomputable def ve (N : Nat) (f : ux → Option tJ) : ux → Option tJ
  | (x0,x1,x2,x3,x4,x5,x6,x7,x8,x9,x10,x11,x12,x13) =>
  ac (decide (x0 < x1)) (
    ac (within x0 (List.length x2)) (
      Option.bind (x2[Int.toNat x0]?) fun y0 =>
      Option.bind (V4 N (x3,x4,x5,x6,x7,x8,x9,x10,x11,x12,y0)) fun y1 =>
      Option.bind (Vw N (y1,x13)) fun y2 =>
      Option.bind (f (IntKind.wrap IntKind.i64 (x0 + (1 : Int)),x1,x2,x3,x4,x5,x6,x7,x8,x9,x10,x11,x12,y2.2)) fun r => match r with | .inl y => some (.inl y) | .inr y => some (.inr y)) (
      none )) (
    some (.inl (x13)))
noncomputable def jr (N : Nat) : Nat → ux → Option tJ
  | 0,_ => none
  | k + 1,x => ve N (jr N k) x
noncomputable def u3 (N : Nat) (k : Nat) : Cut := eu.cut (jr N k)
theorem qj (N : Nat) (k : Nat) : aj Tryz.prog false Tryz.f155 [] 58 (u3 N k) :=
  eu.loopT af al (nM N) Tryz.f155 [] (cuts := []) trivial (by decide +kernel) (by kernel_rfl) (ve N) (jr N) (fun _ => rfl) (fun _ _ => rfl) (fun f x => by kernel_rfl) k
@[reducible] def J0 : LD := ⟨58,eu.live,eu.out,⟨[.int .i64,.int .i64,.ro (.int .i64),.adr 0 [],.adr 1 []],[.var 140 (.agg [.agg [.int .i64,.int .i64,.bool,.bool,.int .i64,.int .i64,.int .i64,.int .i64,.int .i64,.int .i64]]),.var 95 (.agg [.nilp,.sl 2]),.row (.int .u8) 5]⟩,eu.w⟩
noncomputable def Lv (N : Nat) (f : (Int × Int × (List Int) × Int × Int × Bool × Bool × Int × Int × Int × Int × Int × Int × (List Int)) → Option ((((List Int)) ⊕ ((List Int))))) : (Int × Int × (List Int) × Int × Int × Bool × Bool × Int × Int × Int × Int × Int × Int × (List Int)) → Option ((((List Int)) ⊕ ((List Int))))
  | (x0,x1,x2,x3,x4,x5,x6,x7,x8,x9,x10,x11,x12,x13) =>
  ac (decide (x0 < x1)) (
    ac (within x0 (List.length x2)) (
      Option.bind (x2[Int.toNat x0]?) fun y0 =>
      Option.bind (V4 N (x3,x4,x5,x6,x7,x8,x9,x10,x11,x12,y0)) fun y1 =>
      Option.bind (F62 N (y1,x13)) fun y2 =>
      Option.bind (f (IntKind.wrap IntKind.i64 (x0 + (1 : Int)),x1,x2,x3,x4,x5,x6,x7,x8,x9,x10,x11,x12,y2.2)) fun r => match r with | .inl y => some (.inl y) | .inr y => some (.inr y)) (
      none )) (
    some (.inr (x13)))
noncomputable def Kd (N : Nat) (k : Nat) : (Int × Int × (List Int) × Int × Int × Bool × Bool × Int × Int × Int × Int × Int × Int × (List Int)) → Option ((((List Int)) ⊕ ((List Int)))) := Lv N (jr N k)
noncomputable def KR (N : Nat) (k : Nat) : Cut := J0.cut (Kd N k)
theorem HY (N : Nat) (k : Nat) : aj Tryz.prog false Tryz.f155 [] 58 (KR N k) :=
  J0.loop2T af al (nM N) eu.s Tryz.f155 [] (cuts := [(58,u3 N N)]) ⟨qj N N,trivial⟩ (by decide +kernel) (by kernel_rfl) (Lv N) (ve N) (jr N) (fun _ => rfl) (fun _ _ => rfl) (fun f g x => by kernel_rfl) (fun f g x => by kernel_rfl) k
@[reducible] def w155 : List SP := [⟨[.str],[]⟩]
noncomputable def Hb (N : Nat) : (Int × Int × Bool × Bool × Int × Int × Int × Int × Int × Int × (List Int)) → Option (ByteArray)
  | (x0,x1,x2,x3,x4,x5,x6,x7,x8,x9,x10) =>
  Option.bind (Kd N N ((0 : Int),(↑(List.length x10) : Int),x10,x0,x1,x2,x3,x4,x5,x6,x7,x8,x9,[])) fun y0 =>
  match y0 with
  | .inl y1 =>
    ac (decide ((0 : Nat) < List.length y1 ∧ List.length y1 ≤ (140737488355328 : Nat))) (
      some (aB y1)) (
      none )
  | .inr y1 =>
    ac (decide ((0 : Nat) < List.length y1 ∧ List.length y1 ≤ (140737488355328 : Nat))) (
      some (aB y1)) (
      none )
noncomputable def QG (N : Nat) : Pk → Tr Pk := ag s155 w155 (Hb N)
theorem qM (N : Nat) : au Tryz.prog (155) (QG N) :=
  (ae af al (nM N) Tryz.func155 s155 w155 [] (cuts := [(58,BJ eu.s.I (u3 N N) (KR N N))]) ⟨fun c' h => cb (qj N N c' h) (HY N N c' h) rfl rfl,trivial⟩ (fun _ => by kernel_rfl) (by decide +kernel) (Hb N) (fun x => by kernel_rfl))
@[reducible] def s156 : SP := ⟨[.ro (.int .i64)],[]⟩
noncomputable def YZ (N : Nat) : List (Nat × (Pk → Tr Pk)) := []
theorem wC (N : Nat) : ah Tryz.prog (YZ N) := trivial
@[reducible] def JZ : LD := ⟨58,[9,8,7,3],[(.ret,[2]),(.exit 0,[3])],⟨[.int .i64,.int .i64,.ro (.int .i64),.sl 0],[.row y0 245]⟩,[(.exit 0,⟨[.sl 0],[.row y0 245]⟩)]⟩
abbrev Bc : Type := Int × Int × (List Int) × (List (Int × (Int × Unit)))
abbrev Ax : Type := (List (Int × (Int × Unit)))
noncomputable def Lu (N : Nat) (f : Bc → Option Ax) : Bc → Option Ax
  | (x0,x1,x2,x3) =>
  ac (decide (x0 < x1)) (
    ac (within x0 (List.length x2)) (
      Option.bind (x2[Int.toNat x0]?) fun y0 =>
      ac (decide ((↑(List.length x3) : Int) > (0 : Int))) (
        ac (within (IntKind.wrap IntKind.i64 ((↑(List.length x3) : Int) - (1 : Int))) (List.length x3)) (
          Option.bind (x3[Int.toNat (IntKind.wrap IntKind.i64 ((↑(List.length x3) : Int) - (1 : Int)))]?) fun y1 =>
          ac (y1.1 == y0) (
            ac (within (IntKind.wrap IntKind.i64 ((↑(List.length x3) : Int) - (1 : Int))) (List.length x3)) (
              Option.bind (x3[Int.toNat (IntKind.wrap IntKind.i64 ((↑(List.length x3) : Int) - (1 : Int)))]?) fun y2 =>
              ac (within (IntKind.wrap IntKind.i64 ((↑(List.length x3) : Int) - (1 : Int))) (List.length x3)) (
                Option.bind (x3[Int.toNat (IntKind.wrap IntKind.i64 ((↑(List.length x3) : Int) - (1 : Int)))]?) fun y3 =>
                Option.bind (f (IntKind.wrap IntKind.i64 (x0 + (1 : Int)),x1,x2,List.set x3 (Int.toNat (IntKind.wrap IntKind.i64 ((↑(List.length x3) : Int) - (1 : Int)))) (y3.1,IntKind.wrap IntKind.i64 (y2.2.1 + (1 : Int)),()))) fun r => some r) (
                none )) (
              none )) (
            ac (decide ((List.length x3 + List.length [(y0,(1 : Int),())]) * (16 : Nat) ≤ (140737488355328 : Nat) ∧ List.length x3 + List.length [(y0,(1 : Int),())] ≤ (140737488355328 : Nat))) (
              Option.bind (f (IntKind.wrap IntKind.i64 (x0 + (1 : Int)),x1,x2,x3 ++ [(y0,(1 : Int),())])) fun r => some r) (
              none ))) (
          none )) (
        ac (decide ((List.length x3 + List.length [(y0,(1 : Int),())]) * (16 : Nat) ≤ (140737488355328 : Nat) ∧ List.length x3 + List.length [(y0,(1 : Int),())] ≤ (140737488355328 : Nat))) (
          Option.bind (f (IntKind.wrap IntKind.i64 (x0 + (1 : Int)),x1,x2,x3 ++ [(y0,(1 : Int),())])) fun r => some r) (
          none ))) (
      none )) (
    some (x3))
noncomputable def rv (N : Nat) : Nat → Bc → Option Ax
  | 0,_ => none
  | k + 1,x => Lu N (rv N k) x
noncomputable def KQ (N : Nat) (k : Nat) : Cut := JZ.cut (rv N k)
theorem HX (N : Nat) (k : Nat) : aj Tryz.prog false Tryz.f156 [] 58 (KQ N k) :=
  JZ.loopT af al (wC N) Tryz.f156 [] (cuts := []) trivial (by decide +kernel) (by kernel_rfl) (Lu N) (rv N) (fun _ => rfl) (fun _ _ => rfl) (fun f x => by kernel_rfl) k
@[reducible] def w156 : List SP := [⟨[.sl 0],[.row y0 245]⟩]
noncomputable def al4 (N : Nat) : ((List Int)) → Option ((List (Int × (Int × Unit))))
  | x0 =>
  Option.bind (rv N N ((0 : Int),(↑(List.length x0) : Int),x0,[])) fun y0 =>
  some (y0)
noncomputable def aE9 (N : Nat) : Pk → Tr Pk := ag s156 w156 (al4 N)
theorem U4 (N : Nat) : au Tryz.prog (156) (aE9 N) :=
  (ae af al (wC N) Tryz.func156 s156 w156 [] (cuts := [(58,KQ N N)]) ⟨HX N N,trivial⟩ (fun _ => by kernel_rfl) (by decide +kernel) (al4 N) (fun x => by kernel_rfl))
@[reducible] def s314 : SP := ⟨[.int .u64,.int .u64],[]⟩
noncomputable def XW (N : Nat) : List (Nat × (Pk → Tr Pk)) := []
theorem Mo (N : Nat) : ah Tryz.prog (XW N) := trivial
@[reducible] def w314 : List SP := [⟨[.tup [.int .u64,.int .u64]],[]⟩]
noncomputable def aj0 (N : Nat) : (Int × Int) → Option (Int × Int)
  | (x0,x1) =>
  some ((IntKind.wrap IntKind.u64 (IntKind.wrap IntKind.u64 (IntKind.wrap IntKind.u64 (Int.fdiv x0 (4294967296 : Int) * Int.fdiv x1 (4294967296 : Int)) + Int.fdiv (IntKind.wrap IntKind.u64 (IntKind.wrap IntKind.u64 (Int.fdiv x0 (4294967296 : Int) * IntKind.wrap IntKind.u64 (↑(BitVec.toNat (BitVec.ofInt (64 : Nat) x1 &&& BitVec.ofInt (64 : Nat) (4294967295 : Int))) : Int)) + Int.fdiv (IntKind.wrap IntKind.u64 (IntKind.wrap IntKind.u64 (↑(BitVec.toNat (BitVec.ofInt (64 : Nat) x0 &&& BitVec.ofInt (64 : Nat) (4294967295 : Int))) : Int) * IntKind.wrap IntKind.u64 (↑(BitVec.toNat (BitVec.ofInt (64 : Nat) x1 &&& BitVec.ofInt (64 : Nat) (4294967295 : Int))) : Int))) (4294967296 : Int))) (4294967296 : Int)) + Int.fdiv (IntKind.wrap IntKind.u64 (IntKind.wrap IntKind.u64 (↑(BitVec.toNat (BitVec.ofInt (64 : Nat) (IntKind.wrap IntKind.u64 (IntKind.wrap IntKind.u64 (Int.fdiv x0 (4294967296 : Int) * IntKind.wrap IntKind.u64 (↑(BitVec.toNat (BitVec.ofInt (64 : Nat) x1 &&& BitVec.ofInt (64 : Nat) (4294967295 : Int))) : Int)) + Int.fdiv (IntKind.wrap IntKind.u64 (IntKind.wrap IntKind.u64 (↑(BitVec.toNat (BitVec.ofInt (64 : Nat) x0 &&& BitVec.ofInt (64 : Nat) (4294967295 : Int))) : Int) * IntKind.wrap IntKind.u64 (↑(BitVec.toNat (BitVec.ofInt (64 : Nat) x1 &&& BitVec.ofInt (64 : Nat) (4294967295 : Int))) : Int))) (4294967296 : Int))) &&& BitVec.ofInt (64 : Nat) (4294967295 : Int))) : Int) + IntKind.wrap IntKind.u64 (IntKind.wrap IntKind.u64 (↑(BitVec.toNat (BitVec.ofInt (64 : Nat) x0 &&& BitVec.ofInt (64 : Nat) (4294967295 : Int))) : Int) * Int.fdiv x1 (4294967296 : Int)))) (4294967296 : Int)),IntKind.wrap IntKind.u64 (x0 * x1)))
noncomputable def aA2 (N : Nat) : Pk → Tr Pk := ag s314 w314 (aj0 N)
theorem Ue (N : Nat) : au Tryz.prog (314) (aA2 N) :=
  (ae af al (Mo N) Tryz.func314 s314 w314 [] (cuts := []) trivial (fun _ => by kernel_rfl) (by decide +kernel) (aj0 N) (fun x => by kernel_rfl))
@[reducible] def s273 : SP := ⟨[.int .u64,.int .u64],[]⟩
noncomputable def Ya (N : Nat) : List (Nat × (Pk → Tr Pk)) := [(314,aA2 N)]
theorem MA (N : Nat) : ah Tryz.prog (Ya N) := ⟨Ue N,trivial⟩
@[reducible] def w273 : List SP := [⟨[.tup [.int .u64,.int .u64]],[]⟩]
noncomputable def aj7 (N : Nat) : (Int × Int) → Option (Int × Int)
  | (x0,x1) =>
  Option.bind (aj0 N (x0,x1)) fun y0 =>
  some ((y0.1,y0.2))
noncomputable def aB3 (N : Nat) : Pk → Tr Pk := ag s273 w273 (aj7 N)
theorem Ur (N : Nat) : au Tryz.prog (273) (aB3 N) :=
  (ae af al (MA N) Tryz.func273 s273 w273 [] (cuts := []) trivial (fun _ => by kernel_rfl) (by decide +kernel) (aj7 N) (fun x => by kernel_rfl))
@[reducible] def s186 : SP := ⟨[.str,.str],[]⟩
noncomputable def YO (N : Nat) : List (Nat × (Pk → Tr Pk)) := []
theorem MZ (N : Nat) : ah Tryz.prog (YO N) := trivial
@[reducible] def w186 : List SP := [⟨[.bool],[]⟩]
noncomputable def ak8 (N : Nat) : (ByteArray × ByteArray) → Option (Bool)
  | (x0,x1) =>
  ac (decide ((↑(ByteArray.size x0) : Int) ≥ (↑(ByteArray.size x1) : Int))) (
    ac (decide ((0 : Int) ≤ (↑(ByteArray.size x1) : Int) ∧ (↑(ByteArray.size x1) : Int) ≤ (↑(ByteArray.size x0) : Int))) (
      some (ByteArray.toList (ByteArray.extract x0 (0 : Nat) (Int.toNat (↑(ByteArray.size x1) : Int))) == ByteArray.toList x1)) (
      none )) (
    some (false))
noncomputable def aD9 (N : Nat) : Pk → Tr Pk := ag s186 w186 (ak8 N)
theorem UU (N : Nat) : au Tryz.prog (186) (aD9 N) :=
  (ae af al (MZ N) Tryz.func186 s186 w186 [] (cuts := []) trivial (fun _ => by kernel_rfl) (by decide +kernel) (ak8 N) (fun x => by kernel_rfl))
@[reducible] def s114 : SP := ⟨[.str,.str],[]⟩
noncomputable def Zn (N : Nat) : List (Nat × (Pk → Tr Pk)) := [(186,aD9 N)]
theorem Nm (N : Nat) : ah Tryz.prog (Zn N) := ⟨UU N,trivial⟩
@[reducible] def w114 : List SP := [⟨[.bool],[]⟩]
noncomputable def D8 (N : Nat) : (ByteArray × ByteArray) → Option (Bool)
  | (x0,x1) =>
  Option.bind (ak8 N (x0,x1)) fun y0 =>
  some (y0)
noncomputable def aG2 (N : Nat) : Pk → Tr Pk := ag s114 w114 (D8 N)
theorem Vo (N : Nat) : au Tryz.prog (114) (aG2 N) :=
  (ae af al (Nm N) Tryz.func114 s114 w114 [] (cuts := []) trivial (fun _ => by kernel_rfl) (by decide +kernel) (D8 N) (fun x => by kernel_rfl))
@[reducible] def s308 : SP := ⟨[.adr 0 [],.int .i64],[.var 95 (.agg [.nilp,.sl 1]),.row (.int .u8) 5]⟩
noncomputable def X0 (N : Nat) : List (Nat × (Pk → Tr Pk)) := [(122,af8 N)]
theorem Ms (N : Nat) : ah Tryz.prog (X0 N) := ⟨Jh N,trivial⟩
@[reducible] def w308 : List SP := []
noncomputable def aj2 (N : Nat) : (Int × (List Int)) → Option (Unit)
  | (x0,x1) =>
  Option.bind (Wc N x1) fun y0 =>
  ac (decide (x0 < (0 : Int))) (
    none ) (
    none )
noncomputable def aA4 (N : Nat) : Pk → Tr Pk := ag s308 w308 (aj2 N)
theorem Uh (N : Nat) : au Tryz.prog (308) (aA4 N) :=
  (ae af al (Ms N) Tryz.func308 s308 w308 [0] (cuts := []) trivial (fun _ => by kernel_rfl) (by decide +kernel) (aj2 N) (fun x => by kernel_rfl))
@[reducible] def s268 : SP := ⟨[.str,.int .i64],[]⟩
noncomputable def Yf (N : Nat) : List (Nat × (Pk → Tr Pk)) := [(273,aB3 N),(114,aG2 N),(308,aA4 N)]
theorem b6 (N : Nat) : ah Tryz.prog (Yf N) := ⟨Ur N,Vo N,Uh N,trivial⟩
@[reducible] def p6 : LD := ⟨522911,[67,0,7],[(.ret,[4]),(.exit 2,[0,7]),(.exit 1,[0,7]),(.normal,[0,7])],⟨[.bool,.str,.int .i64],[]⟩,[(.ret,⟨[.str],[]⟩),(.normal,⟨[.str,.int .i64],[]⟩)]⟩
noncomputable def eW (N : Nat) : (Bool × ByteArray × Int) → Option (((ByteArray) ⊕ (ByteArray × Int)))
  | (x0,x1,x2) =>
  ac (x0) (
    ac (decide ((0 : Int) ≤ x2 ∧ x2 ≤ (64 : Int))) (
      some (.inl (ByteArray.extract (ByteArray.mk #[(48 : UInt8),(48 : UInt8),(48 : UInt8),(48 : UInt8),(48 : UInt8),(48 : UInt8),(48 : UInt8),(48 : UInt8),(48 : UInt8),(48 : UInt8),(48 : UInt8),(48 : UInt8),(48 : UInt8),(48 : UInt8),(48 : UInt8),(48 : UInt8),(48 : UInt8),(48 : UInt8),(48 : UInt8),(48 : UInt8),(48 : UInt8),(48 : UInt8),(48 : UInt8),(48 : UInt8),(48 : UInt8),(48 : UInt8),(48 : UInt8),(48 : UInt8),(48 : UInt8),(48 : UInt8),(48 : UInt8),(48 : UInt8),(48 : UInt8),(48 : UInt8),(48 : UInt8),(48 : UInt8),(48 : UInt8),(48 : UInt8),(48 : UInt8),(48 : UInt8),(48 : UInt8),(48 : UInt8),(48 : UInt8),(48 : UInt8),(48 : UInt8),(48 : UInt8),(48 : UInt8),(48 : UInt8),(48 : UInt8),(48 : UInt8),(48 : UInt8),(48 : UInt8),(48 : UInt8),(48 : UInt8),(48 : UInt8),(48 : UInt8),(48 : UInt8),(48 : UInt8),(48 : UInt8),(48 : UInt8),(48 : UInt8),(48 : UInt8),(48 : UInt8),(48 : UInt8)]) (0 : Nat) (Int.toNat x2)))) (
      none )) (
    ac (decide (x2 ≤ (128 : Int))) (
      Option.bind (D8 N (ByteArray.mk #[(61 : UInt8),(61 : UInt8),(61 : UInt8),(61 : UInt8),(61 : UInt8),(61 : UInt8),(61 : UInt8),(61 : UInt8),(61 : UInt8),(61 : UInt8),(61 : UInt8),(61 : UInt8),(61 : UInt8),(61 : UInt8),(61 : UInt8),(61 : UInt8),(61 : UInt8),(61 : UInt8),(61 : UInt8),(61 : UInt8),(61 : UInt8),(61 : UInt8),(61 : UInt8),(61 : UInt8),(61 : UInt8),(61 : UInt8),(61 : UInt8),(61 : UInt8),(61 : UInt8),(61 : UInt8),(61 : UInt8),(61 : UInt8),(61 : UInt8),(61 : UInt8),(61 : UInt8),(61 : UInt8),(61 : UInt8),(61 : UInt8),(61 : UInt8),(61 : UInt8),(61 : UInt8),(61 : UInt8),(61 : UInt8),(61 : UInt8),(61 : UInt8),(61 : UInt8),(61 : UInt8),(61 : UInt8),(61 : UInt8),(61 : UInt8),(61 : UInt8),(61 : UInt8),(61 : UInt8),(61 : UInt8),(61 : UInt8),(61 : UInt8),(61 : UInt8),(61 : UInt8),(61 : UInt8),(61 : UInt8),(61 : UInt8),(61 : UInt8),(61 : UInt8),(61 : UInt8),(61 : UInt8),(61 : UInt8),(61 : UInt8),(61 : UInt8),(61 : UInt8),(61 : UInt8),(61 : UInt8),(61 : UInt8),(61 : UInt8),(61 : UInt8),(61 : UInt8),(61 : UInt8),(61 : UInt8),(61 : UInt8),(61 : UInt8),(61 : UInt8),(61 : UInt8),(61 : UInt8),(61 : UInt8),(61 : UInt8),(61 : UInt8),(61 : UInt8),(61 : UInt8),(61 : UInt8),(61 : UInt8),(61 : UInt8),(61 : UInt8),(61 : UInt8),(61 : UInt8),(61 : UInt8),(61 : UInt8),(61 : UInt8),(61 : UInt8),(61 : UInt8),(61 : UInt8),(61 : UInt8),(61 : UInt8),(61 : UInt8),(61 : UInt8),(61 : UInt8),(61 : UInt8),(61 : UInt8),(61 : UInt8),(61 : UInt8),(61 : UInt8),(61 : UInt8),(61 : UInt8),(61 : UInt8),(61 : UInt8),(61 : UInt8),(61 : UInt8),(61 : UInt8),(61 : UInt8),(61 : UInt8),(61 : UInt8),(61 : UInt8),(61 : UInt8),(61 : UInt8),(61 : UInt8),(61 : UInt8),(61 : UInt8),(61 : UInt8),(61 : UInt8),(61 : UInt8)],x1)) fun y0 =>
      ac (y0) (
        ac (decide ((0 : Int) ≤ x2 ∧ x2 ≤ (128 : Int))) (
          some (.inl (ByteArray.extract (ByteArray.mk #[(61 : UInt8),(61 : UInt8),(61 : UInt8),(61 : UInt8),(61 : UInt8),(61 : UInt8),(61 : UInt8),(61 : UInt8),(61 : UInt8),(61 : UInt8),(61 : UInt8),(61 : UInt8),(61 : UInt8),(61 : UInt8),(61 : UInt8),(61 : UInt8),(61 : UInt8),(61 : UInt8),(61 : UInt8),(61 : UInt8),(61 : UInt8),(61 : UInt8),(61 : UInt8),(61 : UInt8),(61 : UInt8),(61 : UInt8),(61 : UInt8),(61 : UInt8),(61 : UInt8),(61 : UInt8),(61 : UInt8),(61 : UInt8),(61 : UInt8),(61 : UInt8),(61 : UInt8),(61 : UInt8),(61 : UInt8),(61 : UInt8),(61 : UInt8),(61 : UInt8),(61 : UInt8),(61 : UInt8),(61 : UInt8),(61 : UInt8),(61 : UInt8),(61 : UInt8),(61 : UInt8),(61 : UInt8),(61 : UInt8),(61 : UInt8),(61 : UInt8),(61 : UInt8),(61 : UInt8),(61 : UInt8),(61 : UInt8),(61 : UInt8),(61 : UInt8),(61 : UInt8),(61 : UInt8),(61 : UInt8),(61 : UInt8),(61 : UInt8),(61 : UInt8),(61 : UInt8),(61 : UInt8),(61 : UInt8),(61 : UInt8),(61 : UInt8),(61 : UInt8),(61 : UInt8),(61 : UInt8),(61 : UInt8),(61 : UInt8),(61 : UInt8),(61 : UInt8),(61 : UInt8),(61 : UInt8),(61 : UInt8),(61 : UInt8),(61 : UInt8),(61 : UInt8),(61 : UInt8),(61 : UInt8),(61 : UInt8),(61 : UInt8),(61 : UInt8),(61 : UInt8),(61 : UInt8),(61 : UInt8),(61 : UInt8),(61 : UInt8),(61 : UInt8),(61 : UInt8),(61 : UInt8),(61 : UInt8),(61 : UInt8),(61 : UInt8),(61 : UInt8),(61 : UInt8),(61 : UInt8),(61 : UInt8),(61 : UInt8),(61 : UInt8),(61 : UInt8),(61 : UInt8),(61 : UInt8),(61 : UInt8),(61 : UInt8),(61 : UInt8),(61 : UInt8),(61 : UInt8),(61 : UInt8),(61 : UInt8),(61 : UInt8),(61 : UInt8),(61 : UInt8),(61 : UInt8),(61 : UInt8),(61 : UInt8),(61 : UInt8),(61 : UInt8),(61 : UInt8),(61 : UInt8),(61 : UInt8),(61 : UInt8),(61 : UInt8),(61 : UInt8),(61 : UInt8)]) (0 : Nat) (Int.toNat x2)))) (
          none )) (
        ac (decide (x2 ≤ (64 : Int))) (
          Option.bind (D8 N (ByteArray.mk #[(9 : UInt8),(9 : UInt8),(9 : UInt8),(9 : UInt8),(9 : UInt8),(9 : UInt8),(9 : UInt8),(9 : UInt8),(9 : UInt8),(9 : UInt8),(9 : UInt8),(9 : UInt8),(9 : UInt8),(9 : UInt8),(9 : UInt8),(9 : UInt8),(9 : UInt8),(9 : UInt8),(9 : UInt8),(9 : UInt8),(9 : UInt8),(9 : UInt8),(9 : UInt8),(9 : UInt8),(9 : UInt8),(9 : UInt8),(9 : UInt8),(9 : UInt8),(9 : UInt8),(9 : UInt8),(9 : UInt8),(9 : UInt8),(9 : UInt8),(9 : UInt8),(9 : UInt8),(9 : UInt8),(9 : UInt8),(9 : UInt8),(9 : UInt8),(9 : UInt8),(9 : UInt8),(9 : UInt8),(9 : UInt8),(9 : UInt8),(9 : UInt8),(9 : UInt8),(9 : UInt8),(9 : UInt8),(9 : UInt8),(9 : UInt8),(9 : UInt8),(9 : UInt8),(9 : UInt8),(9 : UInt8),(9 : UInt8),(9 : UInt8),(9 : UInt8),(9 : UInt8),(9 : UInt8),(9 : UInt8),(9 : UInt8),(9 : UInt8),(9 : UInt8),(9 : UInt8)],x1)) fun y1 =>
          ac (y1) (
            ac (decide ((0 : Int) ≤ x2 ∧ x2 ≤ (64 : Int))) (
              some (.inl (ByteArray.extract (ByteArray.mk #[(9 : UInt8),(9 : UInt8),(9 : UInt8),(9 : UInt8),(9 : UInt8),(9 : UInt8),(9 : UInt8),(9 : UInt8),(9 : UInt8),(9 : UInt8),(9 : UInt8),(9 : UInt8),(9 : UInt8),(9 : UInt8),(9 : UInt8),(9 : UInt8),(9 : UInt8),(9 : UInt8),(9 : UInt8),(9 : UInt8),(9 : UInt8),(9 : UInt8),(9 : UInt8),(9 : UInt8),(9 : UInt8),(9 : UInt8),(9 : UInt8),(9 : UInt8),(9 : UInt8),(9 : UInt8),(9 : UInt8),(9 : UInt8),(9 : UInt8),(9 : UInt8),(9 : UInt8),(9 : UInt8),(9 : UInt8),(9 : UInt8),(9 : UInt8),(9 : UInt8),(9 : UInt8),(9 : UInt8),(9 : UInt8),(9 : UInt8),(9 : UInt8),(9 : UInt8),(9 : UInt8),(9 : UInt8),(9 : UInt8),(9 : UInt8),(9 : UInt8),(9 : UInt8),(9 : UInt8),(9 : UInt8),(9 : UInt8),(9 : UInt8),(9 : UInt8),(9 : UInt8),(9 : UInt8),(9 : UInt8),(9 : UInt8),(9 : UInt8),(9 : UInt8),(9 : UInt8)]) (0 : Nat) (Int.toNat x2)))) (
              none )) (
            some (.inr ((x1,x2))))) (
          some (.inr ((x1,x2)))))) (
      ac (decide (x2 ≤ (64 : Int))) (
        Option.bind (D8 N (ByteArray.mk #[(9 : UInt8),(9 : UInt8),(9 : UInt8),(9 : UInt8),(9 : UInt8),(9 : UInt8),(9 : UInt8),(9 : UInt8),(9 : UInt8),(9 : UInt8),(9 : UInt8),(9 : UInt8),(9 : UInt8),(9 : UInt8),(9 : UInt8),(9 : UInt8),(9 : UInt8),(9 : UInt8),(9 : UInt8),(9 : UInt8),(9 : UInt8),(9 : UInt8),(9 : UInt8),(9 : UInt8),(9 : UInt8),(9 : UInt8),(9 : UInt8),(9 : UInt8),(9 : UInt8),(9 : UInt8),(9 : UInt8),(9 : UInt8),(9 : UInt8),(9 : UInt8),(9 : UInt8),(9 : UInt8),(9 : UInt8),(9 : UInt8),(9 : UInt8),(9 : UInt8),(9 : UInt8),(9 : UInt8),(9 : UInt8),(9 : UInt8),(9 : UInt8),(9 : UInt8),(9 : UInt8),(9 : UInt8),(9 : UInt8),(9 : UInt8),(9 : UInt8),(9 : UInt8),(9 : UInt8),(9 : UInt8),(9 : UInt8),(9 : UInt8),(9 : UInt8),(9 : UInt8),(9 : UInt8),(9 : UInt8),(9 : UInt8),(9 : UInt8),(9 : UInt8),(9 : UInt8)],x1)) fun y2 =>
        ac (y2) (
          ac (decide ((0 : Int) ≤ x2 ∧ x2 ≤ (64 : Int))) (
            some (.inl (ByteArray.extract (ByteArray.mk #[(9 : UInt8),(9 : UInt8),(9 : UInt8),(9 : UInt8),(9 : UInt8),(9 : UInt8),(9 : UInt8),(9 : UInt8),(9 : UInt8),(9 : UInt8),(9 : UInt8),(9 : UInt8),(9 : UInt8),(9 : UInt8),(9 : UInt8),(9 : UInt8),(9 : UInt8),(9 : UInt8),(9 : UInt8),(9 : UInt8),(9 : UInt8),(9 : UInt8),(9 : UInt8),(9 : UInt8),(9 : UInt8),(9 : UInt8),(9 : UInt8),(9 : UInt8),(9 : UInt8),(9 : UInt8),(9 : UInt8),(9 : UInt8),(9 : UInt8),(9 : UInt8),(9 : UInt8),(9 : UInt8),(9 : UInt8),(9 : UInt8),(9 : UInt8),(9 : UInt8),(9 : UInt8),(9 : UInt8),(9 : UInt8),(9 : UInt8),(9 : UInt8),(9 : UInt8),(9 : UInt8),(9 : UInt8),(9 : UInt8),(9 : UInt8),(9 : UInt8),(9 : UInt8),(9 : UInt8),(9 : UInt8),(9 : UInt8),(9 : UInt8),(9 : UInt8),(9 : UInt8),(9 : UInt8),(9 : UInt8),(9 : UInt8),(9 : UInt8),(9 : UInt8),(9 : UInt8)]) (0 : Nat) (Int.toNat x2)))) (
            none )) (
          some (.inr ((x1,x2))))) (
        some (.inr ((x1,x2))))))
noncomputable def br (N : Nat) (_ : Nat) : Cut := p6.cut (eW N)
theorem aY (N : Nat) (k : Nat) : aj Tryz.prog false Tryz.f268 [] 522911 (br N k) :=
  p6.pieceT af al (b6 N) Tryz.f268 [] (cuts := []) trivial (by decide +kernel) (by kernel_rfl) (eW N) (fun x => by kernel_rfl)
@[reducible] def p7 : LD := ⟨130727,[58,0,7],[(.ret,[4]),(.exit 2,[0,7]),(.exit 1,[0,7]),(.normal,[0,7])],⟨[.bool,.str,.int .i64],[]⟩,[(.ret,⟨[.str],[]⟩),(.normal,⟨[.str,.int .i64],[]⟩)]⟩
noncomputable def eX (N : Nat) : (Bool × ByteArray × Int) → Option (((ByteArray) ⊕ (ByteArray × Int)))
  | (x0,x1,x2) =>
  ac (x0) (
    ac (decide ((0 : Int) ≤ x2 ∧ x2 ≤ (128 : Int))) (
      some (.inl (ByteArray.extract (ByteArray.mk #[(45 : UInt8),(45 : UInt8),(45 : UInt8),(45 : UInt8),(45 : UInt8),(45 : UInt8),(45 : UInt8),(45 : UInt8),(45 : UInt8),(45 : UInt8),(45 : UInt8),(45 : UInt8),(45 : UInt8),(45 : UInt8),(45 : UInt8),(45 : UInt8),(45 : UInt8),(45 : UInt8),(45 : UInt8),(45 : UInt8),(45 : UInt8),(45 : UInt8),(45 : UInt8),(45 : UInt8),(45 : UInt8),(45 : UInt8),(45 : UInt8),(45 : UInt8),(45 : UInt8),(45 : UInt8),(45 : UInt8),(45 : UInt8),(45 : UInt8),(45 : UInt8),(45 : UInt8),(45 : UInt8),(45 : UInt8),(45 : UInt8),(45 : UInt8),(45 : UInt8),(45 : UInt8),(45 : UInt8),(45 : UInt8),(45 : UInt8),(45 : UInt8),(45 : UInt8),(45 : UInt8),(45 : UInt8),(45 : UInt8),(45 : UInt8),(45 : UInt8),(45 : UInt8),(45 : UInt8),(45 : UInt8),(45 : UInt8),(45 : UInt8),(45 : UInt8),(45 : UInt8),(45 : UInt8),(45 : UInt8),(45 : UInt8),(45 : UInt8),(45 : UInt8),(45 : UInt8),(45 : UInt8),(45 : UInt8),(45 : UInt8),(45 : UInt8),(45 : UInt8),(45 : UInt8),(45 : UInt8),(45 : UInt8),(45 : UInt8),(45 : UInt8),(45 : UInt8),(45 : UInt8),(45 : UInt8),(45 : UInt8),(45 : UInt8),(45 : UInt8),(45 : UInt8),(45 : UInt8),(45 : UInt8),(45 : UInt8),(45 : UInt8),(45 : UInt8),(45 : UInt8),(45 : UInt8),(45 : UInt8),(45 : UInt8),(45 : UInt8),(45 : UInt8),(45 : UInt8),(45 : UInt8),(45 : UInt8),(45 : UInt8),(45 : UInt8),(45 : UInt8),(45 : UInt8),(45 : UInt8),(45 : UInt8),(45 : UInt8),(45 : UInt8),(45 : UInt8),(45 : UInt8),(45 : UInt8),(45 : UInt8),(45 : UInt8),(45 : UInt8),(45 : UInt8),(45 : UInt8),(45 : UInt8),(45 : UInt8),(45 : UInt8),(45 : UInt8),(45 : UInt8),(45 : UInt8),(45 : UInt8),(45 : UInt8),(45 : UInt8),(45 : UInt8),(45 : UInt8),(45 : UInt8),(45 : UInt8),(45 : UInt8),(45 : UInt8),(45 : UInt8),(45 : UInt8)]) (0 : Nat) (Int.toNat x2)))) (
      none )) (
    ac (decide (x2 ≤ (64 : Int))) (
      Option.bind (D8 N (ByteArray.mk #[(48 : UInt8),(48 : UInt8),(48 : UInt8),(48 : UInt8),(48 : UInt8),(48 : UInt8),(48 : UInt8),(48 : UInt8),(48 : UInt8),(48 : UInt8),(48 : UInt8),(48 : UInt8),(48 : UInt8),(48 : UInt8),(48 : UInt8),(48 : UInt8),(48 : UInt8),(48 : UInt8),(48 : UInt8),(48 : UInt8),(48 : UInt8),(48 : UInt8),(48 : UInt8),(48 : UInt8),(48 : UInt8),(48 : UInt8),(48 : UInt8),(48 : UInt8),(48 : UInt8),(48 : UInt8),(48 : UInt8),(48 : UInt8),(48 : UInt8),(48 : UInt8),(48 : UInt8),(48 : UInt8),(48 : UInt8),(48 : UInt8),(48 : UInt8),(48 : UInt8),(48 : UInt8),(48 : UInt8),(48 : UInt8),(48 : UInt8),(48 : UInt8),(48 : UInt8),(48 : UInt8),(48 : UInt8),(48 : UInt8),(48 : UInt8),(48 : UInt8),(48 : UInt8),(48 : UInt8),(48 : UInt8),(48 : UInt8),(48 : UInt8),(48 : UInt8),(48 : UInt8),(48 : UInt8),(48 : UInt8),(48 : UInt8),(48 : UInt8),(48 : UInt8),(48 : UInt8)],x1)) fun y0 =>
      Option.bind (eW N (y0,x1,x2)) fun y1 =>
      match y1 with
      | .inl y2 =>
        some (.inl (y2))
      | .inr y2 =>
        some (.inr ((y2.1,y2.2)))) (
      Option.bind (eW N (false,x1,x2)) fun y3 =>
      match y3 with
      | .inl y4 =>
        some (.inl (y4))
      | .inr y4 =>
        some (.inr ((y4.1,y4.2)))))
noncomputable def bI (N : Nat) (_ : Nat) : Cut := p7.cut (eX N)
theorem bk (N : Nat) (k : Nat) : aj Tryz.prog false Tryz.f268 [] 130727 (bI N k) :=
  p7.pieceT af al (b6 N) Tryz.f268 [] (cuts := [(522911,br N N)]) ⟨aY N N,trivial⟩ (by decide +kernel) (by kernel_rfl) (eX N) (fun x => by kernel_rfl)
@[reducible] def uF : LD := ⟨32681,[49,0,7],[(.ret,[4]),(.exit 2,[0,7]),(.exit 1,[0,7]),(.normal,[0,7])],⟨[.bool,.str,.int .i64],[]⟩,[(.ret,⟨[.str],[]⟩),(.normal,⟨[.str,.int .i64],[]⟩)]⟩
noncomputable def gZ (N : Nat) : (Bool × ByteArray × Int) → Option (((ByteArray) ⊕ (ByteArray × Int)))
  | (x0,x1,x2) =>
  ac (x0) (
    ac (decide ((0 : Int) ≤ x2 ∧ x2 ≤ (128 : Int))) (
      some (.inl (ByteArray.extract (ByteArray.mk #[(32 : UInt8),(32 : UInt8),(32 : UInt8),(32 : UInt8),(32 : UInt8),(32 : UInt8),(32 : UInt8),(32 : UInt8),(32 : UInt8),(32 : UInt8),(32 : UInt8),(32 : UInt8),(32 : UInt8),(32 : UInt8),(32 : UInt8),(32 : UInt8),(32 : UInt8),(32 : UInt8),(32 : UInt8),(32 : UInt8),(32 : UInt8),(32 : UInt8),(32 : UInt8),(32 : UInt8),(32 : UInt8),(32 : UInt8),(32 : UInt8),(32 : UInt8),(32 : UInt8),(32 : UInt8),(32 : UInt8),(32 : UInt8),(32 : UInt8),(32 : UInt8),(32 : UInt8),(32 : UInt8),(32 : UInt8),(32 : UInt8),(32 : UInt8),(32 : UInt8),(32 : UInt8),(32 : UInt8),(32 : UInt8),(32 : UInt8),(32 : UInt8),(32 : UInt8),(32 : UInt8),(32 : UInt8),(32 : UInt8),(32 : UInt8),(32 : UInt8),(32 : UInt8),(32 : UInt8),(32 : UInt8),(32 : UInt8),(32 : UInt8),(32 : UInt8),(32 : UInt8),(32 : UInt8),(32 : UInt8),(32 : UInt8),(32 : UInt8),(32 : UInt8),(32 : UInt8),(32 : UInt8),(32 : UInt8),(32 : UInt8),(32 : UInt8),(32 : UInt8),(32 : UInt8),(32 : UInt8),(32 : UInt8),(32 : UInt8),(32 : UInt8),(32 : UInt8),(32 : UInt8),(32 : UInt8),(32 : UInt8),(32 : UInt8),(32 : UInt8),(32 : UInt8),(32 : UInt8),(32 : UInt8),(32 : UInt8),(32 : UInt8),(32 : UInt8),(32 : UInt8),(32 : UInt8),(32 : UInt8),(32 : UInt8),(32 : UInt8),(32 : UInt8),(32 : UInt8),(32 : UInt8),(32 : UInt8),(32 : UInt8),(32 : UInt8),(32 : UInt8),(32 : UInt8),(32 : UInt8),(32 : UInt8),(32 : UInt8),(32 : UInt8),(32 : UInt8),(32 : UInt8),(32 : UInt8),(32 : UInt8),(32 : UInt8),(32 : UInt8),(32 : UInt8),(32 : UInt8),(32 : UInt8),(32 : UInt8),(32 : UInt8),(32 : UInt8),(32 : UInt8),(32 : UInt8),(32 : UInt8),(32 : UInt8),(32 : UInt8),(32 : UInt8),(32 : UInt8),(32 : UInt8),(32 : UInt8),(32 : UInt8),(32 : UInt8),(32 : UInt8),(32 : UInt8)]) (0 : Nat) (Int.toNat x2)))) (
      none )) (
    ac (decide (x2 ≤ (128 : Int))) (
      Option.bind (D8 N (ByteArray.mk #[(45 : UInt8),(45 : UInt8),(45 : UInt8),(45 : UInt8),(45 : UInt8),(45 : UInt8),(45 : UInt8),(45 : UInt8),(45 : UInt8),(45 : UInt8),(45 : UInt8),(45 : UInt8),(45 : UInt8),(45 : UInt8),(45 : UInt8),(45 : UInt8),(45 : UInt8),(45 : UInt8),(45 : UInt8),(45 : UInt8),(45 : UInt8),(45 : UInt8),(45 : UInt8),(45 : UInt8),(45 : UInt8),(45 : UInt8),(45 : UInt8),(45 : UInt8),(45 : UInt8),(45 : UInt8),(45 : UInt8),(45 : UInt8),(45 : UInt8),(45 : UInt8),(45 : UInt8),(45 : UInt8),(45 : UInt8),(45 : UInt8),(45 : UInt8),(45 : UInt8),(45 : UInt8),(45 : UInt8),(45 : UInt8),(45 : UInt8),(45 : UInt8),(45 : UInt8),(45 : UInt8),(45 : UInt8),(45 : UInt8),(45 : UInt8),(45 : UInt8),(45 : UInt8),(45 : UInt8),(45 : UInt8),(45 : UInt8),(45 : UInt8),(45 : UInt8),(45 : UInt8),(45 : UInt8),(45 : UInt8),(45 : UInt8),(45 : UInt8),(45 : UInt8),(45 : UInt8),(45 : UInt8),(45 : UInt8),(45 : UInt8),(45 : UInt8),(45 : UInt8),(45 : UInt8),(45 : UInt8),(45 : UInt8),(45 : UInt8),(45 : UInt8),(45 : UInt8),(45 : UInt8),(45 : UInt8),(45 : UInt8),(45 : UInt8),(45 : UInt8),(45 : UInt8),(45 : UInt8),(45 : UInt8),(45 : UInt8),(45 : UInt8),(45 : UInt8),(45 : UInt8),(45 : UInt8),(45 : UInt8),(45 : UInt8),(45 : UInt8),(45 : UInt8),(45 : UInt8),(45 : UInt8),(45 : UInt8),(45 : UInt8),(45 : UInt8),(45 : UInt8),(45 : UInt8),(45 : UInt8),(45 : UInt8),(45 : UInt8),(45 : UInt8),(45 : UInt8),(45 : UInt8),(45 : UInt8),(45 : UInt8),(45 : UInt8),(45 : UInt8),(45 : UInt8),(45 : UInt8),(45 : UInt8),(45 : UInt8),(45 : UInt8),(45 : UInt8),(45 : UInt8),(45 : UInt8),(45 : UInt8),(45 : UInt8),(45 : UInt8),(45 : UInt8),(45 : UInt8),(45 : UInt8),(45 : UInt8),(45 : UInt8),(45 : UInt8),(45 : UInt8),(45 : UInt8)],x1)) fun y0 =>
      Option.bind (eX N (y0,x1,x2)) fun y1 =>
      match y1 with
      | .inl y2 =>
        some (.inl (y2))
      | .inr y2 =>
        some (.inr ((y2.1,y2.2)))) (
      Option.bind (eX N (false,x1,x2)) fun y3 =>
      match y3 with
      | .inl y4 =>
        some (.inl (y4))
      | .inr y4 =>
        some (.inr ((y4.1,y4.2)))))
noncomputable def cv (N : Nat) (_ : Nat) : Cut := uF.cut (gZ N)
theorem bO (N : Nat) (k : Nat) : aj Tryz.prog false Tryz.f268 [] 32681 (cv N k) :=
  uF.pieceT af al (b6 N) Tryz.f268 [] (cuts := [(522911,br N N),(130727,bI N N)]) ⟨aY N N,bk N N,trivial⟩ (by decide +kernel) (by kernel_rfl) (gZ N) (fun x => by kernel_rfl)
@[reducible] def xt : LD := ⟨4085,[43,0,7],[(.ret,[4]),(.exit 1,[0,7]),(.normal,[0,7])],⟨[.bool,.str,.int .i64],[]⟩,[(.ret,⟨[.str],[]⟩),(.normal,⟨[.str,.int .i64],[]⟩)]⟩
noncomputable def di (N : Nat) : (Bool × ByteArray × Int) → Option (((ByteArray) ⊕ (ByteArray × Int)))
  | (x0,x1,x2) =>
  ac (x0) (
    ac (decide (x2 ≤ (128 : Int))) (
      Option.bind (D8 N (ByteArray.mk #[(32 : UInt8),(32 : UInt8),(32 : UInt8),(32 : UInt8),(32 : UInt8),(32 : UInt8),(32 : UInt8),(32 : UInt8),(32 : UInt8),(32 : UInt8),(32 : UInt8),(32 : UInt8),(32 : UInt8),(32 : UInt8),(32 : UInt8),(32 : UInt8),(32 : UInt8),(32 : UInt8),(32 : UInt8),(32 : UInt8),(32 : UInt8),(32 : UInt8),(32 : UInt8),(32 : UInt8),(32 : UInt8),(32 : UInt8),(32 : UInt8),(32 : UInt8),(32 : UInt8),(32 : UInt8),(32 : UInt8),(32 : UInt8),(32 : UInt8),(32 : UInt8),(32 : UInt8),(32 : UInt8),(32 : UInt8),(32 : UInt8),(32 : UInt8),(32 : UInt8),(32 : UInt8),(32 : UInt8),(32 : UInt8),(32 : UInt8),(32 : UInt8),(32 : UInt8),(32 : UInt8),(32 : UInt8),(32 : UInt8),(32 : UInt8),(32 : UInt8),(32 : UInt8),(32 : UInt8),(32 : UInt8),(32 : UInt8),(32 : UInt8),(32 : UInt8),(32 : UInt8),(32 : UInt8),(32 : UInt8),(32 : UInt8),(32 : UInt8),(32 : UInt8),(32 : UInt8),(32 : UInt8),(32 : UInt8),(32 : UInt8),(32 : UInt8),(32 : UInt8),(32 : UInt8),(32 : UInt8),(32 : UInt8),(32 : UInt8),(32 : UInt8),(32 : UInt8),(32 : UInt8),(32 : UInt8),(32 : UInt8),(32 : UInt8),(32 : UInt8),(32 : UInt8),(32 : UInt8),(32 : UInt8),(32 : UInt8),(32 : UInt8),(32 : UInt8),(32 : UInt8),(32 : UInt8),(32 : UInt8),(32 : UInt8),(32 : UInt8),(32 : UInt8),(32 : UInt8),(32 : UInt8),(32 : UInt8),(32 : UInt8),(32 : UInt8),(32 : UInt8),(32 : UInt8),(32 : UInt8),(32 : UInt8),(32 : UInt8),(32 : UInt8),(32 : UInt8),(32 : UInt8),(32 : UInt8),(32 : UInt8),(32 : UInt8),(32 : UInt8),(32 : UInt8),(32 : UInt8),(32 : UInt8),(32 : UInt8),(32 : UInt8),(32 : UInt8),(32 : UInt8),(32 : UInt8),(32 : UInt8),(32 : UInt8),(32 : UInt8),(32 : UInt8),(32 : UInt8),(32 : UInt8),(32 : UInt8),(32 : UInt8),(32 : UInt8),(32 : UInt8),(32 : UInt8)],x1)) fun y0 =>
      Option.bind (gZ N (y0,x1,x2)) fun y1 =>
      match y1 with
      | .inl y2 =>
        some (.inl (y2))
      | .inr y2 =>
        some (.inr ((y2.1,y2.2)))) (
      Option.bind (gZ N (false,x1,x2)) fun y3 =>
      match y3 with
      | .inl y4 =>
        some (.inl (y4))
      | .inr y4 =>
        some (.inr ((y4.1,y4.2))))) (
    some (.inr ((x1,x2))))
noncomputable def dY (N : Nat) (_ : Nat) : Cut := xt.cut (di N)
theorem cS (N : Nat) (k : Nat) : aj Tryz.prog false Tryz.f268 [] 4085 (dY N k) :=
  xt.pieceT af al (b6 N) Tryz.f268 [] (cuts := [(522911,br N N),(130727,bI N N),(32681,cv N N)]) ⟨aY N N,bk N N,bO N N,trivial⟩ (by decide +kernel) (by kernel_rfl) (di N) (fun x => by kernel_rfl)
@[reducible] def xu : LD := ⟨2047,[0,7,8],[(.ret,[4]),(.normal,[4])],⟨[.str,.int .i64,.int .i64],[]⟩,[]⟩
noncomputable def ga (N : Nat) : (ByteArray × Int × Int) → Option (Unit)
  | (x0,x1,x2) =>
  Option.bind (aj2 N (x1,[])) fun y0 =>
  none
noncomputable def gj (N : Nat) (_ : Nat) : Cut := xu.cut (ga N)
theorem dT (N : Nat) (k : Nat) : aj Tryz.prog false Tryz.f268 [] 2047 (gj N k) :=
  xu.pieceT af al (b6 N) Tryz.f268 [] (cuts := [(522911,br N N),(130727,bI N N),(32681,cv N N),(4085,dY N N)]) ⟨aY N N,bk N N,bO N N,cS N N,trivial⟩ (by decide +kernel) (by kernel_rfl) (ga N) (fun x => by kernel_rfl)
@[reducible] def Ds : LD := ⟨511,[0,7],[(.ret,[4]),(.normal,[4])],⟨[.str,.int .i64],[]⟩,[]⟩
noncomputable def ez (N : Nat) : (ByteArray × Int) → Option (Unit)
  | (x0,x1) =>
  ac (decide (x1 > (8192 : Int))) (
    ac (decide ((↑(ByteArray.size x0) : Int) = (0 : Int))) (
      none ) (
      ac (IntKind.wrap IntKind.i64 (IntKind.wrap IntKind.i64 (Int.tdiv (8192 : Int) (↑(ByteArray.size x0) : Int)) * (↑(ByteArray.size x0) : Int)) == (0 : Int)) (
        Option.bind (ga N (x0,x1,(↑(ByteArray.size x0) : Int))) fun y0 =>
        none) (
        Option.bind (ga N (x0,x1,IntKind.wrap IntKind.i64 (IntKind.wrap IntKind.i64 (Int.tdiv (8192 : Int) (↑(ByteArray.size x0) : Int)) * (↑(ByteArray.size x0) : Int)))) fun y1 =>
        none))) (
    Option.bind (ga N (x0,x1,x1)) fun y2 =>
    none)
noncomputable def nx (N : Nat) (_ : Nat) : Cut := Ds.cut (ez N)
theorem jD (N : Nat) (k : Nat) : aj Tryz.prog false Tryz.f268 [] 511 (nx N k) :=
  Ds.pieceT af al (b6 N) Tryz.f268 [] (cuts := [(522911,br N N),(130727,bI N N),(32681,cv N N),(4085,dY N N),(2047,gj N N)]) ⟨aY N N,bk N N,bO N N,cS N N,dT N N,trivial⟩ (by decide +kernel) (by kernel_rfl) (ez N) (fun x => by kernel_rfl)
@[reducible] def JN : LD := ⟨63,[6,0],[(.ret,[4]),(.normal,[4])],⟨[.int .u64,.str],[]⟩,[(.ret,⟨[.str],[]⟩)]⟩
noncomputable def Bp (N : Nat) : (Int × ByteArray) → Option (ByteArray)
  | (x0,x1) =>
  ac ((↑(ByteArray.size x1) : Int) == (0 : Int)) (
    some (ByteArray.mk #[])) (
    Option.bind (x1[(0 : Nat)]?) fun y0 =>
    ac ((↑(UInt8.toNat y0) : Int) == (32 : Int)) (
      Option.bind (di N (true,x1,IntKind.wrap IntKind.i64 x0)) fun y1 =>
      match y1 with
      | .inl y2 =>
        some (y2)
      | .inr y2 =>
        Option.bind (ez N (y2.1,y2.2)) fun y3 =>
        none) (
      ac ((↑(UInt8.toNat y0) : Int) == (45 : Int)) (
        Option.bind (di N (true,x1,IntKind.wrap IntKind.i64 x0)) fun y4 =>
        match y4 with
        | .inl y5 =>
          some (y5)
        | .inr y5 =>
          Option.bind (ez N (y5.1,y5.2)) fun y6 =>
          none) (
        ac ((↑(UInt8.toNat y0) : Int) == (48 : Int)) (
          Option.bind (di N (true,x1,IntKind.wrap IntKind.i64 x0)) fun y7 =>
          match y7 with
          | .inl y8 =>
            some (y8)
          | .inr y8 =>
            Option.bind (ez N (y8.1,y8.2)) fun y9 =>
            none) (
          ac ((↑(UInt8.toNat y0) : Int) == (61 : Int)) (
            Option.bind (di N (true,x1,IntKind.wrap IntKind.i64 x0)) fun y10 =>
            match y10 with
            | .inl y11 =>
              some (y11)
            | .inr y11 =>
              Option.bind (ez N (y11.1,y11.2)) fun y12 =>
              none) (
            Option.bind (di N ((↑(UInt8.toNat y0) : Int) == (9 : Int),x1,IntKind.wrap IntKind.i64 x0)) fun y13 =>
            match y13 with
            | .inl y14 =>
              some (y14)
            | .inr y14 =>
              Option.bind (ez N (y14.1,y14.2)) fun y15 =>
              none)))))
noncomputable def BH (N : Nat) (_ : Nat) : Cut := JN.cut (Bp N)
theorem uX (N : Nat) (k : Nat) : aj Tryz.prog false Tryz.f268 [] 63 (BH N k) :=
  JN.pieceT af al (b6 N) Tryz.f268 [] (cuts := [(522911,br N N),(130727,bI N N),(32681,cv N N),(4085,dY N N),(2047,gj N N),(511,nx N N)]) ⟨aY N N,bk N N,bO N N,cS N N,dT N N,jD N N,trivial⟩ (by decide +kernel) (by kernel_rfl) (Bp N) (fun x => by kernel_rfl)
@[reducible] def JO : LD := ⟨15,[1,0],[(.ret,[4]),(.normal,[4])],⟨[.int .i64,.str],[]⟩,[(.ret,⟨[.str],[]⟩)]⟩
noncomputable def Bq (N : Nat) : (Int × ByteArray) → Option (ByteArray)
  | (x0,x1) =>
  Option.bind (aj7 N (IntKind.wrap IntKind.u64 (↑(ByteArray.size x1) : Int),IntKind.wrap IntKind.u64 x0)) fun y0 =>
  ac (decide (y0.1 > (0 : Int))) (
    none ) (
    ac (decide (y0.2 > (9223372036854775807 : Int))) (
      none ) (
      Option.bind (Bp N (y0.2,x1)) fun y1 =>
      some (y1)))
noncomputable def KF (N : Nat) (_ : Nat) : Cut := JO.cut (Bq N)
theorem HM (N : Nat) (k : Nat) : aj Tryz.prog false Tryz.f268 [] 15 (KF N k) :=
  JO.pieceT af al (b6 N) Tryz.f268 [] (cuts := [(522911,br N N),(130727,bI N N),(32681,cv N N),(4085,dY N N),(2047,gj N N),(511,nx N N),(63,BH N N)]) ⟨aY N N,bk N N,bO N N,cS N N,dT N N,jD N N,uX N N,trivial⟩ (by decide +kernel) (by kernel_rfl) (Bq N) (fun x => by kernel_rfl)
@[reducible] def w268 : List SP := [⟨[.str],[]⟩]
noncomputable def aj9 (N : Nat) : (ByteArray × Int) → Option (ByteArray)
  | (x0,x1) =>
  ac (x1 == (0 : Int)) (
    some (ByteArray.mk #[])) (
    ac (x1 == (1 : Int)) (
      some (x0)) (
      ac (decide (x1 < (0 : Int))) (
        none ) (
        Option.bind (Bq N (x1,x0)) fun y0 =>
        some (y0))))
noncomputable def aB5 (N : Nat) : Pk → Tr Pk := ag s268 w268 (aj9 N)
theorem Ut (N : Nat) : au Tryz.prog (268) (aB5 N) :=
  (ae af al (b6 N) Tryz.func268 s268 w268 [] (cuts := [(522911,br N N),(130727,bI N N),(32681,cv N N),(4085,dY N N),(2047,gj N N),(511,nx N N),(63,BH N N),(15,KF N N)]) ⟨aY N N,bk N N,bO N N,cS N N,dT N N,jD N N,uX N N,HM N N,trivial⟩ (fun _ => by kernel_rfl) (by decide +kernel) (aj9 N) (fun x => by kernel_rfl))
@[reducible] def s221 : SP := ⟨[.int .i64],[]⟩
noncomputable def Yw (N : Nat) : List (Nat × (Pk → Tr Pk)) := [(268,aB5 N),(154,NY N)]
theorem MM (N : Nat) : ah Tryz.prog (Yw N) := ⟨Ut N,mE N,trivial⟩
@[reducible] def w221 : List SP := [⟨[.str],[]⟩]
noncomputable def V3 (N : Nat) : (Int) → Option (ByteArray)
  | x0 =>
  Option.bind (aj9 N (ByteArray.mk #[(255 : UInt8)],IntKind.wrap IntKind.i64 (Int.tdiv (IntKind.wrap IntKind.i64 (x0 - (1 : Int))) (255 : Int)))) fun y0 =>
  Option.bind (vD N (Int.tmod (IntKind.wrap IntKind.i64 (x0 - (1 : Int))) (255 : Int))) fun y1 =>
  ac (decide ((↑(ByteArray.size y0 + ByteArray.size y1) : Int) > (9223372036854775807 : Int))) (
    none ) (
    some (y0 ++ y1))
noncomputable def af2 (N : Nat) : Pk → Tr Pk := ag s221 w221 (V3 N)
theorem Jb (N : Nat) : au Tryz.prog (221) (af2 N) :=
  (ae af al (MM N) Tryz.func221 s221 w221 [] (cuts := []) trivial (fun _ => by kernel_rfl) (by decide +kernel) (V3 N) (fun x => by kernel_rfl))
@[reducible] def s157 : SP := ⟨[.agg [.agg [.int .i64,.int .i64,.bool,.bool,.int .i64,.int .i64,.int .i64,.int .i64,.int .i64,.int .i64]],.ro y0],[]⟩
noncomputable def YY (N : Nat) : List (Nat × (Pk → Tr Pk)) := [(154,NY N),(155,QG N),(221,af2 N)]
theorem wB (N : Nat) : ah Tryz.prog (YY N) := ⟨mE N,qM N,Jb N,trivial⟩
@[reducible] def JY : LD := ⟨58,[5,11,10,9,2],[(.ret,[4]),(.exit 0,[5])],⟨[.str,.int .i64,.int .i64,.ro y0,.adr 0 []],[.var 140 (.agg [.agg [.int .i64,.int .i64,.bool,.bool,.int .i64,.int .i64,.int .i64,.int .i64,.int .i64,.int .i64]])]⟩,[(.exit 0,⟨[.str],[]⟩)]⟩
abbrev Bb : Type := ByteArray × Int × Int × (List (Int × (Int × Unit))) × Int × Int × Bool × Bool × Int × Int × Int × Int × Int × Int
abbrev Aw : Type := ByteArray
noncomputable def Lt (N : Nat) (f : Bb → Option Aw) : Bb → Option Aw
  | (x0,x1,x2,x3,x4,x5,x6,x7,x8,x9,x10,x11,x12,x13) =>
  ac (decide (x1 < x2)) (
    ac (within x1 (List.length x3)) (
      Option.bind (x3[Int.toNat x1]?) fun y0 =>
      Option.bind (Hb N (x4,x5,x6,x7,x8,x9,x10,x11,x12,x13,[y0.1])) fun y1 =>
      Option.bind (V3 N y0.2.1) fun y2 =>
      ac (decide ((↑(ByteArray.size y1 + ByteArray.size y2) : Int) > (9223372036854775807 : Int))) (
        none ) (
        ac (decide ((↑(ByteArray.size x0 + ByteArray.size (y1 ++ y2)) : Int) > (9223372036854775807 : Int))) (
          none ) (
          Option.bind (f (x0 ++ (y1 ++ y2),IntKind.wrap IntKind.i64 (x1 + (1 : Int)),x2,x3,x4,x5,x6,x7,x8,x9,x10,x11,x12,x13)) fun r => some r))) (
      none )) (
    some (x0))
noncomputable def ru (N : Nat) : Nat → Bb → Option Aw
  | 0,_ => none
  | k + 1,x => Lt N (ru N k) x
noncomputable def KP (N : Nat) (k : Nat) : Cut := JY.cut (ru N k)
theorem HW (N : Nat) (k : Nat) : aj Tryz.prog false Tryz.f157 [] 58 (KP N k) :=
  JY.loopT af al (wB N) Tryz.f157 [] (cuts := []) trivial (by decide +kernel) (by kernel_rfl) (Lt N) (ru N) (fun _ => rfl) (fun _ _ => rfl) (fun f x => by kernel_rfl) k
@[reducible] def w157 : List SP := [⟨[.str],[]⟩]
noncomputable def al3 (N : Nat) : (Int × Int × Bool × Bool × Int × Int × Int × Int × Int × Int × (List (Int × (Int × Unit)))) → Option (ByteArray)
  | (x0,x1,x2,x3,x4,x5,x6,x7,x8,x9,x10) =>
  Option.bind (vD N (128 : Int)) fun y0 =>
  Option.bind (ru N N (y0,(0 : Int),(↑(List.length x10) : Int),x10,x0,x1,x2,x3,x4,x5,x6,x7,x8,x9)) fun y1 =>
  some (y1)
noncomputable def aE8 (N : Nat) : Pk → Tr Pk := ag s157 w157 (al3 N)
theorem U3 (N : Nat) : au Tryz.prog (157) (aE8 N) :=
  (ae af al (wB N) Tryz.func157 s157 w157 [] (cuts := [(58,KP N N)]) ⟨HW N N,trivial⟩ (fun _ => by kernel_rfl) (by decide +kernel) (al3 N) (fun x => by kernel_rfl))
@[reducible] def s310 : SP := ⟨[.int .i64],[]⟩
noncomputable def XZ (N : Nat) : List (Nat × (Pk → Tr Pk)) := []
theorem Mr (N : Nat) : ah Tryz.prog (XZ N) := trivial
@[reducible] def w310 : List SP := [⟨[.int .i64],[]⟩]
noncomputable def Rm (N : Nat) : (Int) → Option (Int)
  | x0 =>
  some (if (32 : Int) < if (0 : Int) > x0 then (0 : Int) else x0 then (32 : Int) else if (0 : Int) > x0 then (0 : Int) else x0)
noncomputable def Ug (N : Nat) : Pk → Tr Pk := ag s310 w310 (Rm N)
theorem zA (N : Nat) : au Tryz.prog (310) (Ug N) :=
  (ae af al (Mr N) Tryz.func310 s310 w310 [] (cuts := []) trivial (fun _ => by kernel_rfl) (by decide +kernel) (Rm N) (fun x => by kernel_rfl))
@[reducible] def s311 : SP := ⟨[.int .i64,.int .i64],[]⟩
noncomputable def XY (N : Nat) : List (Nat × (Pk → Tr Pk)) := []
theorem Mq (N : Nat) : ah Tryz.prog (XY N) := trivial
@[reducible] def w311 : List SP := [⟨[.int .i64],[]⟩]
noncomputable def VT (N : Nat) : (Int × Int) → Option (Int)
  | (x0,x1) =>
  ac (decide (x0 < (0 : Int))) (
    none ) (
    some (IntKind.wrap IntKind.i64 (↑(BitVec.toNat (BitVec.ofInt (64 : Nat) x1 &&& BitVec.ofInt (64 : Nat) (IntKind.wrap IntKind.i64 (IntKind.wrap IntKind.i64 ((1 : Int) * (2 : Int) ^ min (Int.toNat x0) (64 : Nat)) - (1 : Int))))) : Int)))
noncomputable def ae3 (N : Nat) : Pk → Tr Pk := ag s311 w311 (VT N)
theorem I5 (N : Nat) : au Tryz.prog (311) (ae3 N) :=
  (ae af al (Mq N) Tryz.func311 s311 w311 [] (cuts := []) trivial (fun _ => by kernel_rfl) (by decide +kernel) (VT N) (fun x => by kernel_rfl))
end Go.Proofs.YtfcamlibbfnldaaGreat.Am
