/- The Lean function that SymbolsBack comes to answers true at every input. -/
import Derived.Test.YtpjkklailofkjaaSE
import Derived.Test.YtpjkklailofkjaaAmC
import Derived.Test.YtpjkklailofkjaaPH
import Derived.Test.YtpjkklailofkjaaSD
import Derived.Test.YtpjkklailofkjaaPS
import Derived.Test.YtpjkklailofkjaaPM
namespace Go.Proofs.Ytpjkklailofkjaa.Am
open Go.Am
theorem works29 : F29 200000 () = some true := by kernel_rfl
end Go.Proofs.Ytpjkklailofkjaa.Am

namespace Go.Proofs.Ytpjkklailofkjaa.Am
open Go.Am
set_option linter.unusedSimpArgs false
set_option linter.unusedVariables false

/-! ### The symbol of a number -/
def lastLe (tb : List Int) (n : Int) : Nat → Option Nat
  | 0 => none
  | i + 1 => if tb.getD i 0 ≤ n then some i else lastLe tb n i

theorem lastLe_some {tb : List Int} {n : Int} : ∀ {i j : Nat}, lastLe tb n i = some j → j < i ∧ tb.getD j 0 ≤ n ∧ ∀ k, j < k → k < i → n < tb.getD k 0
  | 0, j, h => by cases h
  | i + 1, j, h => by
    unfold lastLe at h
    split at h
    · cases h
      exact ⟨by omega, by assumption, fun k h1 h2 => by omega⟩
    · obtain ⟨h1, h2, h3⟩ := lastLe_some h
      refine ⟨by omega, h2, fun k k1 k2 => ?_⟩
      by_cases hk : k = i
      · subst hk; omega
      · exact h3 k k1 (by omega)

theorem lastLe_none {tb : List Int} {n : Int} : ∀ {i : Nat}, lastLe tb n i = none → ∀ k, k < i → n < tb.getD k 0
  | 0, h, k, hk => by omega
  | i + 1, h, k, hk => by
    unfold lastLe at h
    split at h
    · cases h
    · by_cases e : k = i
      · subst e; omega
      · exact lastLe_none h k (by omega)

/-- Both loops that look for a symbol, with what a symbol stands for left open. -/
def findL (G : Int → Option (Int × Int)) : Nat → (Int × Int × Int) → Option ((Int × Int × Int) ⊕ Unit)
  | 0, _ => none
  | k + 1, (x0, x1, x2) =>
    if (decide (x1 ≥ x0)) = true then
      Option.bind (G x1) fun y0 =>
      if (decide (Prod.fst y0 ≤ x2)) = true then
        some (.inl ((x1, IntKind.wrap IntKind.i64 (x2 - Prod.fst y0), Prod.snd y0)))
      else
        Option.bind (findL G k (x0, IntKind.wrap IntKind.i64 (x1 - (1 : Int)), x2)) fun r => match r with | .inl (y) => some (.inl (y)) | .inr (y) => some (.inr (y))
    else
      some (.inr (()))

theorem find_a (N : Nat) : ∀ k x, F65a_26 N k x = findL (F66 N) k x
  | 0, _ => rfl
  | k + 1, (x0, x1, x2) => by
    simp only [F65a_26, B65a_26, findL, find_a N k, iteP_eq]
    rfl
theorem find_b (N : Nat) : ∀ k x, F65b_26 N k x = findL (F67 N) k x
  | 0, _ => rfl
  | k + 1, (x0, x1, x2) => by
    simp only [F65b_26, B65b_26, findL, find_b N k, iteP_eq]
    rfl

def foundT (lb lx : List Int) (from_ n : Int) : Option Nat → (Int × Int × Int) ⊕ Unit
  | some j => .inl (from_ + j, n - lb.getD j 0, lx.getD j 0)
  | none => .inr ()

theorem findL_spec {G : Int → Option (Int × Int)} {lb lx : List Int} {from_ n : Int} (hf : 0 ≤ from_ ∧ from_ ≤ 1000) (hn : -9223372036854775808 ≤ n ∧ n ≤ 9223372036854775807) : ∀ (i f : Nat), i ≤ 1000 → (∀ j, j < i → G (from_ + j) = some (lb.getD j 0, lx.getD j 0) ∧ 0 ≤ lb.getD j 0 ∧ lb.getD j 0 ≤ 200000) → i < f →
    findL G f (from_, from_ + i - 1, n) = some (foundT lb lx from_ n (lastLe lb n i))
  | 0, 0, _, _, h => by omega
  | i + 1, 0, _, _, h => by omega
  | 0, f + 1, _, hG, h => by
    simp only [findL]
    rw [if_neg (by simp only [decide_eq_true_eq]; omega)]
    rfl
  | i + 1, f + 1, hi, hG, h => by
    obtain ⟨g1, g2, g3⟩ := hG i (by omega)
    simp only [findL]
    have e : from_ + ((i + 1 : Nat) : Int) - 1 = from_ + i := by omega
    rw [e, if_pos (by simp only [decide_eq_true_eq]; omega), g1, Option.bind_some]
    simp only [lastLe]
    by_cases hl : lb.getD i 0 ≤ n
    · rw [if_pos (by simpa using hl), if_pos hl, wrap_i64 (by omega) (by omega)]
      rfl
    · rw [if_neg (by simpa using hl), if_neg hl, wrap_i64 (by omega) (by omega), findL_spec hf hn i f (by omega) (fun j hj => hG j (by omega)) (by omega), Option.bind_some]
      cases lastLe lb n i <;> rfl

def lenB : List Int := [3, 4, 5, 6, 7, 8, 9, 10, 11, 13, 15, 17, 19, 23, 27, 31, 35, 43, 51, 59, 67, 83, 99, 115, 131, 163, 195, 227, 258]
def lenX : List Int := [0, 0, 0, 0, 0, 0, 0, 0, 1, 1, 1, 1, 2, 2, 2, 2, 3, 3, 3, 3, 4, 4, 4, 4, 5, 5, 5, 5, 0]
def disB : List Int := [1, 2, 3, 4, 5, 7, 9, 13, 17, 25, 33, 49, 65, 97, 129, 193, 257, 385, 513, 769, 1025, 1537, 2049, 3073, 4097, 6145, 8193, 12289, 16385, 24577]
def disX : List Int := [0, 0, 0, 0, 1, 1, 2, 2, 3, 3, 4, 4, 5, 5, 6, 6, 7, 7, 8, 8, 9, 9, 10, 10, 11, 11, 12, 12, 13, 13]

theorem len_all : (List.range 29).all (fun i => F66 200000 (257 + (i : Int)) == some (lenB.getD i 0, lenX.getD i 0)) = true := by kernel_rfl
theorem dis_all : (List.range 30).all (fun i => F67 200000 (0 + (i : Int)) == some (disB.getD i 0, disX.getD i 0)) = true := by kernel_rfl

theorem len_at (i : Nat) (h : i < 29) : F66 200000 (257 + (i : Int)) = some (lenB.getD i 0, lenX.getD i 0) := by
  have := List.all_eq_true.1 len_all i (List.mem_range.2 h)
  simpa using this
theorem dis_at (i : Nat) (h : i < 30) : F67 200000 (0 + (i : Int)) = some (disB.getD i 0, disX.getD i 0) := by
  have := List.all_eq_true.1 dis_all i (List.mem_range.2 h)
  simpa using this

theorem len_bnd : ∀ i, i < 29 → 0 ≤ lenB.getD i 0 ∧ lenB.getD i 0 ≤ 200000 ∧ 3 ≤ lenB.getD i 0 := by decide +kernel
theorem dis_bnd : ∀ i, i < 30 → 0 ≤ disB.getD i 0 ∧ disB.getD i 0 ≤ 200000 ∧ 1 ≤ disB.getD i 0 := by decide +kernel

/-- A length's symbol. -/
def lenOf (n : Int) : Int × Int × Int := if n > 258 then (0, 0, 0) else match lastLe lenB n 29 with
  | some j => (257 + j, n - lenB.getD j 0, lenX.getD j 0)
  | none => (0, 0, 0)
def disOf (n : Int) : Int × Int × Int := if n > 32768 then (0, 0, 0) else match lastLe disB n 30 with
  | some j => (0 + j, n - disB.getD j 0, disX.getD j 0)
  | none => (0, 0, 0)

theorem F48_len (n : Int) (hn : -9223372036854775808 ≤ n ∧ n ≤ 9223372036854775807) : F48 200000 n = some (lenOf n) := by
  unfold lenOf
  simp only [F48, iteP_eq]
  by_cases h : n > 258
  · rw [if_pos (by simpa using h), if_pos h]
  · rw [if_neg (by simpa using h), if_neg h]
    simp only [F65a, find_a, iteP_eq]
    have := findL_spec (G := F66 200000) (lb := lenB) (lx := lenX) (from_ := 257) (n := n) (by omega) hn 29 200000 (by omega) (fun j hj => ⟨len_at j hj, (len_bnd j hj).1, (len_bnd j hj).2.1⟩) (by omega)
    rw [show (257 : Int) + ((29 : Nat) : Int) - 1 = 285 from rfl] at this
    rw [this, Option.bind_some]
    cases lastLe lenB n 29 <;> rfl

theorem F49_dis (n : Int) (hn : -9223372036854775808 ≤ n ∧ n ≤ 9223372036854775807) : F49 200000 n = some (disOf n) := by
  unfold disOf
  simp only [F49, iteP_eq]
  by_cases h : n > 32768
  · rw [if_pos (by simpa using h), if_pos h]
  · rw [if_neg (by simpa using h), if_neg h]
    simp only [F65b, find_b, iteP_eq]
    have := findL_spec (G := F67 200000) (lb := disB) (lx := disX) (from_ := 0) (n := n) (by omega) hn 30 200000 (by omega) (fun j hj => ⟨dis_at j hj, (dis_bnd j hj).1, (dis_bnd j hj).2.1⟩) (by omega)
    rw [show (0 : Int) + ((30 : Nat) : Int) - 1 = 29 from rfl] at this
    rw [this, Option.bind_some]
    cases lastLe disB n 30 <;> rfl

/-- What a symbol stands for. -/
def ofT (lb lx : List Int) (sym first : Int) : Int × Int := if sym < first ∨ sym - first ≥ lb.length then (0, 0) else (lb.getD (sym - first).toNat 0, lx.getD (sym - first).toNat 0)

theorem F66_of (sym : Int) (hs : -9223372036854775808 ≤ sym ∧ sym ≤ 9223372036854775807) : F66 200000 sym = some (ofT lenB lenX sym 257) := by
  unfold ofT
  have hl : lenB.length = 29 := rfl
  by_cases h : sym < 257
  · rw [if_pos (.inl h)]
    simp only [F66, iteP_eq]
    rw [if_neg (by simp; omega), if_pos (by simpa using h)]
  · by_cases h2 : sym - 257 ≥ lenB.length
    · rw [if_pos (.inr h2)]
      simp only [F66, iteP_eq]
      rw [if_neg (by simp; omega), if_neg (by simpa using h), if_pos (by simp; omega)]
    · rw [if_neg (by omega)]
      obtain ⟨i, hi⟩ := Int.eq_ofNat_of_zero_le (show 0 ≤ sym - 257 by omega)
      rw [hi, Int.toNat_natCast, show sym = 257 + (i : Int) by omega]
      exact len_at i (by omega)

theorem F67_of (sym : Int) (hs : -9223372036854775808 ≤ sym ∧ sym ≤ 9223372036854775807) : F67 200000 sym = some (ofT disB disX sym 0) := by
  unfold ofT
  have hl : disB.length = 30 := rfl
  by_cases h : sym < 0
  · rw [if_pos (.inl h)]
    simp only [F67, iteP_eq]
    rw [if_pos (by simpa using h)]
  · by_cases h2 : sym - 0 ≥ disB.length
    · rw [if_pos (.inr h2)]
      simp only [F67, iteP_eq]
      rw [if_neg (by simpa using h), if_pos (by simp; omega)]
    · rw [if_neg (by omega)]
      obtain ⟨i, hi⟩ := Int.eq_ofNat_of_zero_le (show 0 ≤ sym - 0 by omega)
      rw [hi, Int.toNat_natCast, show sym = 0 + (i : Int) by omega]
      exact dis_at i (by omega)

end Go.Proofs.Ytpjkklailofkjaa.Am

namespace Go.Proofs.Ytpjkklailofkjaa.Am
open Go.Am
set_option linter.unusedSimpArgs false
set_option linter.unusedVariables false

abbrev Tok := Int × (Int × (Int × Unit))
def inT (n a b : Int) : Bool := decide (a ≤ n) && decide (n ≤ b)
def validT (b l d : Int) : Bool := if l = 0 then (decide (d = 0) && inT b 0 255) else (decide (b = 0) && (inT l 3 258 && inT d 1 32768))

theorem F50_in (N : Nat) (n a b : Int) : F50 N (n, a, b) = some (inT n a b) := by
  unfold inT
  simp only [F50, iteP_eq]
  by_cases h : a ≤ n <;> simp [h]

theorem F30_valid (N : Nat) (b l d : Int) : F30 N (b, l, d) = some (validT b l d) := by
  unfold validT
  simp only [F30, F50_in, Option.bind_some, iteP_eq]
  by_cases h : l = 0
  · by_cases h2 : d = 0 <;> simp [h, h2]
  · by_cases h2 : b = 0
    · cases h3 : inT l 3 258 <;> simp [h, h2, h3]
    · simp [h, h2]

theorem validT_spec {b l d : Int} (h : validT b l d = true) : (l = 0 ∧ 0 ≤ b ∧ b ≤ 255) ∨ (l ≠ 0 ∧ 3 ≤ l ∧ l ≤ 258 ∧ 1 ≤ d ∧ d ≤ 32768) := by
  unfold validT inT at h
  by_cases hl : l = 0
  · rw [if_pos hl] at h
    simp only [Bool.and_eq_true, decide_eq_true_eq] at h
    exact .inl ⟨hl, h.2⟩
  · rw [if_neg hl] at h
    simp only [Bool.and_eq_true, decide_eq_true_eq] at h
    exact .inr ⟨hl, h.2.1.1, h.2.1.2, h.2.2⟩

theorem lenOf_at {n : Int} (h1 : 3 ≤ n) (h2 : n ≤ 258) : ∃ j : Nat, j < 29 ∧ lenOf n = (((257 : Int) + (j : Int), n - lenB.getD j 0, lenX.getD j 0) : Int × Int × Int) ∧ lastLe lenB n 29 = some j := by
  unfold lenOf
  rw [if_neg (by omega)]
  cases h : lastLe lenB n 29 with
  | none =>
    have := lastLe_none h 0 (by omega)
    have e : lenB.getD 0 0 = 3 := rfl
    omega
  | some j => exact ⟨j, (lastLe_some h).1, rfl, rfl⟩

theorem disOf_at {n : Int} (h1 : 1 ≤ n) (h2 : n ≤ 32768) : ∃ j : Nat, j < 30 ∧ disOf n = (((0 : Int) + (j : Int), n - disB.getD j 0, disX.getD j 0) : Int × Int × Int) ∧ lastLe disB n 30 = some j := by
  unfold disOf
  rw [if_neg (by omega)]
  cases h : lastLe disB n 30 with
  | none =>
    have := lastLe_none h 0 (by omega)
    have e : disB.getD 0 0 = 1 := rfl
    omega
  | some j => exact ⟨j, (lastLe_some h).1, rfl, rfl⟩

def lits0 : List Int := (List.replicate 286 0).set 256 1
def dists0 : List Int := List.replicate 30 0
theorem lits0_len : lits0.length = 286 := by unfold lits0; rw [List.length_set, List.length_replicate]
theorem dists0_len : dists0.length = 30 := by unfold dists0; rw [List.length_replicate]

theorem F32_def (l : List Tok) : F32 200000 l = Option.bind (F32_122 200000 200000 (0, (l.length : Int), l, lits0, dists0)) fun y0 => some (y0.1, y0.2) := by kernel_rfl
end Go.Proofs.Ytpjkklailofkjaa.Am

namespace Go.Proofs.Ytpjkklailofkjaa.Am
open Go.Am
set_option linter.unusedSimpArgs false
set_option linter.unusedVariables false

/-! ### What comes: which counts are above nothing -/
structure CntAt (a : List Int) (n k : Nat) (S : Nat → Prop) : Prop where
  len : a.length = n
  nn : ∀ s, s < n → 0 ≤ a.getD s 0 ∧ a.getD s 0 ≤ (k : Int)
  iff : ∀ s, s < n → (0 < a.getD s 0 ↔ S s)

theorem CntAt.inc {a : List Int} {n k : Nat} {S : Nat → Prop} (h : CntAt a n k S) (hk : k ≤ 1000) {s : Nat} (hs : s < n) : CntAt (a.set s (IntKind.wrap .i64 (a.getD s 0 + 1))) n (k + 1) (fun x => S x ∨ x = s) := by
  have hb := h.nn s hs
  have hl := h.len
  have hg : ∀ t, t < n → (a.set s (IntKind.wrap .i64 (a.getD s 0 + 1))).getD t 0 = if t = s then a.getD s 0 + 1 else a.getD t 0 := by
    intro t ht
    by_cases e : t = s
    · subst e
      rw [if_pos rfl, List.getD, List.getElem?_set_self (by omega), Option.getD_some, wrap_i64 (by omega) (by omega)]
    · rw [if_neg e, List.getD, List.getElem?_set_ne (by omega)]; rfl
  refine ⟨by simpa using hl, fun t ht => ?_, fun t ht => ?_⟩
  · rw [hg t ht]
    have := h.nn t ht
    split <;> omega
  · rw [hg t ht]
    by_cases e : t = s
    · subst e
      rw [if_pos rfl]
      exact ⟨fun _ => .inr rfl, fun _ => by omega⟩
    · rw [if_neg e, h.iff t ht]
      exact ⟨.inl, fun q => q.resolve_right e⟩

theorem CntAt.mono {a : List Int} {n k k' : Nat} {S S' : Nat → Prop} (h : CntAt a n k S) (hk : k ≤ k') (hS : ∀ s, s < n → (S s ↔ S' s)) : CntAt a n k' S' :=
  ⟨h.len, fun s hs => by have := h.nn s hs; omega, fun s hs => (h.iff s hs).trans (hS s hs)⟩

/-- A token's symbols. -/
def litS (t : Tok) : Nat := if t.2.1 = 0 then t.1.toNat else (lenOf t.2.1).1.toNat
def dstS (t : Tok) : Option Nat := if t.2.1 = 0 then none else some (disOf t.2.2.1).1.toNat

def validAll (l : List Tok) : Bool := l.all fun t => validT t.1 t.2.1 t.2.2.1

theorem valid_at {l : List Tok} (h : validAll l = true) {i : Nat} (hi : i < l.length) : validT l[i].1 l[i].2.1 l[i].2.2.1 = true :=
  List.all_eq_true.1 h _ (List.getElem_mem hi)

theorem counts_loop (l : List Tok) (hl : l.length ≤ 60) (hv : validAll l = true) : ∀ (d i f : Nat) (a b : List Int), i + d = l.length → d < f →
    CntAt a 286 (i + 1) (fun s => s = 256 ∨ ∃ j, ∃ h : j < l.length, j < i ∧ litS l[j] = s) → CntAt b 30 (i + 1) (fun s => ∃ j, ∃ h : j < l.length, j < i ∧ dstS l[j] = some s) →
    ∃ r : List Int × List Int, F32_122 200000 f ((i : Int), (l.length : Int), l, a, b) = some r ∧
      CntAt r.1 286 61 (fun s => s = 256 ∨ ∃ j, ∃ h : j < l.length, litS l[j] = s) ∧ CntAt r.2 30 61 (fun s => ∃ j, ∃ h : j < l.length, dstS l[j] = some s) := by
  intro d
  induction d with
  | zero =>
    intro i f a b hi hf ha hb
    cases f with
    | zero => omega
    | succ f =>
      have hc : decide ((i : Int) < (l.length : Int)) = false := by simp only [decide_eq_false_iff_not]; omega
      simp only [F32_122, B32_122, hc, Bool.false_eq_true, if_false, iteP_eq]
      refine ⟨(a, b), rfl, ha.mono (by omega) fun s _ => ?_, hb.mono (by omega) fun s _ => ?_⟩
      · exact ⟨fun h => h.imp id fun ⟨j, h, _, e⟩ => ⟨j, h, e⟩, fun h => h.imp id fun ⟨j, h, e⟩ => ⟨j, h, by omega, e⟩⟩
      · exact ⟨fun ⟨j, h, _, e⟩ => ⟨j, h, e⟩, fun ⟨j, h, e⟩ => ⟨j, h, by omega, e⟩⟩
  | succ d ih =>
    intro i f a b hi hf ha hb
    cases f with
    | zero => omega
    | succ f =>
      have hil : i < l.length := by omega
      have hli : l[i]? = some l[i] := List.getElem?_eq_getElem hil
      have hw : IntKind.wrap .i64 ((i : Int) + 1) = ((i + 1 : Nat) : Int) := by rw [wrap_i64 (by omega) (by omega)]; omega
      have hwi : within (i : Int) l.length = true := by unfold within; simp only [decide_eq_true_eq]; omega
      have hc : decide ((i : Int) < (l.length : Int)) = true := by simp only [decide_eq_true_eq]; omega
      have hva := valid_at hv hil
      have hla := ha.len
      have hlb := hb.len
      simp only [F32_122, B32_122, hc, hwi, if_true, Int.toNat_natCast, hli, Option.bind_some, hw, F30_valid, hva, Bool.not_true, Bool.false_eq_true, if_false, iteP_eq]
      -- what came till then, and this one
      have stepL : ∀ (s0 : Nat) (S : Nat → Prop), litS l[i] = s0 → ∀ s, ((s = 256 ∨ ∃ j, ∃ h : j < l.length, j < i ∧ litS l[j] = s) ∨ s = s0) ↔ (s = 256 ∨ ∃ j, ∃ h : j < l.length, j < i + 1 ∧ litS l[j] = s) := by
        intro s0 _ e s
        constructor
        · rintro ((h | ⟨j, h1, h2, h3⟩) | h)
          · exact .inl h
          · exact .inr ⟨j, h1, by omega, h3⟩
          · exact .inr ⟨i, hil, by omega, by rw [e, h]⟩
        · rintro (h | ⟨j, h1, h2, h3⟩)
          · exact .inl (.inl h)
          · by_cases hj : j = i
            · subst hj; exact .inr (h3.symm.trans e)
            · exact .inl (.inr ⟨j, h1, by omega, h3⟩)
      rcases validT_spec hva with ⟨h0, h1, h2⟩ | ⟨h0, h1, h2, h3, h4⟩
      · have e0 : (l[i].2.1 == (0 : Int)) = true := by simpa using h0
        have wB : within l[i].1 a.length = true := by unfold within; simp only [decide_eq_true_eq]; omega
        have gB : a[Int.toNat l[i].1]? = some (a.getD (Int.toNat l[i].1) 0) := get_at (by omega)
        have eS : litS l[i] = Int.toNat l[i].1 := by unfold litS; rw [if_pos h0]
        have eD : dstS l[i] = none := by unfold dstS; rw [if_pos h0]
        simp only [e0, if_true, wB, gB, Option.bind_some]
        obtain ⟨r, r1, r2⟩ := ih (i + 1) f (a.set (Int.toNat l[i].1) (IntKind.wrap .i64 (a.getD (Int.toNat l[i].1) 0 + 1))) b (by omega) (by omega)
          ((ha.inc (by omega) (by omega)).mono (Nat.le_refl _) fun s _ => stepL _ (fun _ => True) eS s)
          (hb.mono (by omega) fun s _ => ⟨fun ⟨j, h1, h2, h3⟩ => ⟨j, h1, by omega, h3⟩, fun ⟨j, h1, h2, h3⟩ => by
            by_cases hj : j = i
            · subst hj; rw [eD] at h3; cases h3
            · exact ⟨j, h1, by omega, h3⟩⟩)
        exact ⟨r, by rw [r1]; rfl, r2⟩
      · have e0 : ¬ (l[i].2.1 == (0 : Int)) = true := by simpa using h0
        obtain ⟨j, hj, ej, _⟩ := lenOf_at h1 h2
        obtain ⟨k, hk, ek, _⟩ := disOf_at h3 h4
        have wJ : within (257 + (j : Int)) a.length = true := by unfold within; simp only [decide_eq_true_eq]; omega
        have wK : within (0 + (k : Int)) b.length = true := by unfold within; simp only [decide_eq_true_eq]; omega
        have gJ : a[Int.toNat (257 + (j : Int))]? = some (a.getD (Int.toNat (257 + (j : Int))) 0) := get_at (by omega)
        have gK : b[Int.toNat (0 + (k : Int))]? = some (b.getD (Int.toNat (0 + (k : Int))) 0) := get_at (by omega)
        have eS : litS l[i] = Int.toNat (257 + (j : Int)) := by unfold litS; rw [if_neg h0, ej]
        have eD : dstS l[i] = some (Int.toNat (0 + (k : Int))) := by unfold dstS; rw [if_neg h0, ek]
        simp only [if_neg e0, F48_len l[i].2.1 (by omega), F49_dis l[i].2.2.1 (by omega), Option.bind_some, ej, ek, wJ, wK, gJ, gK, if_true]
        obtain ⟨r, r1, r2⟩ := ih (i + 1) f (a.set (Int.toNat (257 + (j : Int))) (IntKind.wrap .i64 (a.getD (Int.toNat (257 + (j : Int))) 0 + 1))) (b.set (Int.toNat (0 + (k : Int))) (IntKind.wrap .i64 (b.getD (Int.toNat (0 + (k : Int))) 0 + 1))) (by omega) (by omega)
          ((ha.inc (by omega) (by omega)).mono (Nat.le_refl _) fun s _ => stepL _ (fun _ => True) eS s)
          ((hb.inc (by omega) (by omega)).mono (Nat.le_refl _) fun s _ => by
            constructor
            · rintro (⟨j, h1, h2, h3⟩ | h)
              · exact ⟨j, h1, by omega, h3⟩
              · exact ⟨i, hil, by omega, by rw [eD, h]⟩
            · rintro ⟨q, g1, g2, g3⟩
              by_cases hq : q = i
              · subst hq; rw [eD] at g3; exact .inr (Option.some.inj g3).symm
              · exact .inl ⟨q, g1, by omega, g3⟩)
        exact ⟨r, by rw [r1]; rfl, r2⟩

theorem F32_counts (l : List Tok) (hl : l.length ≤ 60) (hv : validAll l = true) : ∃ r : List Int × List Int, F32 200000 l = some r ∧
    CntAt r.1 286 61 (fun s => s = 256 ∨ ∃ j, ∃ h : j < l.length, litS l[j] = s) ∧ CntAt r.2 30 61 (fun s => ∃ j, ∃ h : j < l.length, dstS l[j] = some s) := by
  have hL : ∀ s, s < 286 → lits0.getD s 0 = if s = 256 then 1 else 0 := by decide +kernel
  have hD : ∀ s, s < 30 → dists0.getD s 0 = 0 := by decide +kernel
  obtain ⟨r, r1, r2⟩ := counts_loop l hl hv l.length 0 200000 lits0 dists0 (by omega) (by omega)
    ⟨lits0_len, fun s hs => by rw [hL s hs]; split <;> omega, fun s hs => by
      rw [hL s hs]
      by_cases e : s = 256
      · rw [if_pos e]; exact ⟨fun _ => .inl e, fun _ => by decide⟩
      · rw [if_neg e]; exact ⟨fun h => by omega, fun h => by rcases h with h | ⟨j, h1, h2, _⟩ <;> omega⟩⟩
    ⟨dists0_len, fun s hs => by rw [hD s hs]; omega, fun s hs => by
      rw [hD s hs]; exact ⟨fun h => by omega, fun ⟨j, h1, h2, _⟩ => by omega⟩⟩
  rw [show ((0 : Nat) : Int) = 0 from rfl] at r1
  exact ⟨r, by rw [F32_def, r1]; rfl, r2⟩

/-! ### Have all that come a code? -/
def hasC (C : List Cod) (s : Nat) : Bool := decide (s < C.length) && !((C.getD s (0, 0, ())).2.1 == 0)

theorem F52_loop (N : Nat) (C : List Cod) (x : List Int) (hx : x.length ≤ 1000) : ∀ (d i f : Nat), i + d = x.length → d < f →
    ((∀ s, i ≤ s → s < x.length → 0 < x.getD s 0 → hasC C s = true) → F52_26 N f ((x.length : Int), x, C, (i : Int)) = some (.inr ())) ∧
    ((∃ s, i ≤ s ∧ s < x.length ∧ 0 < x.getD s 0 ∧ hasC C s = false) → F52_26 N f ((x.length : Int), x, C, (i : Int)) = some (.inl false)) := by
  intro d
  induction d with
  | zero =>
    intro i f hi hf
    cases f with
    | zero => omega
    | succ f =>
      simp only [F52_26, B52_26, iteP_eq]
      rw [if_neg (by simp only [decide_eq_true_eq]; omega)]
      exact ⟨fun _ => rfl, fun ⟨s, h1, h2, _⟩ => by omega⟩
  | succ d ih =>
    intro i f hi hf
    cases f with
    | zero => omega
    | succ f =>
      obtain ⟨ih1, ih2⟩ := ih (i + 1) f (by omega) (by omega)
      have hil : i < x.length := by omega
      have hw : IntKind.wrap .i64 ((i : Int) + 1) = ((i + 1 : Nat) : Int) := by rw [wrap_i64 (by omega) (by omega)]; omega
      have hwi : within (i : Int) x.length = true := by unfold within; simp only [decide_eq_true_eq]; omega
      have hc : decide ((i : Int) < (x.length : Int)) = true := by simp only [decide_eq_true_eq]; omega
      have hg := get_at hil
      simp only [F52_26, B52_26, hc, hwi, hg, hw, Int.toNat_natCast, if_true, Option.bind_some, iteP_eq]
      by_cases h0 : 0 < x.getD i 0
      · rw [if_pos (by simpa using h0)]
        by_cases hlen : C.length ≤ i
        · rw [if_pos (by simp only [decide_eq_true_eq]; omega)]
          have hh : hasC C i = false := by unfold hasC; rw [decide_eq_false (by omega)]; rfl
          exact ⟨fun h => (by rw [h i (Nat.le_refl _) hil h0] at hh; cases hh), fun _ => rfl⟩
        · have hcg : C[i]? = some (C.getD i (0, 0, ())) := by rw [List.getD, List.getElem?_eq_getElem (by omega)]; rfl
          have hwc : within (i : Int) C.length = true := by unfold within; simp only [decide_eq_true_eq]; omega
          rw [if_neg (by simp only [decide_eq_true_eq]; omega)]
          simp only [hwc, hcg, if_true, Option.bind_some]
          by_cases hz : ((C.getD i (0, 0, ())).2.1 == 0) = true
          · rw [if_pos hz]
            have hh : hasC C i = false := by unfold hasC; rw [hz, decide_eq_true (by omega)]; rfl
            exact ⟨fun h => (by rw [h i (Nat.le_refl _) hil h0] at hh; cases hh), fun _ => rfl⟩
          · rw [if_neg hz]
            have hh : hasC C i = true := by unfold hasC; rw [decide_eq_true (by omega)]; simpa using hz
            refine ⟨fun h => ?_, fun ⟨s, h1, h2, h3, h4⟩ => ?_⟩
            · rw [ih1 fun s h1 h2 h3 => h s (by omega) h2 h3]; rfl
            · rw [ih2 ⟨s, by
                by_cases e : s = i
                · subst e; rw [hh] at h4; cases h4
                · omega, h2, h3, h4⟩]; rfl
      · rw [if_neg (by simpa using h0)]
        refine ⟨fun h => ?_, fun ⟨s, h1, h2, h3, h4⟩ => ?_⟩
        · rw [ih1 fun s h1 h2 h3 => h s (by omega) h2 h3]; rfl
        · rw [ih2 ⟨s, by
            by_cases e : s = i
            · subst e; exact absurd h3 h0
            · omega, h2, h3, h4⟩]; rfl

theorem F52_has (C : List Cod) (x : List Int) (hx : x.length ≤ 1000) : ∃ b, F52 200000 (C, x) = some b ∧ (b = true ↔ ∀ s, s < x.length → 0 < x.getD s 0 → hasC C s = true) := by
  simp only [F52, iteP_eq]
  obtain ⟨h1, h2⟩ := F52_loop 200000 C x hx x.length 0 200000 (by omega) (by omega)
  rw [show ((0 : Nat) : Int) = 0 from rfl] at h1 h2
  by_cases h : ∀ s, s < x.length → 0 < x.getD s 0 → hasC C s = true
  · rw [h1 fun s _ => h s, Option.bind_some]
    exact ⟨true, rfl, fun _ => h, fun _ => rfl⟩
  · have : ∃ s, 0 ≤ s ∧ s < x.length ∧ 0 < x.getD s 0 ∧ hasC C s = false := by
      refine Classical.byContradiction fun hn => h fun s a b => ?_
      cases hh : hasC C s with
      | true => rfl
      | false => exact absurd ⟨s, Nat.zero_le _, a, b, hh⟩ hn
    rw [h2 this, Option.bind_some]
    exact ⟨false, rfl, ⟨fun e => (by cases e), fun e => absurd e h⟩⟩
end Go.Proofs.Ytpjkklailofkjaa.Am

namespace Go.Proofs.Ytpjkklailofkjaa.Am
open Go.Am
set_option linter.unusedSimpArgs false
set_option linter.unusedVariables false

/-! ### The bits of tokens -/
def at_ (C : List Cod) (s : Nat) : Cod := C.getD s (0, 0, ())
/-- A token's bits. -/
def tokB (A B : List Cod) (t : Tok) : List Bool :=
  if t.2.1 = 0 then codeBits (at_ A (litS t)) else
    codeBits (at_ A (litS t)) ++ putB (lenOf t.2.1).2.2 (lenOf t.2.1).2.1 ++ codeBits (at_ B (disOf t.2.2.1).1.toNat) ++ putB (disOf t.2.2.1).2.2 (disOf t.2.2.1).2.1
/-- Has a token codes? -/
def tokOk (A B : List Cod) (t : Tok) : Bool := hasC A (litS t) && (decide (t.2.1 = 0) || hasC B (disOf t.2.2.1).1.toNat)

theorem tokB_len (A B : List Cod) (t : Tok) : (tokB A B t).length ≤ 128 := by
  have h1 := codeBits_len (at_ A (litS t))
  have h2 := codeBits_len (at_ B (disOf t.2.2.1).1.toNat)
  have h3 := putB_length (lenOf t.2.1).2.2 (lenOf t.2.1).2.1
  have h4 := putB_length (disOf t.2.2.1).2.2 (disOf t.2.2.1).2.1
  have h5 := clampN_le (lenOf t.2.1).2.2
  have h6 := clampN_le (disOf t.2.2.1).2.2
  unfold tokB
  split
  · omega
  · simp only [List.length_append]; omega

def bitsTo (A B : List Cod) (l : List Tok) (i : Nat) : List Bool := (l.take i).flatMap (tokB A B)
theorem bitsTo_succ (A B : List Cod) (l : List Tok) {i : Nat} (h : i < l.length) : bitsTo A B l (i + 1) = bitsTo A B l i ++ tokB A B l[i] := by
  unfold bitsTo
  rw [List.take_add_one, List.getElem?_eq_getElem h, List.flatMap_append]
  simp
theorem bitsTo_len (A B : List Cod) (l : List Tok) : ∀ i, i ≤ l.length → (bitsTo A B l i).length ≤ 128 * i
  | 0, _ => by simp [bitsTo]
  | i + 1, h => by
    have h1 := bitsTo_len A B l i (by omega)
    have h2 := tokB_len A B l[i]
    rw [bitsTo_succ A B l (by omega), List.length_append]
    omega

theorem code_loop (A B : List Cod) (hA : A.length ≤ 1000) (hB : B.length ≤ 1000) (l : List Tok) (hl : l.length ≤ 60) (hv : validAll l = true) (ho : ∀ i (h : i < l.length), tokOk A B l[i] = true) (m : List Bool) (hm : m.length ≤ 1000) :
    ∀ (d i f : Nat), i + d = l.length → d < f →
    F33_1018 200000 f ((i : Int), (l.length : Int), l, lastF (m ++ bitsTo A B l i), nF (m ++ bitsTo A B l i), B, A, bF (m ++ bitsTo A B l i)) =
      some (lastF (m ++ bitsTo A B l l.length), nF (m ++ bitsTo A B l l.length), A, bF (m ++ bitsTo A B l l.length)) := by
  intro d
  induction d with
  | zero =>
    intro i f hi hf
    cases f with
    | zero => omega
    | succ f =>
      simp only [F33_1018, B33_1018, iteP_eq]
      rw [if_neg (by simp only [decide_eq_true_eq]; omega), show i = l.length by omega]
  | succ d ih =>
    intro i f hi hf
    cases f with
    | zero => omega
    | succ f =>
      have hil : i < l.length := by omega
      have ih' := ih (i + 1) f (by omega) (by omega)
      have hli : l[i]? = some l[i] := List.getElem?_eq_getElem hil
      have hw : IntKind.wrap .i64 ((i : Int) + 1) = ((i + 1 : Nat) : Int) := by rw [wrap_i64 (by omega) (by omega)]; omega
      have hwi : within (i : Int) l.length = true := by unfold within; simp only [decide_eq_true_eq]; omega
      have hc : decide ((i : Int) < (l.length : Int)) = true := by simp only [decide_eq_true_eq]; omega
      have hva := valid_at hv hil
      have hok := ho i hil
      have hbl := bitsTo_len A B l i (by omega)
      have hbt : (m ++ bitsTo A B l i).length ≤ 200000 := by rw [List.length_append]; omega
      rw [bitsTo_succ A B l hil, ← List.append_assoc] at ih'
      simp only [F33_1018, B33_1018, hc, hwi, if_true, Int.toNat_natCast, hli, Option.bind_some, hw, iteP_eq]
      generalize m ++ bitsTo A B l i = q at *
      generalize l[i] = t at *
      obtain ⟨b, L, D, u⟩ := t
      unfold tokOk at hok
      simp only [Bool.and_eq_true, Bool.or_eq_true, decide_eq_true_eq] at hok
      obtain ⟨ok1, ok2⟩ := hok
      have gA : ∀ s, hasC A s = true → within (s : Int) A.length = true ∧ A[s]? = some (at_ A s) := fun s h => by
        unfold hasC at h
        simp only [Bool.and_eq_true, decide_eq_true_eq] at h
        exact ⟨by unfold within; simp only [decide_eq_true_eq]; omega, by unfold at_; rw [List.getD, List.getElem?_eq_getElem h.1]; rfl⟩
      have gB : ∀ s, hasC B s = true → within (s : Int) B.length = true ∧ B[s]? = some (at_ B s) := fun s h => by
        unfold hasC at h
        simp only [Bool.and_eq_true, decide_eq_true_eq] at h
        exact ⟨by unfold within; simp only [decide_eq_true_eq]; omega, by unfold at_; rw [List.getD, List.getElem?_eq_getElem h.1]; rfl⟩
      obtain ⟨a1, a2⟩ := gA _ ok1
      have cl1 := codeBits_len (at_ A (litS (b, L, D, u)))
      rcases validT_spec hva with ⟨h0, h1, h2⟩ | ⟨h0, h1, h2, h3, h4⟩
      · have h0 : L = 0 := h0
        have h1 : 0 ≤ b := h1
        have e0 : (L == (0 : Int)) = true := by simpa using h0
        have eS : litS (b, L, D, u) = b.toNat := by unfold litS; rw [if_pos h0]
        have eb : ((b.toNat : Nat) : Int) = b := by omega
        have et : tokB A B (b, L, D, u) = codeBits (at_ A b.toNat) := by unfold tokB; rw [if_pos h0, eS]
        rw [eS, eb] at a1
        rw [eS] at a2 cl1
        rw [et] at ih'
        simp only [e0, if_true, a1, a2, Option.bind_some]
        rw [F26_code (by decide) q (by omega), Option.bind_some, ih', Option.bind_some]
      · have h0 : L ≠ 0 := h0
        have h1 : 3 ≤ L := h1
        have h2 : L ≤ 258 := h2
        have h3 : 1 ≤ D := h3
        have h4 : D ≤ 32768 := h4
        have e0 : ¬ (L == (0 : Int)) = true := by simpa using h0
        obtain ⟨j, hj, ej, _⟩ := lenOf_at h1 h2
        obtain ⟨k, hk, ek, _⟩ := disOf_at h3 h4
        have eS : litS (b, L, D, u) = (lenOf L).1.toNat := by unfold litS; rw [if_neg h0]
        have ok2' : hasC B (disOf D).1.toNat = true := ok2.resolve_left h0
        obtain ⟨b1, b2⟩ := gB _ ok2'
        have eb : (((lenOf L).1.toNat : Nat) : Int) = (lenOf L).1 := by rw [ej]; simp only; omega
        have ed : (((disOf D).1.toNat : Nat) : Int) = (disOf D).1 := by rw [ek]; simp only; omega
        have cl2 := codeBits_len (at_ B (disOf D).1.toNat)
        have p1 := putB_length (lenOf L).2.2 (lenOf L).2.1
        have p2 := putB_length (disOf D).2.2 (disOf D).2.1
        have p3 := clampN_le (lenOf L).2.2
        have p4 := clampN_le (disOf D).2.2
        rw [eS, eb] at a1
        rw [eS] at a2 cl1
        rw [ed] at b1
        have et : tokB A B (b, L, D, u) = codeBits (at_ A (lenOf L).1.toNat) ++ putB (lenOf L).2.2 (lenOf L).2.1 ++ codeBits (at_ B (disOf D).1.toNat) ++ putB (disOf D).2.2 (disOf D).2.1 := by unfold tokB; rw [if_neg h0, eS]
        rw [et, ← List.append_assoc, ← List.append_assoc, ← List.append_assoc] at ih'
        simp only [if_neg e0, F48_len L (by omega), F49_dis D (by omega), Option.bind_some, a1, a2, b1, b2, if_true]
        rw [F26_code (by decide) q (by omega), Option.bind_some, F46_bits (by decide) _ (by rw [List.length_append]; omega), Option.bind_some, F26_code (by decide) _ (by simp only [List.length_append]; omega), Option.bind_some, F46_bits (by decide) _ (by simp only [List.length_append]; omega), Option.bind_some, ih', Option.bind_some]
end Go.Proofs.Ytpjkklailofkjaa.Am

namespace Go.Proofs.Ytpjkklailofkjaa.Am
open Go.Am
set_option linter.unusedSimpArgs false
set_option linter.unusedVariables false

theorem valid_loop1 (l : List Tok) (hl : l.length ≤ 60) (x2 x3 : List Int) (x6 x7 : Int) (x8 : List Int) : ∀ (d i f : Nat), i + d = l.length → d < f →
    ((∀ j (h : j < l.length), i ≤ j → validT l[j].1 l[j].2.1 l[j].2.2.1 = true) → F33_26 200000 f ((l.length : Int), l, x2, x3, l, (i : Int), x6, x7, x8) = some (.inr (x3, x2, l, x6, x7, x8))) ∧
    ((∃ j, ∃ h : j < l.length, i ≤ j ∧ validT l[j].1 l[j].2.1 l[j].2.2.1 = false) → F33_26 200000 f ((l.length : Int), l, x2, x3, l, (i : Int), x6, x7, x8) = some (.inl (1, x6, x7, x8))) := by
  intro d
  induction d with
  | zero =>
    intro i f hi hf
    cases f with
    | zero => omega
    | succ f =>
      simp only [F33_26, B33_26, iteP_eq]
      rw [if_neg (by simp only [decide_eq_true_eq]; omega)]
      exact ⟨fun _ => rfl, fun ⟨j, h1, h2, _⟩ => by omega⟩
  | succ d ih =>
    intro i f hi hf
    cases f with
    | zero => omega
    | succ f =>
      have hil : i < l.length := by omega
      obtain ⟨ih1, ih2⟩ := ih (i + 1) f (by omega) (by omega)
      have hli : l[i]? = some l[i] := List.getElem?_eq_getElem hil
      have hw : IntKind.wrap .i64 ((i : Int) + 1) = ((i + 1 : Nat) : Int) := by rw [wrap_i64 (by omega) (by omega)]; omega
      have hwi : within (i : Int) l.length = true := by unfold within; simp only [decide_eq_true_eq]; omega
      have hc : decide ((i : Int) < (l.length : Int)) = true := by simp only [decide_eq_true_eq]; omega
      simp only [F33_26, B33_26, hc, hwi, if_true, Int.toNat_natCast, hli, Option.bind_some, hw, F30_valid, iteP_eq]
      cases hv : validT l[i].1 l[i].2.1 l[i].2.2.1 with
      | false =>
        simp only [Bool.not_false, if_true]
        exact ⟨fun h => (by have := h i hil (Nat.le_refl _); rw [hv] at this; cases this), fun _ => by first | rfl | trivial⟩
      | true =>
        simp only [Bool.not_true, Bool.false_eq_true, if_false]
        refine ⟨fun h => by rw [ih1 fun j h1 h2 => h j h1 (by omega)]; rfl, fun ⟨j, h1, h2, h3⟩ => ?_⟩
        rw [ih2 ⟨j, h1, by
          by_cases e : j = i
          · subst e; rw [hv] at h3; cases h3
          · omega, h3⟩]
        rfl

def allOk (A B : List Cod) (l : List Tok) : Bool := hasC A 256 && l.all (tokOk A B)

/-- What the document writes. -/
def docW (lits dists : List Int) (l : List Tok) : Int × List Bool :=
  bif !validAll l then (1, []) else
  bif (chk lits).2 != 0 || (chk dists).2 != 0 then (50, []) else
  bif allOk (codesOf lits) (codesOf dists) l then (0, bitsTo (codesOf lits) (codesOf dists) l l.length ++ codeBits (at_ (codesOf lits) 256)) else (50, [])

theorem validAll_all {l : List Tok} (h : validAll l = true) : ∀ j (h : j < l.length), 0 ≤ j → validT l[j].1 l[j].2.1 l[j].2.2.1 = true := fun j hj _ => valid_at h hj
theorem all_bad {α : Type} {p : α → Bool} {l : List α} (h : l.all p = false) : ∃ j, ∃ h : j < l.length, 0 ≤ j ∧ p l[j] = false := by
  refine Classical.byContradiction fun hn => ?_
  have : l.all p = true := List.all_eq_true.2 fun x hx => by
    obtain ⟨j, hj, rfl⟩ := List.getElem_of_mem hx
    cases hp : p l[j] with
    | true => rfl
    | false => exact absurd ⟨j, hj, Nat.zero_le _, hp⟩ hn
  rw [h] at this; cases this
theorem all_good {α : Type} {p : α → Bool} {l : List α} (h : l.all p = true) : ∀ j (h : j < l.length), 0 ≤ j → p l[j] = true := fun j hj _ => List.all_eq_true.1 h _ (List.getElem_mem hj)

theorem F33_code (lits dists : List Int) (l : List Tok) (hl : l.length ≤ 60) (m : List Bool) (hm : m.length ≤ 1000) :
    F33 200000 (lits, dists, l, lastF m, nF m, bF m) = some ((docW lits dists l).1, lastF (m ++ (docW lits dists l).2), nF (m ++ (docW lits dists l).2), bF (m ++ (docW lits dists l).2)) := by
  obtain ⟨v1, v2⟩ := valid_loop1 l hl dists lits (lastF m) (nF m) (bF m) l.length 0 200000 (by omega) (by omega)
  rw [show ((0 : Nat) : Int) = 0 from rfl] at v1 v2
  unfold docW
  simp only [F33, iteP_eq]
  cases hv : validAll l with
  | false =>
    rw [v2 (all_bad hv), Option.bind_some]
    simp only [Bool.not_false, cond_true, List.append_nil]
  | true =>
    rw [v1 (validAll_all hv), Option.bind_some]
    simp only [Bool.not_true, cond_false]
    obtain ⟨r, r1, c1, c2⟩ := F32_counts l hl hv
    rw [F14_codes (by decide), Option.bind_some, F14_codes (by decide), Option.bind_some, r1, Option.bind_some]
    by_cases e1 : (chk lits).2 = 0
    · by_cases e2 : (chk dists).2 = 0
      · obtain ⟨a1, a2⟩ := chk_ok e1
        obtain ⟨b1, b2⟩ := chk_ok e2
        have hA := codesOf_len lits
        have hB := codesOf_len dists
        have ee : ((chk lits).2 != 0 || (chk dists).2 != 0) = false := by rw [e1, e2]; rfl
        rw [ee, if_pos e1, if_pos e2]
        simp only [cond_false]
        obtain ⟨p, p1, p2⟩ := F52_has (codesOf lits) r.1 (by have := c1.len; omega)
        obtain ⟨q, q1, q2⟩ := F52_has (codesOf dists) r.2 (by have := c2.len; omega)
        have l1 := c1.len
        have l2 := c2.len
        -- codes of all that come
        have hp : p = true ↔ (hasC (codesOf lits) 256 = true ∧ ∀ j (h : j < l.length), hasC (codesOf lits) (litS l[j]) = true) := by
          rw [p2]
          constructor
          · intro h
            refine ⟨h 256 (by omega) ((c1.iff 256 (by omega)).2 (.inl rfl)), fun j hj => ?_⟩
            have hva := valid_at hv hj
            have hs : litS l[j] < 286 := by
              unfold litS
              rcases validT_spec hva with ⟨h0, h1, h2⟩ | ⟨h0, h1, h2, h3, h4⟩
              · rw [if_pos h0]; omega
              · obtain ⟨k, hk, ek, _⟩ := lenOf_at h1 h2
                rw [if_neg h0, ek]; simp only; omega
            exact h _ (by omega) ((c1.iff _ hs).2 (.inr ⟨j, hj, rfl⟩))
          · rintro ⟨g1, g2⟩ s hs hp
            rcases (c1.iff s (by omega)).1 hp with h | ⟨j, hj, h⟩
            · rw [h]; exact g1
            · rw [← h]; exact g2 j hj
        have hq : q = true ↔ ∀ j (h : j < l.length), l[j].2.1 = 0 ∨ hasC (codesOf dists) (disOf l[j].2.2.1).1.toNat = true := by
          rw [q2]
          constructor
          · intro h j hj
            have hva := valid_at hv hj
            rcases validT_spec hva with ⟨h0, h1, h2⟩ | ⟨h0, h1, h2, h3, h4⟩
            · exact .inl h0
            · obtain ⟨k, hk, ek, _⟩ := disOf_at h3 h4
              have hs : (disOf l[j].2.2.1).1.toNat < 30 := by rw [ek]; simp only; omega
              exact .inr (h _ (by omega) ((c2.iff _ hs).2 ⟨j, hj, by unfold dstS; rw [if_neg h0]⟩))
          · intro g s hs hp
            obtain ⟨j, hj, h⟩ := (c2.iff s (by omega)).1 hp
            unfold dstS at h
            split at h
            · cases h
            · rename_i h0
              cases h
              exact (g j hj).resolve_left h0
        have hall : (p && q) = allOk (codesOf lits) (codesOf dists) l := by
          have key : (p && q) = true ↔ allOk (codesOf lits) (codesOf dists) l = true := by
            unfold allOk
            rw [Bool.and_eq_true, Bool.and_eq_true, hp, hq, List.all_eq_true]
            constructor
            · rintro ⟨⟨g1, g2⟩, g3⟩
              refine ⟨g1, fun x hx => ?_⟩
              obtain ⟨j, hj, rfl⟩ := List.getElem_of_mem hx
              unfold tokOk
              rw [g2 j hj, Bool.true_and, Bool.or_eq_true, decide_eq_true_eq]
              exact g3 j hj
            · rintro ⟨g1, g2⟩
              refine ⟨⟨g1, fun j hj => ?_⟩, fun j hj => ?_⟩ <;> have := g2 _ (List.getElem_mem hj) <;> unfold tokOk at this <;> rw [Bool.and_eq_true, Bool.or_eq_true, decide_eq_true_eq] at this
              · exact this.1
              · exact this.2
          cases h1 : (p && q) <;> cases h2 : allOk (codesOf lits) (codesOf dists) l <;> simp_all
        rw [← hall]
        rw [if_neg (by decide), if_neg (by decide), p1, Option.bind_some]
        cases p with
        | false =>
          simp only [Bool.not_false, if_true, Bool.false_and, cond_false, List.append_nil]
        | true =>
          simp only [Bool.not_true, Bool.false_eq_true, if_false, Bool.true_and]
          rw [q1, Option.bind_some]
          cases q with
          | false =>
            simp only [Bool.not_false, if_true, cond_false, List.append_nil]
          | true =>
            simp only [Bool.not_true, Bool.false_eq_true, if_false, cond_true]
            have ho : ∀ i (h : i < l.length), tokOk (codesOf lits) (codesOf dists) l[i] = true := fun i hi => by
              unfold tokOk
              rw [(hp.1 rfl).2 i hi, Bool.true_and, Bool.or_eq_true, decide_eq_true_eq]
              exact hq.1 rfl i hi
            have hcl := code_loop (codesOf lits) (codesOf dists) (by omega) (by omega) l hl hv ho m hm l.length 0 200000 (by omega) (by omega)
            rw [show ((0 : Nat) : Int) = 0 from rfl, show bitsTo (codesOf lits) (codesOf dists) l 0 = [] from rfl, List.append_nil] at hcl
            rw [hcl, Option.bind_some]
            have g256 := (hp.1 rfl).1
            unfold hasC at g256
            simp only [Bool.and_eq_true, decide_eq_true_eq] at g256
            have hw : within (256 : Int) (codesOf lits).length = true := by unfold within; simp only [decide_eq_true_eq]; omega
            have hg : (codesOf lits)[256]? = some (at_ (codesOf lits) 256) := by unfold at_; rw [List.getD, List.getElem?_eq_getElem g256.1]; rfl
            have hbl := bitsTo_len (codesOf lits) (codesOf dists) l l.length (Nat.le_refl _)
            simp only [hw, if_true, hg, Option.bind_some]
            rw [F26_code (by decide) _ (by rw [List.length_append]; omega), Option.bind_some, List.append_assoc]
      · have ee : ((chk lits).2 != 0 || (chk dists).2 != 0) = true := by simp [e2]
        rw [ee, if_pos e1, if_neg e2]
        simp only [cond_true, List.append_nil]
        rw [if_neg (by decide), if_pos (by simpa using e2)]
    · have ee : ((chk lits).2 != 0 || (chk dists).2 != 0) = true := by simp [e1]
      rw [ee, if_neg e1]
      simp only [cond_true, List.append_nil]
      rw [if_pos (by simpa using e1)]

theorem docW_len (lits dists : List Int) (l : List Tok) (hl : l.length ≤ 60) : (docW lits dists l).2.length ≤ 8000 := by
  have hbl := bitsTo_len (codesOf lits) (codesOf dists) l l.length (Nat.le_refl _)
  have cl := codeBits_len (at_ (codesOf lits) 256)
  unfold docW
  cases validAll l <;> cases ((chk lits).2 != 0 || (chk dists).2 != 0) <;> cases allOk (codesOf lits) (codesOf dists) l <;> simp only [Bool.not_true, Bool.not_false, cond_true, cond_false, List.length_nil, List.length_append] <;> omega

end Go.Proofs.Ytpjkklailofkjaa.Am

namespace Go.Proofs.Ytpjkklailofkjaa.Am
open Go.Am
set_option linter.unusedSimpArgs false
set_option linter.unusedVariables false

/-! ### What stands at a place -/
def At (L : List Bool) (p : Nat) (M : List Bool) : Prop := ∃ P R, L = P ++ (M ++ R) ∧ P.length = p
theorem At.left {L : List Bool} {p : Nat} {M M' : List Bool} : At L p (M ++ M') → At L p M := fun ⟨P, R, h, e⟩ => ⟨P, M' ++ R, by rw [h, List.append_assoc], e⟩
theorem At.right {L : List Bool} {p : Nat} {M M' : List Bool} : At L p (M ++ M') → At L (p + M.length) M' := fun ⟨P, R, h, e⟩ => ⟨P ++ M, R, by rw [h]; simp only [List.append_assoc], by rw [List.length_append, e]⟩
theorem At.le {L : List Bool} {p : Nat} {M : List Bool} : At L p M → p + M.length ≤ L.length := fun ⟨P, R, h, e⟩ => by rw [h, List.length_append, List.length_append]; omega
theorem At.get {L : List Bool} {p : Nat} {M : List Bool} (h : At L p M) {k : Nat} (hk : k < M.length) : L[p + k]? = M[k]? := by
  obtain ⟨P, R, rfl, rfl⟩ := h
  rw [List.getElem?_append_right (by omega), Nat.add_sub_cancel_left, List.getElem?_append_left hk]
theorem At.take {L : List Bool} {p : Nat} {M : List Bool} (h : At L p M) : (L.drop p).take M.length = M := by
  obtain ⟨P, R, rfl, rfl⟩ := h
  rw [List.drop_left, List.take_left]

theorem next_code {lens : List Int} (h : (chk lens).2 = 0) {j : Nat} (hc : hasC (codesOf lens) j = true) (s : ByteArray) (hs : s.size ≤ 1000000) (p : Nat) (hA : At (allB s) p (codeBits (at_ (codesOf lens) j))) :
    F23 200000 (cntL lens, ((lgUp lens 15 : Nat) : Int), s, (p : Int), 0, symsUp lens 15) = some ((j : Int), 0, cntL lens, ((lgUp lens 15 : Nat) : Int), s, ((p + (codeBits (at_ (codesOf lens) j)).length : Nat) : Int), 0, symsUp lens 15) := by
  obtain ⟨a1, a2⟩ := chk_ok h
  have hle := hA.le
  have hal := allB_length s
  unfold hasC at hc
  rw [Bool.and_eq_true, decide_eq_true_eq, codesOf_len] at hc
  obtain ⟨hj, h2⟩ := hc
  have e : at_ (codesOf lens) j = codeAt lens j := by unfold at_; rw [List.getD, codesOf_at lens hj]; rfl
  have h2' : (at_ (codesOf lens) j).2.1 ≠ 0 := by
    unfold at_
    simpa using h2
  rw [e] at hA h2' hle ⊢
  have h0 : 0 < lens.getD j 0 := by
    rw [codeAt_eq] at h2'
    by_cases hp : 0 < lens.getD j 0
    · exact hp
    · rw [if_neg hp] at h2'; exact absurd rfl h2'
  obtain ⟨c1, c2⟩ := code_bits_at h hj h0
  have hlt := codeN_lt h hj h0
  have hd := dec_code h hj h0 (allB s) p (fun k hk => by rw [hA.get (by omega)]; exact c2 k hk) (lens.getD j 0).toNat 0 (by omega) (by omega)
  rw [Nat.sub_zero, Nat.sub_zero, Nat.div_eq_of_lt hlt, Nat.add_zero] at hd
  rw [F23_next (by decide) lens a1 s (by omega) p (by omega) hd, c1]
  rfl

theorem rd_at {L : List Bool} {p : Nat} {n v : Int} (hA : At L p (putB n v)) (h0 : 0 ≤ v) (h1 : v < 2 ^ clampN n) : rd L p 0 n = (v.toNat, p + (putB n v).length, 0) := by
  have hle := hA.le
  have ht := hA.take
  have hl := putB_length n v
  rw [hl] at hle ht ⊢
  unfold rd
  rw [if_pos rfl, if_pos hle, ht]
  have hc := clampN_le n
  have hp := pow_le32 hc
  obtain ⟨w, rfl⟩ := Int.eq_ofNat_of_zero_le h0
  have hw : w < 2 ^ clampN n := by exact_mod_cast h1
  have : val (putB n (w : Int)) = w := by
    unfold putB lowN
    rw [BitVec.ofInt_natCast, BitVec.toNat_ofNat, Nat.mod_eq_of_lt (a := w) (by omega), Nat.mod_eq_of_lt hw]
    rw [val_bitsN, Nat.mod_eq_of_lt hw]
  rw [this]
  rfl

/-! ### What stands behind a symbol -/
theorem len_wide : ∀ j, j < 28 → lenB.getD (j + 1) 0 - lenB.getD j 0 ≤ 2 ^ clampN (lenX.getD j 0) := by decide +kernel
theorem dis_wide : ∀ j, j < 29 → disB.getD (j + 1) 0 - disB.getD j 0 ≤ 2 ^ clampN (disX.getD j 0) := by decide +kernel

theorem len_ext {n : Int} (h1 : 3 ≤ n) (h2 : n ≤ 258) {j : Nat} (hj : j < 29) (h : lastLe lenB n 29 = some j) : 0 ≤ n - lenB.getD j 0 ∧ n - lenB.getD j 0 < 2 ^ clampN (lenX.getD j 0) := by
  obtain ⟨_, a, b⟩ := lastLe_some h
  refine ⟨by omega, ?_⟩
  by_cases e : j = 28
  · subst e
    have : lenB.getD 28 0 = 258 := rfl
    have : lenX.getD 28 0 = 0 := rfl
    rw [this]
    show n - lenB.getD 28 0 < 1
    omega
  · have := len_wide j (by omega)
    have := b (j + 1) (by omega) (by omega)
    omega

theorem dis_ext {n : Int} (h1 : 1 ≤ n) (h2 : n ≤ 32768) {j : Nat} (hj : j < 30) (h : lastLe disB n 30 = some j) : 0 ≤ n - disB.getD j 0 ∧ n - disB.getD j 0 < 2 ^ clampN (disX.getD j 0) := by
  obtain ⟨_, a, b⟩ := lastLe_some h
  refine ⟨by omega, ?_⟩
  by_cases e : j = 29
  · subst e
    have : disB.getD 29 0 = 24577 := rfl
    have : disX.getD 29 0 = 13 := rfl
    rw [this]
    show n - disB.getD 29 0 < 8192
    omega
  · have := dis_wide j (by omega)
    have := b (j + 1) (by omega) (by omega)
    omega

theorem ofT_len {j : Nat} (hj : j < 29) : ofT lenB lenX (257 + (j : Int)) 257 = (lenB.getD j 0, lenX.getD j 0) := by
  have : lenB.length = 29 := rfl
  unfold ofT
  rw [if_neg (by omega), show (257 + (j : Int) - 257).toNat = j by omega]
theorem ofT_dis {j : Nat} (hj : j < 30) : ofT disB disX (0 + (j : Int)) 0 = (disB.getD j 0, disX.getD j 0) := by
  have : disB.length = 30 := rfl
  unfold ofT
  rw [if_neg (by omega), show (0 + (j : Int) - 0).toNat = j by omega]

theorem F68a_num (s : ByteArray) (hs : s.size ≤ 1000000) (p : Nat) (hp : p ≤ 8 * s.size) (sym : Int) (h1 : -9223372036854775808 ≤ sym ∧ sym ≤ 9223372036854775807) :
    F68a 200000 (sym, s, (p : Int), 0) = some (IntKind.wrap .i64 ((ofT lenB lenX sym 257).1 + ((rd (allB s) p 0 (ofT lenB lenX sym 257).2).1 : Int)), (rd (allB s) p 0 (ofT lenB lenX sym 257).2).2.2, s, ((rd (allB s) p 0 (ofT lenB lenX sym 257).2).2.1 : Int), (rd (allB s) p 0 (ofT lenB lenX sym 257).2).2.2) := by
  simp only [F68a, iteP_eq]
  rw [F66_of sym h1, Option.bind_some, F42_rd (by decide) s p 0 _ (by omega) hp, Option.bind_some]
  rfl

theorem F68b_num (s : ByteArray) (hs : s.size ≤ 1000000) (p : Nat) (hp : p ≤ 8 * s.size) (sym : Int) (h1 : -9223372036854775808 ≤ sym ∧ sym ≤ 9223372036854775807) :
    F68b 200000 (sym, s, (p : Int), 0) = some (IntKind.wrap .i64 ((ofT disB disX sym 0).1 + ((rd (allB s) p 0 (ofT disB disX sym 0).2).1 : Int)), (rd (allB s) p 0 (ofT disB disX sym 0).2).2.2, s, ((rd (allB s) p 0 (ofT disB disX sym 0).2).2.1 : Int), (rd (allB s) p 0 (ofT disB disX sym 0).2).2.2) := by
  simp only [F68b, iteP_eq]
  rw [F67_of sym h1, Option.bind_some, F42_rd (by decide) s p 0 _ (by omega) hp, Option.bind_some]
  rfl

theorem validT_all {b l d : Int} (h : validT b l d = true) : (l = 0 ∧ d = 0 ∧ 0 ≤ b ∧ b ≤ 255) ∨ (l ≠ 0 ∧ b = 0 ∧ 3 ≤ l ∧ l ≤ 258 ∧ 1 ≤ d ∧ d ≤ 32768) := by
  unfold validT inT at h
  by_cases hl : l = 0
  · rw [if_pos hl] at h
    simp only [Bool.and_eq_true, decide_eq_true_eq] at h
    exact .inl ⟨hl, h.1, h.2⟩
  · rw [if_neg hl] at h
    simp only [Bool.and_eq_true, decide_eq_true_eq] at h
    exact .inr ⟨hl, h.1, h.2.1.1, h.2.1.2, h.2.2⟩

theorem bitsTo_split (A B : List Cod) (l : List Tok) {i : Nat} (h : i ≤ l.length) : ∃ r, bitsTo A B l l.length = bitsTo A B l i ++ r := by
  refine ⟨(l.drop i).flatMap (tokB A B), ?_⟩
  unfold bitsTo
  rw [← List.flatMap_append, List.take_append_drop, List.take_length]

theorem read_back {A B : List Int} (hA : (chk A).2 = 0) (hB : (chk B).2 = 0) (l : List Tok) (hl : l.length ≤ 60) (hv : validAll l = true) (ho : allOk (codesOf A) (codesOf B) l = true) (s : ByteArray) (hs : s.size ≤ 1000000)
    (hat : At (allB s) 0 (bitsTo (codesOf A) (codesOf B) l l.length ++ codeBits (at_ (codesOf A) 256))) :
    ∀ (d i f : Nat) (made : Int), i + d = l.length → d < f → 0 ≤ made → made ≤ 258 * i →
    F34_254d 200000 f (1073741824, made, s, ((bitsTo (codesOf A) (codesOf B) l i).length : Int), 0, l.take i, cntL A, ((lgUp A 15 : Nat) : Int), cntL B, ((lgUp B 15 : Nat) : Int), symsUp A 15, symsUp B 15) =
      some (0, s, ((bitsTo (codesOf A) (codesOf B) l l.length ++ codeBits (at_ (codesOf A) 256)).length : Int), 0, l) := by
  unfold allOk at ho
  rw [Bool.and_eq_true, List.all_eq_true] at ho
  obtain ⟨ho1, ho2⟩ := ho
  have hal := allB_length s
  intro d
  induction d with
  | zero =>
    intro i f made hi hf h0 h1
    cases f with
    | zero => omega
    | succ f =>
      have : i = l.length := by omega
      subst this
      have ha := hat.right
      rw [Nat.zero_add] at ha
      simp only [F34_254d, B34_254d, iteP_eq]
      rw [next_code hA ho1 s hs _ ha, Option.bind_some]
      simp only
      rw [if_neg (by decide), if_pos (by decide), List.take_length, List.length_append]
  | succ d ih =>
    intro i f made hi hf h0 h1
    cases f with
    | zero => omega
    | succ f =>
      have hil : i < l.length := by omega
      have hva := valid_at hv hil
      have hok := ho2 l[i] (List.getElem_mem hil)
      obtain ⟨r, hr⟩ := bitsTo_split (codesOf A) (codesOf B) l (i := i + 1) (by omega)
      have hsu := bitsTo_succ (codesOf A) (codesOf B) l hil
      have ha : At (allB s) (bitsTo (codesOf A) (codesOf B) l i).length (tokB (codesOf A) (codesOf B) l[i]) := by
        have := hat
        rw [hr, hsu, List.append_assoc, List.append_assoc] at this
        have := this.right.left
        rw [Nat.zero_add] at this
        exact this
      have ihf := ih (i + 1) f
      have htk : l.take (i + 1) = l.take i ++ [l[i]] := by rw [List.take_add_one, List.getElem?_eq_getElem hil]; rfl
      have htl : (l.take i).length ≤ 60 := by rw [List.length_take]; omega
      rw [hsu, List.length_append, htk] at ihf
      simp only [F34_254d, B34_254d, iteP_eq]
      generalize l.take i = out at *
      generalize (bitsTo (codesOf A) (codesOf B) l i).length = p at *
      generalize l[i] = t at *
      obtain ⟨b, L, D, u⟩ := t
      cases u
      unfold tokOk at hok
      simp only [Bool.and_eq_true, Bool.or_eq_true, decide_eq_true_eq] at hok
      obtain ⟨ok1, ok2⟩ := hok
      have c7 : decide ((out.length + 1) * 24 ≤ 140737488355328 ∧ out.length + 1 ≤ 140737488355328) = true := by simp only [decide_eq_true_eq]; omega
      rcases validT_all hva with ⟨e1, e2, e3, e4⟩ | ⟨e1, e2, e3, e4, e5, e6⟩
      · have e1 : L = 0 := e1
        have e2 : D = 0 := e2
        have e3 : 0 ≤ b := e3
        have e4 : b ≤ 255 := e4
        subst e1; subst e2
        have eS : litS (b, 0, 0, ()) = b.toNat := rfl
        have et : tokB (codesOf A) (codesOf B) (b, 0, 0, ()) = codeBits (at_ (codesOf A) b.toNat) := by unfold tokB; rw [if_pos rfl, eS]
        rw [eS] at ok1
        rw [et] at ha ihf
        rw [next_code hA ok1 s hs _ ha, Option.bind_some]
        have eb : ((b.toNat : Nat) : Int) = b := by omega
        simp only [eb]
        rw [wrap_i64 (by omega) (by omega)]
        rw [if_neg (by decide), if_neg (by simp; omega), if_neg (by simp; omega), if_neg (by simp; omega)]
        simp only [List.length_singleton, c7, if_true]
        rw [ihf (made + 1) (by omega) (by omega) (by omega) (by omega)]
        rfl
      · have e1 : L ≠ 0 := e1
        have e2 : b = 0 := e2
        subst e2
        have e3 : 3 ≤ L := e3
        have e4 : L ≤ 258 := e4
        have e5 : 1 ≤ D := e5
        have e6 : D ≤ 32768 := e6
        obtain ⟨j, hj, ej, lj⟩ := lenOf_at e3 e4
        obtain ⟨k, hk, ek, lk⟩ := disOf_at e5 e6
        have eS : litS (0, L, D, ()) = 257 + j := by unfold litS; rw [if_neg e1]; simp only [ej]; omega
        have eD : (disOf D).1.toNat = k := by rw [ek]; simp only; omega
        have ok2' : hasC (codesOf B) k = true := by rw [← eD]; exact ok2.resolve_left e1
        have et : tokB (codesOf A) (codesOf B) (0, L, D, ()) = codeBits (at_ (codesOf A) (257 + j)) ++ (putB (lenX.getD j 0) (L - lenB.getD j 0) ++ (codeBits (at_ (codesOf B) k) ++ putB (disX.getD k 0) (D - disB.getD k 0))) := by
          unfold tokB; rw [if_neg e1, eS]; simp only [ej, eD]; simp only [ek]; simp only [List.append_assoc]
        rw [eS] at ok1
        rw [et] at ha ihf
        have ha1 := ha.left
        have ha2 := ha.right.left
        have ha3 := ha.right.right.left
        have ha4 := ha.right.right.right
        have l1 := ha1.le
        have l2 := ha2.le
        have l3 := ha3.le
        have l4 := ha4.le
        obtain ⟨x1, x2⟩ := len_ext e3 e4 hj lj
        obtain ⟨y1, y2⟩ := dis_ext e5 e6 hk lk
        have hb1 := len_bnd j hj
        have hb2 := dis_bnd k hk
        rw [next_code hA ok1 s hs _ ha1, Option.bind_some]
        have eb : ((257 + j : Nat) : Int) = 257 + (j : Int) := by omega
        simp only [eb]
        rw [if_neg (by decide), if_neg (by simp; omega), if_pos (by simp; omega)]
        simp only [F53, iteP_eq]
        rw [if_neg (by simp; omega), F68a_num s hs _ (by omega) _ (by omega), ofT_len hj, Option.bind_some]
        simp only
        rw [rd_at ha2 x1 x2]
        simp only
        rw [if_neg (by decide), next_code hB ok2' s hs _ ha3, Option.bind_some]
        simp only
        rw [if_neg (by decide), if_neg (by simp; omega), F68b_num s hs _ (by omega) _ (by omega), show ((k : Nat) : Int) = 0 + (k : Int) by omega, ofT_dis hk, Option.bind_some]
        simp only
        rw [rd_at ha4 y1 y2]
        simp only [Option.bind_some]
        have w1 : IntKind.wrap .i64 (lenB.getD j 0 + (((L - lenB.getD j 0).toNat : Nat) : Int)) = L := by rw [Int.toNat_of_nonneg x1, wrap_i64 (by omega) (by omega)]; omega
        have w2 : IntKind.wrap .i64 (disB.getD k 0 + (((D - disB.getD k 0).toNat : Nat) : Int)) = D := by rw [Int.toNat_of_nonneg y1, wrap_i64 (by omega) (by omega)]; omega
        rw [w1, w2]
        have w3 : (if (1 : Int) > L then (1 : Int) else L) = L := if_neg (by omega)
        rw [w3, wrap_i64 (by omega) (by omega)]
        rw [if_neg (by decide), if_neg (by simp; omega)]
        simp only [List.length_singleton, c7, if_true]
        have hg := ihf (made + L) (by omega) (by omega) (by omega) (by omega)
        simp only [List.length_append, ← Nat.add_assoc] at hg ⊢
        rw [hg]
        rfl
end Go.Proofs.Ytpjkklailofkjaa.Am

namespace Go.Proofs.Ytpjkklailofkjaa.Am
open Go.Am
set_option linter.unusedSimpArgs false
set_option linter.unusedVariables false

theorem took_map (g : Nat → Nat) : ∀ L : List Nat, took (L.map fun (i : Nat) => ((g i : Nat) : Int)) = (((L.map fun i => tkN (g i)).sum : Nat) : Int)
  | [] => rfl
  | x :: L => by
    rw [List.map_cons, took, took_map g L, List.map_cons, List.sum_cons, Int.natCast_add]
    congr 1
    unfold tkN
    by_cases h : 0 < g x
    · rw [if_pos (by omega), if_pos h, show (15 - ((g x : Nat) : Int)).toNat = 15 - g x by omega, pow_i]
    · rw [if_neg (by omega), if_neg h]; rfl

/-- What is checked of the best lengths. -/
theorem chk_best {fr : List Int} (hl : fr.length ≤ 320) {m : Nat} (hm : 1 ≤ m) (hm2 : m ≤ 15) (hn : (isort (coinsTo fr fr.length)).length ≤ 2 ^ m) :
    chk (cnts fr.length (pickS (isort (coinsTo fr fr.length)) m)) = (if 2 ≤ (isort (coinsTo fr fr.length)).length then 0 else if (isort (coinsTo fr fr.length)).length = 1 then 16384 else 32768, 0) := by
  obtain ⟨p1, p2, p3⟩ := pick_all (coins_ok fr) hm hm2 hn
  have hb : okB (cnts fr.length (pickS (isort (coinsTo fr fr.length)) m)) = true := by
    unfold okB
    rw [List.all_eq_true]
    intro x hx
    obtain ⟨i, _, rfl⟩ := List.mem_map.1 hx
    rw [Bool.and_eq_true, decide_eq_true_eq, decide_eq_true_eq]
    by_cases h : ((i : Int) ∈ syms (isort (coinsTo fr fr.length)))
    · have := p1 _ h; omega
    · rw [p2 _ h]; omega
  have hr := room_best hm hm2 hn
  have ht := lf_took (cnts fr.length (pickS (isort (coinsTo fr fr.length)) m)) 15 (Nat.le_refl _)
  rw [tookTo_all _ hb] at ht
  have htk : took (cnts fr.length (pickS (isort (coinsTo fr fr.length)) m)) = _ := took_map (fun i => (pickS (isort (coinsTo fr fr.length)) m).count (i : Int)) (List.range fr.length)
  rw [htk, hr] at ht
  have hok : okL (cnts fr.length (pickS (isort (coinsTo fr fr.length)) m)) = true := by
    unfold okL
    rw [hb, cnts_len, decide_eq_true hl]
    rfl
  have e0 : lf (cnts fr.length (pickS (isort (coinsTo fr fr.length)) m)) 15 * 2 ^ (15 - 15) = lf (cnts fr.length (pickS (isort (coinsTo fr fr.length)) m)) 15 := by simp
  rw [e0] at ht
  unfold chk
  rw [hok]
  generalize (isort (coinsTo fr fr.length)).length = n at *
  by_cases h2 : 2 ≤ n
  · rw [if_pos h2] at ht ⊢
    rw [ht, if_pos ⟨rfl, by decide⟩]
    rfl
  · rw [if_neg h2] at ht ⊢
    by_cases h1 : n = 1
    · rw [if_pos h1] at ht ⊢
      rw [ht, if_pos ⟨rfl, by decide⟩]
      rfl
    · rw [if_neg h1] at ht ⊢
      rw [ht, if_pos ⟨rfl, by decide⟩]
      rfl

theorem okF_take {fr : List Int} {i : Nat} (hi : i < fr.length) : okF (fr.take (i + 1)) = (okF (fr.take i) && (decide (0 ≤ fr.getD i 0) && decide (fr.getD i 0 ≤ 1073741824))) := by
  unfold okF
  rw [List.take_add_one, List.getElem?_eq_getElem hi, List.all_append, List.getD, List.getElem?_eq_getElem hi]
  simp

theorem F5_first (fr : List Int) (hl : fr.length ≤ 1000) (odd0 : Bool) (e most : Int) (b : Bool) (out : List Int) : ∀ (d i f : Nat), i + d = fr.length → d < f →
    F5_2042 200000 f (odd0 || !okF (fr.take i), ((coinsTo fr i).length : Int), (i : Int), e, b, most, fr, out) = some (odd0 || !okF fr, most, fr, ((coinsTo fr fr.length).length : Int), b, e, out) := by
  intro d
  induction d with
  | zero =>
    intro i f hi hf
    cases f with
    | zero => omega
    | succ f =>
      simp only [F5_2042, B5_2042, iteP_eq]
      rw [if_neg (by simp only [decide_eq_true_eq]; omega), List.take_of_length_le (by omega), show i = fr.length by omega]
  | succ d ih =>
    intro i f hi hf
    cases f with
    | zero => omega
    | succ f =>
      have hil : i < fr.length := by omega
      have ih' := ih (i + 1) f (by omega) (by omega)
      have i1 : IntKind.wrap .i64 ((i : Int) + 1) = ((i + 1 : Nat) : Int) := by rw [wrap_i64 (by omega) (by omega)]; omega
      have hcl := coinsTo_len fr i
      have i2 : IntKind.wrap .i64 (((coinsTo fr i).length : Int) + 1) = (((coinsTo fr i).length + 1 : Nat) : Int) := by rw [wrap_i64 (by omega) (by omega)]; omega
      have hc : (coinsTo fr (i + 1)).length = if 0 < fr.getD i 0 then (coinsTo fr i).length + 1 else (coinsTo fr i).length := by
        rw [coinsTo]; split <;> simp
      rw [okF_take hil, hc] at ih'
      simp only [F5_2042, B5_2042, iteP_eq]
      rw [if_pos (by simp only [decide_eq_true_eq]; omega)]
      simp only [wi hil, if_true, Int.toNat_natCast, getAt hil, Option.bind_some, i1, i2]
      cases ho : (odd0 || !okF (fr.take i)) with
      | true =>
        have e : (odd0 || !(okF (fr.take i) && (decide (0 ≤ fr.getD i 0) && decide (fr.getD i 0 ≤ 1073741824)))) = true := by
          cases odd0 <;> cases hk : okF (fr.take i) <;> simp_all
        rw [e] at ih'
        simp only [if_true]
        by_cases hp : 0 < fr.getD i 0
        · rw [if_pos hp] at ih'
          rw [if_pos (show decide (fr.getD i 0 > 0) = true by simpa using hp), ih', Option.bind_some]
        · rw [if_neg hp] at ih'
          rw [if_neg (show ¬ decide (fr.getD i 0 > 0) = true by simpa using hp), ih', Option.bind_some]
      | false =>
        simp only [Bool.false_eq_true, if_false]
        by_cases hn : fr.getD i 0 < 0
        · have e : (odd0 || !(okF (fr.take i) && (decide (0 ≤ fr.getD i 0) && decide (fr.getD i 0 ≤ 1073741824)))) = true := by
            rw [decide_eq_false (show ¬ 0 ≤ fr.getD i 0 by omega)]; simp
          rw [e, if_neg (by omega)] at ih'
          rw [if_pos (show decide (fr.getD i 0 < 0) = true by simpa using hn), if_neg (show ¬ decide (fr.getD i 0 > 0) = true by simp only [decide_eq_true_eq]; omega), ih', Option.bind_some]
        · have e : (odd0 || !(okF (fr.take i) && (decide (0 ≤ fr.getD i 0) && decide (fr.getD i 0 ≤ 1073741824)))) = decide (fr.getD i 0 > 1073741824) := by
            rw [decide_eq_true (show 0 ≤ fr.getD i 0 by omega)]
            have h1 : odd0 = false := by cases odd0 <;> simp_all
            have h2 : okF (fr.take i) = true := by cases hk : okF (fr.take i) <;> simp_all
            rw [h1, h2]
            simp only [Bool.true_and, Bool.false_or]
            by_cases hg : fr.getD i 0 ≤ 1073741824
            · rw [decide_eq_true hg, decide_eq_false (by omega)]; rfl
            · rw [decide_eq_false hg, decide_eq_true (by omega)]; rfl
          rw [e] at ih'
          rw [if_neg (show ¬ decide (fr.getD i 0 < 0) = true by simpa using hn)]
          by_cases hp : 0 < fr.getD i 0
          · rw [if_pos hp] at ih'
            rw [if_pos (show decide (fr.getD i 0 > 0) = true by simpa using hp), ih', Option.bind_some]
          · rw [if_neg hp] at ih'
            rw [if_neg (show ¬ decide (fr.getD i 0 > 0) = true by simpa using hp), ih', Option.bind_some]

theorem F5_second (fr out : List Int) (hlen : out.length = fr.length) (hl : fr.length ≤ 1000) (most left n : Int) (b : Bool) (h : ∀ i, i < fr.length → (out.getD i 0 = 0 ↔ fr.getD i 0 = 0) ∧ out.getD i 0 ≤ most) : ∀ (d i f : Nat), i + d = fr.length → d < f →
    F5_65530 200000 f (left, n, b, fr, most, (i : Int), out) = some (.inr (b, n, left)) := by
  intro d
  induction d with
  | zero =>
    intro i f hi hf
    cases f with
    | zero => omega
    | succ f =>
      simp only [F5_65530, B5_65530, iteP_eq]
      rw [if_neg (by simp only [decide_eq_true_eq]; omega)]
  | succ d ih =>
    intro i f hi hf
    cases f with
    | zero => omega
    | succ f =>
      have hil : i < fr.length := by omega
      have i1 : IntKind.wrap .i64 ((i : Int) + 1) = ((i + 1 : Nat) : Int) := by rw [wrap_i64 (by omega) (by omega)]; omega
      obtain ⟨h1, h2⟩ := h i hil
      simp only [F5_65530, B5_65530, iteP_eq, hlen]
      rw [if_pos (by simp only [decide_eq_true_eq]; omega)]
      simp only [wi hil, if_true, Int.toNat_natCast, getAt hil, getAt (show i < out.length by omega), Option.bind_some, i1]
      have e : (!(out.getD i 0 == 0) == (fr.getD i 0 == 0)) = false := by
        by_cases hz : fr.getD i 0 = 0
        · rw [h1.2 hz, hz]; rfl
        · have : ¬ out.getD i 0 = 0 := fun hh => hz (h1.1 hh)
          have e1 : (out.getD i 0 == 0) = false := by simpa using this
          have e2 : (fr.getD i 0 == 0) = false := by simpa using hz
          rw [e1, e2]; rfl
      rw [e, if_neg (by decide), if_neg (by simp only [decide_eq_true_eq]; omega), ih (i + 1) f (by omega) (by omega), Option.bind_some]
end Go.Proofs.Ytpjkklailofkjaa.Am

namespace Go.Proofs.Ytpjkklailofkjaa.Am
open Go.Am
set_option linter.unusedSimpArgs false
set_option linter.unusedVariables false

theorem F35_loop (l : List Tok) (hl : l.length ≤ 10000) : ∀ (d i f : Nat), i + d = l.length → d < f → F35_58 200000 f (l, l, (i : Int)) = some (.inr ()) := by
  intro d
  induction d with
  | zero =>
    intro i f hi hf
    cases f with
    | zero => omega
    | succ f =>
      simp only [F35_58, B35_58, iteP_eq]
      rw [if_neg (by simp only [decide_eq_true_eq]; omega)]
  | succ d ih =>
    intro i f hi hf
    cases f with
    | zero => omega
    | succ f =>
      simp only [F35_58, B35_58, iteP_eq]
      have hwi : within (i : Int) l.length = true := by unfold within; simp only [decide_eq_true_eq]; omega
      have hw : IntKind.wrap .i64 ((i : Int) + 1) = ((i + 1 : Nat) : Int) := by rw [wrap_i64 (by omega) (by omega)]; omega
      rw [if_pos (by simp only [decide_eq_true_eq]; omega), if_pos hwi, Int.toNat_natCast, List.getElem?_eq_getElem (show i < l.length by omega), Option.bind_some, if_pos hwi, Option.bind_some, if_neg (by simp), hw, ih (i + 1) f (by omega) (by omega)]
      rfl

theorem F35_same (l : List Tok) (hl : l.length ≤ 10000) : F35 200000 (l, l) = some true := by
  simp only [F35, iteP_eq]
  have h := F35_loop l hl l.length 0 200000 (by omega) (by omega)
  rw [show ((0 : Nat) : Int) = 0 from rfl] at h
  rw [if_neg (by simp), h, Option.bind_some]

/-! ### What has a code -/
theorem hasC_of {lens : List Int} {s : Nat} (h : s < lens.length) (h0 : 0 < lens.getD s 0) : hasC (codesOf lens) s = true := by
  unfold hasC
  rw [Bool.and_eq_true, decide_eq_true_eq, codesOf_len]
  refine ⟨h, ?_⟩
  rw [List.getD, codesOf_at lens h, codeAt_eq, if_pos h0]
  simp only [Option.getD_some, Bool.not_eq_true', beq_eq_false_iff_ne]
  omega

theorem allOk_of {A B : List Cod} {l : List Tok} (hv : validAll l = true) (hA : ∀ s, s < 286 → (s = 256 ∨ ∃ j, ∃ h : j < l.length, litS l[j] = s) → hasC A s = true)
    (hB : ∀ s, s < 30 → (∃ j, ∃ h : j < l.length, dstS l[j] = some s) → hasC B s = true) : allOk A B l = true := by
  unfold allOk
  rw [Bool.and_eq_true, List.all_eq_true]
  refine ⟨hA 256 (by omega) (.inl rfl), fun t ht => ?_⟩
  obtain ⟨j, hj, rfl⟩ := List.getElem_of_mem ht
  have hva := valid_at hv hj
  have eA : litS l[j] < 286 → hasC A (litS l[j]) = true := fun h => hA _ h (.inr ⟨j, hj, rfl⟩)
  have eB : ∀ s, s < 30 → dstS l[j] = some s → hasC B s = true := fun s h e => hB s h ⟨j, hj, e⟩
  generalize l[j] = t at *
  obtain ⟨b, L, D, u⟩ := t
  unfold tokOk
  rw [Bool.and_eq_true, Bool.or_eq_true, decide_eq_true_eq]
  rcases validT_all hva with ⟨e1, e2, e3, e4⟩ | ⟨e1, e2, e3, e4, e5, e6⟩
  · have e1 : L = 0 := e1
    have e3 : 0 ≤ b := e3
    have e4 : b ≤ 255 := e4
    exact ⟨eA (by unfold litS; rw [if_pos e1]; simp only; omega), .inl e1⟩
  · have e1 : L ≠ 0 := e1
    have e3 : 3 ≤ L := e3
    have e4 : L ≤ 258 := e4
    have e5 : 1 ≤ D := e5
    have e6 : D ≤ 32768 := e6
    obtain ⟨j, hj, ej, lj⟩ := lenOf_at e3 e4
    obtain ⟨k, hk, ek, lk⟩ := disOf_at e5 e6
    exact ⟨eA (by unfold litS; rw [if_neg e1]; simp only [ej]; omega), .inr (eB _ (by simp only [ek]; omega) (by unfold dstS; rw [if_neg e1]))⟩

/-! ### The fixed lengths -/
def fixL : List Int := List.replicate 144 8 ++ List.replicate 112 9 ++ List.replicate 24 7 ++ List.replicate 8 8
def fixD : List Int := List.replicate 30 5
theorem F31_fix : F31 200000 () = some (fixL, fixD) := by kernel_rfl
theorem fixL_chk : (chk fixL).2 = 0 := by decide +kernel
theorem fixD_chk : (chk fixD).2 = 0 := by decide +kernel
theorem fixL_len : fixL.length = 288 := by decide +kernel
theorem fixD_len : fixD.length = 30 := by decide +kernel
theorem fixL_pos : ∀ s, s < 286 → 0 < fixL.getD s 0 := by decide +kernel
theorem fixD_pos : ∀ s, s < 30 → 0 < fixD.getD s 0 := by decide +kernel
theorem fix_ok {l : List Tok} (hv : validAll l = true) : allOk (codesOf fixL) (codesOf fixD) l = true :=
  allOk_of hv (fun s h _ => hasC_of (by rw [fixL_len]; omega) (fixL_pos s h)) (fun s h _ => hasC_of (by rw [fixD_len]; omega) (fixD_pos s h))

/-! ### The best lengths of what comes -/
theorem cnts_getD' (n : Nat) (S : List Int) {i : Nat} (h : i < n) : (cnts n S).getD i 0 = ((S.count (i : Int) : Nat) : Int) := by
  rw [List.getD, cnts_get n S h]; rfl

theorem best_of {a : List Int} {n : Nat} {S : Nat → Prop} (h : CntAt a n 61 S) (hn : n ≤ 320) : ∃ r, F17 200000 (a, 15) = some (0, r) ∧ (chk r).2 = 0 ∧ ∀ s, s < n → S s → hasC (codesOf r) s = true := by
  obtain ⟨h1, h2, h3⟩ := h
  have ho : okF a = true := by
    unfold okF
    rw [List.all_eq_true]
    intro x hx
    obtain ⟨j, hj, rfl⟩ := List.getElem_of_mem hx
    have := h2 j (by omega)
    rw [getD_at hj] at this
    rw [Bool.and_eq_true, decide_eq_true_eq, decide_eq_true_eq]
    omega
  have hc := coinsTo_len a a.length
  have hlen := isort_len (coinsTo a a.length)
  have hb : (isort (coinsTo a a.length)).length ≤ 2 ^ 15 := by omega
  refine ⟨cnts a.length (pickS (isort (coinsTo a a.length)) 15), ?_, ?_, fun s hs hS => ?_⟩
  · rw [F17_lens]
    unfold lensR
    rw [if_neg (by simp only [ho, Bool.true_eq_false, or_false]; omega), show Int.toNat 15 = 15 from rfl, if_neg (by omega)]
  · rw [chk_best (by omega) (by omega) (by omega) hb]
  · obtain ⟨p1, p2, p3⟩ := pick_all (coins_ok a) (m := 15) (by omega) (by omega) hb
    refine hasC_of (by rw [cnts_len]; omega) ?_
    rw [cnts_getD' _ _ (by omega)]
    have := p1 _ ((mem_syms (fr := a) (i := s) (by omega)).2 ((h3 s hs).2 hS))
    omega

/-! ### Written and read again -/
theorem allB_append (a b : ByteArray) : allB (a ++ b) = allB a ++ allB b := by
  unfold allB
  rw [← bitsOf_append]
  rfl

theorem at_start (m : List Bool) (tail : ByteArray) : At (allB (strF m ++ tail)) 0 m := by
  rw [allB_append, allB_strF]
  unfold alignL
  exact ⟨[], List.replicate (padN m) false ++ allB tail, by simp only [List.nil_append, List.append_assoc], rfl⟩

theorem F34_back {A B : List Int} (hA : (chk A).2 = 0) (hB : (chk B).2 = 0) (l : List Tok) (hl : l.length ≤ 60) (hv : validAll l = true) (ho : allOk (codesOf A) (codesOf B) l = true) (tail : ByteArray) (ht : tail.size ≤ 60) :
    F34 200000 (A, B, 1073741824, strF (docW A B l).2 ++ tail, 0, 0) = some (0, strF (docW A B l).2 ++ tail, ((docW A B l).2.length : Int), 0, l) := by
  have hd : docW A B l = (0, bitsTo (codesOf A) (codesOf B) l l.length ++ codeBits (at_ (codesOf A) 256)) := by
    unfold docW
    rw [hv, ho, hA, hB]
    rfl
  have hm := docW_len A B l hl
  have hsz := strF_size (docW A B l).2
  have hr := read_back hA hB l hl hv ho (strF (docW A B l).2 ++ tail) (by rw [ByteArray.size_append]; omega) (by
    have := at_start (docW A B l).2 tail
    rw [hd] at this ⊢
    exact this) l.length 0 200000 0 (by omega) (by omega) (by omega) (by omega)
  simp only [F34, iteP_eq]
  rw [F20_new (by decide), Option.bind_some, F20_new (by decide), if_pos hA, if_pos hB]
  simp only [Option.bind_some]
  rw [if_neg (by decide), if_neg (by decide)]
  have e0 : (((bitsTo (codesOf A) (codesOf B) l 0).length : Nat) : Int) = 0 := by
    have : bitsTo (codesOf A) (codesOf B) l 0 = [] := rfl
    rw [this]; rfl
  rw [e0, List.take_zero] at hr
  rw [hr, Option.bind_some, hd]

theorem valid_loop3 (l : List Tok) (hl : l.length ≤ 60) (s : ByteArray) (b : Bool) : ∀ (d i f : Nat), i + d = l.length → d < f →
    ((∀ j (h : j < l.length), i ≤ j → validT l[j].1 l[j].2.1 l[j].2.2.1 = true) → F10_250 200000 f (s, l, (i : Int), b) = some (.inr (b, l, s))) ∧
    ((∃ j, ∃ h : j < l.length, i ≤ j ∧ validT l[j].1 l[j].2.1 l[j].2.2.1 = false) → F10_250 200000 f (s, l, (i : Int), b) = some (.inl b)) := by
  intro d
  induction d with
  | zero =>
    intro i f hi hf
    cases f with
    | zero => omega
    | succ f =>
      simp only [F10_250, B10_250, iteP_eq]
      rw [if_neg (by simp only [decide_eq_true_eq]; omega)]
      exact ⟨fun _ => rfl, fun ⟨j, h1, h2, _⟩ => by omega⟩
  | succ d ih =>
    intro i f hi hf
    cases f with
    | zero => omega
    | succ f =>
      obtain ⟨i1, i2⟩ := ih (i + 1) f (by omega) (by omega)
      have hil : i < l.length := by omega
      have hwi : within (i : Int) l.length = true := by unfold within; simp only [decide_eq_true_eq]; omega
      have hw : IntKind.wrap .i64 ((i : Int) + 1) = ((i + 1 : Nat) : Int) := by rw [wrap_i64 (by omega) (by omega)]; omega
      simp only [F10_250, B10_250, iteP_eq]
      rw [if_pos (by simp only [decide_eq_true_eq]; omega), if_pos hwi, Int.toNat_natCast, List.getElem?_eq_getElem hil, Option.bind_some, F30_valid, Option.bind_some, hw]
      cases hv : validT l[i].1 l[i].2.1 l[i].2.2.1 with
      | false =>
        refine ⟨fun h => ?_, fun _ => by simp⟩
        have := h i hil (Nat.le_refl _)
        rw [hv] at this; cases this
      | true =>
        simp only [Bool.not_true, Bool.false_eq_true, if_false]
        refine ⟨fun h => by rw [i1 fun j hj hij => h j hj (by omega)]; rfl, fun ⟨j, h1, h2, h3⟩ => ?_⟩
        rw [i2 ⟨j, h1, by
          by_cases e : j = i
          · subst e; rw [hv] at h3; cases h3
          · omega, h3⟩]
        rfl

theorem back_loop (l : List Tok) (hl : l.length ≤ 60) (hv : validAll l = true) (tail : ByteArray) (ht : tail.size ≤ 60) (b : Bool) :
    F10_506 200000 200000 (0, b, l, tail) = some (.inr b) := by
  have hround : ∀ A B : List Int, (chk A).2 = 0 → (chk B).2 = 0 → allOk (codesOf A) (codesOf B) l = true →
      F33 200000 (A, B, l, 0, 0, []) = some (0, lastF (docW A B l).2, nF (docW A B l).2, bF (docW A B l).2) := fun A B hA hB ho => by
    have h := F33_code A B l hl [] (by decide)
    have hd : (docW A B l).1 = 0 := by
      unfold docW
      rw [hv, ho, hA, hB]
      rfl
    rw [hd] at h
    exact h
  have e22 : ∀ s, F22 200000 s = some (s, 0, 0) := fun s => rfl
  have e25 : ∀ (q : ByteArray) (a b : Int), F25 200000 (q, a, b, ()) = some a := fun q a b => rfl
  obtain ⟨r, r1, r2, r3⟩ := F32_counts l hl hv
  obtain ⟨x, x1, x2, x3⟩ := best_of r2 (by decide)
  obtain ⟨y, y1, y2, y3⟩ := best_of r3 (by decide)
  have hxy : allOk (codesOf x) (codesOf y) l = true := allOk_of hv x3 y3
  have s1 := docW_len fixL fixD l hl
  have s2 := docW_len x y l hl
  have z1 := strF_size (docW fixL fixD l).2
  have z2 := strF_size (docW x y l).2
  have st2 : F10_506 200000 199998 (2, b, l, tail) = some (.inr b) := by
    show B10_506 200000 (F10_506 200000 199997) (2, b, l, tail) = _
    simp only [B10_506, iteP_eq]
    rw [if_neg (by decide)]
  have st1 : F10_506 200000 199999 (1, b, l, tail) = some (.inr b) := by
    show B10_506 200000 (F10_506 200000 199998) (1, b, l, tail) = _
    simp only [B10_506, iteP_eq]
    rw [if_pos (by decide), F31_fix, Option.bind_some, if_pos (by decide), r1, Option.bind_some, x1, Option.bind_some, y1, Option.bind_some]
    simp only
    rw [if_neg (by decide), if_neg (by decide), hround x y x2 y2 hxy, Option.bind_some]
    simp only
    rw [F27_string _ _ (by omega), Option.bind_some, if_neg (by simp only [decide_eq_true_eq]; omega), e22, Option.bind_some]
    simp only
    rw [F34_back x2 y2 l hl hv hxy tail ht, Option.bind_some]
    simp only
    rw [F35_same l (by omega), Option.bind_some, if_neg (by decide), if_neg (by decide), if_neg (by decide), e25, Option.bind_some, F28_len _ _ (by omega), Option.bind_some, if_neg (by simp)]
    rw [show IntKind.wrap .i64 ((1 : Int) + 1) = 2 from rfl, st2]
    rfl
  show B10_506 200000 (F10_506 200000 199999) (0, b, l, tail) = _
  simp only [B10_506, iteP_eq]
  rw [if_pos (by decide), F31_fix, Option.bind_some, if_neg (by decide)]
  simp only
  rw [hround fixL fixD fixL_chk fixD_chk (fix_ok hv), Option.bind_some]
  simp only
  rw [F27_string _ _ (by omega), Option.bind_some, if_neg (by simp only [decide_eq_true_eq]; omega), e22, Option.bind_some]
  simp only
  rw [F34_back fixL_chk fixD_chk l hl hv (fix_ok hv) tail ht, Option.bind_some]
  simp only
  rw [F35_same l (by omega), Option.bind_some, if_neg (by decide), if_neg (by decide), if_neg (by decide), e25, Option.bind_some, F28_len _ _ (by omega), Option.bind_some, if_neg (by simp)]
  rw [show IntKind.wrap .i64 ((0 : Int) + 1) = 1 from rfl, st1]
  rfl

theorem law10 (hw : F29 200000 () = some true) (l : List Tok) (tail : ByteArray) : F10 200000 (l, tail) = some true := by
  simp only [F10, iteP_eq]
  rw [hw, Option.bind_some, if_neg (by decide)]
  by_cases h1 : (60 : Int) < (l.length : Int)
  · rw [if_pos (by simpa using h1)]
  rw [if_neg (by simpa using h1)]
  by_cases h2 : (60 : Int) < (tail.size : Int)
  · rw [if_pos (by simpa using h2)]
  rw [if_neg (by simpa using h2)]
  obtain ⟨v1, v2⟩ := valid_loop3 l (by omega) tail true l.length 0 200000 (by omega) (by omega)
  rw [show ((0 : Nat) : Int) = 0 from rfl] at v1 v2
  cases hv : validAll l with
  | true =>
    rw [v1 (validAll_all hv), Option.bind_some]
    simp only
    rw [back_loop l (by omega) hv tail (by omega) true]
    rfl
  | false =>
    rw [v2 (all_bad hv)]
    rfl
end Go.Proofs.Ytpjkklailofkjaa.Am
