/- The Lean function that SymbolsRise comes to answers true at every input. -/
import Derived.Test.YtmcjfdognplgmaaSB
import Derived.Test.YtmcjfdognplgmaaAmC
namespace Go.Proofs.Ytmcjfdognplgmaa.Am
open Go.Am
set_option linter.unusedSimpArgs false
set_option linter.unusedVariables false

/-! ### The symbol of a number -/
def lastLe (tb : List Int) (n : Int) : Nat → Option Nat
  | 0 => none
  | i + 1 => if tb.getD i 0 ≤ n then some i else lastLe tb n i

theorem lastLe_some {tb : List Int} {n : Int} : ∀ {i j : Nat}, lastLe tb n i = some j → j < i ∧ tb.getD j 0 ≤ n ∧ ∀ k, j < k → k < i → n < tb.getD k 0
  | 0, j, h => by cases h
  | i + 1, j, h => by
    unfold lastLe at h
    split at h
    · cases h
      exact ⟨by omega, by assumption, fun k h1 h2 => by omega⟩
    · obtain ⟨h1, h2, h3⟩ := lastLe_some h
      refine ⟨by omega, h2, fun k k1 k2 => ?_⟩
      by_cases hk : k = i
      · subst hk; omega
      · exact h3 k k1 (by omega)

theorem lastLe_none {tb : List Int} {n : Int} : ∀ {i : Nat}, lastLe tb n i = none → ∀ k, k < i → n < tb.getD k 0
  | 0, h, k, hk => by omega
  | i + 1, h, k, hk => by
    unfold lastLe at h
    split at h
    · cases h
    · by_cases e : k = i
      · subst e; omega
      · exact lastLe_none h k (by omega)

/-- Both loops that look for a symbol, with what a symbol stands for left open. -/
def findL (G : Int → Option (Int × Int)) : Nat → (Int × Int × Int) → Option ((Int × Int × Int) ⊕ Unit)
  | 0, _ => none
  | k + 1, (x0, x1, x2) =>
    if (decide (x1 ≥ x0)) = true then
      Option.bind (G x1) fun y0 =>
      if (decide (Prod.fst y0 ≤ x2)) = true then
        some (.inl ((x1, IntKind.wrap IntKind.i64 (x2 - Prod.fst y0), Prod.snd y0)))
      else
        Option.bind (findL G k (x0, IntKind.wrap IntKind.i64 (x1 - (1 : Int)), x2)) fun r => match r with | .inl (y) => some (.inl (y)) | .inr (y) => some (.inr (y))
    else
      some (.inr (()))

theorem find_a (N : Nat) : ∀ k x, F36a_26 N k x = findL (F15 N) k x
  | 0, _ => rfl
  | k + 1, (x0, x1, x2) => by
    simp only [F36a_26, B36a_26, findL, find_a N k]
    rfl
theorem find_b (N : Nat) : ∀ k x, F36b_26 N k x = findL (F17 N) k x
  | 0, _ => rfl
  | k + 1, (x0, x1, x2) => by
    simp only [F36b_26, B36b_26, findL, find_b N k]
    rfl

def foundT (lb lx : List Int) (from_ n : Int) : Option Nat → (Int × Int × Int) ⊕ Unit
  | some j => .inl (from_ + j, n - lb.getD j 0, lx.getD j 0)
  | none => .inr ()

theorem findL_spec {G : Int → Option (Int × Int)} {lb lx : List Int} {from_ n : Int} (hf : 0 ≤ from_ ∧ from_ ≤ 1000) (hn : -9223372036854775808 ≤ n ∧ n ≤ 9223372036854775807) : ∀ (i f : Nat), i ≤ 1000 → (∀ j, j < i → G (from_ + j) = some (lb.getD j 0, lx.getD j 0) ∧ 0 ≤ lb.getD j 0 ∧ lb.getD j 0 ≤ 100000) → i < f →
    findL G f (from_, from_ + i - 1, n) = some (foundT lb lx from_ n (lastLe lb n i))
  | 0, 0, _, _, h => by omega
  | i + 1, 0, _, _, h => by omega
  | 0, f + 1, _, hG, h => by
    simp only [findL]
    rw [if_neg (by simp only [decide_eq_true_eq]; omega)]
    rfl
  | i + 1, f + 1, hi, hG, h => by
    obtain ⟨g1, g2, g3⟩ := hG i (by omega)
    simp only [findL]
    have e : from_ + ((i + 1 : Nat) : Int) - 1 = from_ + i := by omega
    rw [e, if_pos (by simp only [decide_eq_true_eq]; omega), g1, Option.bind_some]
    simp only [lastLe]
    by_cases hl : lb.getD i 0 ≤ n
    · rw [if_pos (by simpa using hl), if_pos hl, wrap_i64 (by omega) (by omega)]
      rfl
    · rw [if_neg (by simpa using hl), if_neg hl, wrap_i64 (by omega) (by omega), findL_spec hf hn i f (by omega) (fun j hj => hG j (by omega)) (by omega), Option.bind_some]
      cases lastLe lb n i <;> rfl

/-- The document's loop. -/
theorem doc_loop (N : Nat) (lb lx : List Int) (first n : Int) (hl : lb.length ≤ 1000) : ∀ (d k f : Nat), k + d = lb.length → d < f →
    F37_122 N f ((((lastLe lb n k).getD 0 : Nat) : Int), (k : Int), lx, first, lb, n) = some (first, n, lb, lx, (((lastLe lb n lb.length).getD 0 : Nat) : Int)) := by
  intro d
  induction d with
  | zero =>
    intro k f hk hf
    cases f with
    | zero => omega
    | succ f =>
      simp only [F37_122, B37_122]
      rw [if_neg (by simp only [decide_eq_true_eq]; omega), show k = lb.length by omega]
  | succ d ih =>
    intro k f hk hf
    cases f with
    | zero => omega
    | succ f =>
      simp only [F37_122, B37_122]
      have hw : IntKind.wrap .i64 ((k : Int) + 1) = ((k + 1 : Nat) : Int) := by rw [wrap_i64 (by omega) (by omega)]; omega
      have hg : lb.getD k 0 = lb[k] := by rw [List.getD, List.getElem?_eq_getElem (by omega)]; rfl
      have ih' := ih (k + 1) f (by omega) (by omega)
      simp only [lastLe] at ih'
      rw [hg] at ih'
      rw [if_pos (by simp only [decide_eq_true_eq]; omega), if_pos (by unfold within; simp only [decide_eq_true_eq]; omega), Int.toNat_natCast, List.getElem?_eq_getElem (by omega), Option.bind_some, hw]
      by_cases hle : lb[k] ≤ n
      · rw [if_pos (by simpa using hle)]
        rw [if_pos hle] at ih'
        rw [show ((k : Nat) : Int) = (((some k).getD 0 : Nat) : Int) from rfl] at *
        rw [ih', Option.bind_some]
      · rw [if_neg (by simpa using hle)]
        rw [if_neg hle] at ih'
        rw [ih', Option.bind_some]

def lenB : List Int := [3, 4, 5, 6, 7, 8, 9, 10, 11, 13, 15, 17, 19, 23, 27, 31, 35, 43, 51, 59, 67, 83, 99, 115, 131, 163, 195, 227, 258]
def lenX : List Int := [0, 0, 0, 0, 0, 0, 0, 0, 1, 1, 1, 1, 2, 2, 2, 2, 3, 3, 3, 3, 4, 4, 4, 4, 5, 5, 5, 5, 0]
def disB : List Int := [1, 2, 3, 4, 5, 7, 9, 13, 17, 25, 33, 49, 65, 97, 129, 193, 257, 385, 513, 769, 1025, 1537, 2049, 3073, 4097, 6145, 8193, 12289, 16385, 24577]
def disX : List Int := [0, 0, 0, 0, 1, 1, 2, 2, 3, 3, 4, 4, 5, 5, 6, 6, 7, 7, 8, 8, 9, 9, 10, 10, 11, 11, 12, 12, 13, 13]

theorem len_all : (List.range 29).all (fun i => F15 100000 (257 + (i : Int)) == some (lenB.getD i 0, lenX.getD i 0)) = true := by kernel_rfl
theorem dis_all : (List.range 30).all (fun i => F17 100000 (0 + (i : Int)) == some (disB.getD i 0, disX.getD i 0)) = true := by kernel_rfl

theorem len_at (i : Nat) (h : i < 29) : F15 100000 (257 + (i : Int)) = some (lenB.getD i 0, lenX.getD i 0) := by
  have := List.all_eq_true.1 len_all i (List.mem_range.2 h)
  simpa using this
theorem dis_at (i : Nat) (h : i < 30) : F17 100000 (0 + (i : Int)) = some (disB.getD i 0, disX.getD i 0) := by
  have := List.all_eq_true.1 dis_all i (List.mem_range.2 h)
  simpa using this

theorem len_bnd : ∀ i, i < 29 → 0 ≤ lenB.getD i 0 ∧ lenB.getD i 0 ≤ 100000 ∧ 3 ≤ lenB.getD i 0 := by decide +kernel
theorem dis_bnd : ∀ i, i < 30 → 0 ≤ disB.getD i 0 ∧ disB.getD i 0 ≤ 100000 ∧ 1 ≤ disB.getD i 0 := by decide +kernel

/-- A length's symbol. -/
def lenOf (n : Int) : Int × Int × Int := if n > 258 then (0, 0, 0) else match lastLe lenB n 29 with
  | some j => (257 + j, n - lenB.getD j 0, lenX.getD j 0)
  | none => (0, 0, 0)
def disOf (n : Int) : Int × Int × Int := if n > 32768 then (0, 0, 0) else match lastLe disB n 30 with
  | some j => (0 + j, n - disB.getD j 0, disX.getD j 0)
  | none => (0, 0, 0)

theorem F9_len (n : Int) (hn : -9223372036854775808 ≤ n ∧ n ≤ 9223372036854775807) : F9 100000 n = some (lenOf n) := by
  unfold lenOf
  simp only [F9]
  by_cases h : n > 258
  · rw [if_pos (by simpa using h), if_pos h]
  · rw [if_neg (by simpa using h), if_neg h]
    simp only [F36a, find_a]
    have := findL_spec (G := F15 100000) (lb := lenB) (lx := lenX) (from_ := 257) (n := n) (by omega) hn 29 100000 (by omega) (fun j hj => ⟨len_at j hj, (len_bnd j hj).1, (len_bnd j hj).2.1⟩) (by omega)
    rw [show (257 : Int) + ((29 : Nat) : Int) - 1 = 285 from rfl] at this
    rw [this, Option.bind_some]
    cases lastLe lenB n 29 <;> rfl

theorem F11_dis (n : Int) (hn : -9223372036854775808 ≤ n ∧ n ≤ 9223372036854775807) : F11 100000 n = some (disOf n) := by
  unfold disOf
  simp only [F11]
  by_cases h : n > 32768
  · rw [if_pos (by simpa using h), if_pos h]
  · rw [if_neg (by simpa using h), if_neg h]
    simp only [F36b, find_b]
    have := findL_spec (G := F17 100000) (lb := disB) (lx := disX) (from_ := 0) (n := n) (by omega) hn 30 100000 (by omega) (fun j hj => ⟨dis_at j hj, (dis_bnd j hj).1, (dis_bnd j hj).2.1⟩) (by omega)
    rw [show (0 : Int) + ((30 : Nat) : Int) - 1 = 29 from rfl] at this
    rw [this, Option.bind_some]
    cases lastLe disB n 30 <;> rfl

theorem doc_find {lb lx : List Int} {first n most b0 : Int} (hl : lb.length ≤ 1000) (hlx : lx.length = lb.length) (h0 : lb[0]? = some b0) (hge : ∀ k, k < lb.length → b0 ≤ lb.getD k 0) (hf : 0 ≤ first ∧ first ≤ 1000) (hm : most ≤ 100000) (hb : ∀ k, k < lb.length → 0 ≤ lb.getD k 0) :
    F37 100000 (lb, lx, first, n, most) = some (if n > most then (0, 0, 0) else match lastLe lb n lb.length with
      | some j => (first + j, n - lb.getD j 0, lx.getD j 0)
      | none => (0, 0, 0)) := by
  have hpos : 0 < lb.length := (List.getElem?_eq_some_iff.1 h0).1
  have hb0 : lb.getD 0 0 = b0 := by rw [List.getD, h0]; rfl
  simp only [F37]
  rw [if_pos (by unfold within; simp only [decide_eq_true_eq]; omega), h0, Option.bind_some]
  by_cases hlt : n < b0
  · rw [if_pos (by simpa using hlt)]
    cases hc : lastLe lb n lb.length with
    | none => split <;> rfl
    | some j =>
      obtain ⟨j1, j2, _⟩ := lastLe_some hc
      have := hge j j1
      omega
  · rw [if_neg (by simpa using hlt)]
    by_cases hgt : n > most
    · rw [if_pos (by simpa using hgt), if_pos hgt]
    · rw [if_neg (by simpa using hgt), if_neg hgt]
      have hd := doc_loop 100000 lb lx first n hl lb.length 0 100000 (by omega) (by omega)
      rw [show (((lastLe lb n 0).getD 0 : Nat) : Int) = 0 from rfl, show ((0 : Nat) : Int) = 0 from rfl] at hd
      rw [hd, Option.bind_some]
      cases hc : lastLe lb n lb.length with
      | none =>
        have := lastLe_none hc 0 hpos
        omega
      | some j =>
        obtain ⟨j1, j2, _⟩ := lastLe_some hc
        have hb1 := hb j j1
        have hg : lb[j]? = some (lb.getD j 0) := by rw [List.getD, List.getElem?_eq_getElem j1]; rfl
        have hg2 : lx[j]? = some (lx.getD j 0) := by rw [List.getD, List.getElem?_eq_getElem (by omega)]; rfl
        simp only [Option.getD_some]
        rw [if_pos (by unfold within; simp only [decide_eq_true_eq]; omega), Int.toNat_natCast, hg, Option.bind_some, if_pos (by unfold within; simp only [decide_eq_true_eq]; omega), hg2, Option.bind_some, wrap_i64 (by omega) (by omega), wrap_i64 (by omega) (by omega)]

theorem F10_len (n : Int) : F10 100000 n = some (lenOf n) := by
  simp only [F10, F13, Option.bind_some]
  have := doc_find (lb := lenB) (lx := lenX) (first := 257) (n := n) (most := 258) (b0 := 3) (by decide) rfl rfl (by decide +kernel) (by decide) (by decide) (by decide +kernel)
  have h2 : F37 100000 (lenB, lenX, 257, n, 258) = some (lenOf n) := this
  unfold lenB lenX at h2
  rw [h2, Option.bind_some]

theorem F12_dis (n : Int) : F12 100000 n = some (disOf n) := by
  simp only [F12, F14, Option.bind_some]
  have := doc_find (lb := disB) (lx := disX) (first := 0) (n := n) (most := 32768) (b0 := 1) (by decide) rfl rfl (by decide +kernel) (by decide) (by decide) (by decide +kernel)
  have h2 : F37 100000 (disB, disX, 0, n, 32768) = some (disOf n) := this
  unfold disB disX at h2
  rw [h2, Option.bind_some]

/-- What a symbol stands for. -/
def ofT (lb lx : List Int) (sym first : Int) : Int × Int := if sym < first ∨ sym - first ≥ lb.length then (0, 0) else (lb.getD (sym - first).toNat 0, lx.getD (sym - first).toNat 0)

theorem F16_of {lb lx : List Int} {sym first : Int} (hlx : lx.length = lb.length) (hf : 0 ≤ first ∧ first ≤ 1000) (hs : -9223372036854775808 ≤ sym ∧ sym ≤ 9223372036854775807) : F16 100000 (lb, lx, sym, first) = some (ofT lb lx sym first) := by
  unfold ofT
  simp only [F16]
  by_cases h : sym < first
  · rw [if_pos (by simpa using h), if_pos (.inl h)]
  · rw [if_neg (by simpa using h), wrap_i64 (by omega) (by omega)]
    by_cases h2 : sym - first ≥ lb.length
    · rw [if_pos (by simpa using h2), if_pos (.inr h2)]
    · rw [if_neg (by simpa using h2), if_neg (show ¬ (sym < first ∨ sym - first ≥ (lb.length : Int)) by omega)]
      obtain ⟨i, hi⟩ := Int.eq_ofNat_of_zero_le (show 0 ≤ sym - first by omega)
      rw [hi] at h2 ⊢
      have hg : lb[i]? = some (lb.getD i 0) := by rw [List.getD, List.getElem?_eq_getElem (by omega)]; rfl
      have hg2 : lx[i]? = some (lx.getD i 0) := by rw [List.getD, List.getElem?_eq_getElem (by omega)]; rfl
      rw [if_pos (by unfold within; simp only [decide_eq_true_eq]; omega), Int.toNat_natCast, hg, Option.bind_some, if_pos (by unfold within; simp only [decide_eq_true_eq]; omega), hg2, Option.bind_some]

theorem F15_of (sym : Int) (hs : -9223372036854775808 ≤ sym ∧ sym ≤ 9223372036854775807) : F15 100000 sym = some (ofT lenB lenX sym 257) := by
  unfold ofT
  have hl : lenB.length = 29 := rfl
  by_cases h : sym < 257
  · rw [if_pos (.inl h)]
    simp only [F15]
    rw [if_neg (by simp; omega), if_pos (by simpa using h)]
  · by_cases h2 : sym - 257 ≥ lenB.length
    · rw [if_pos (.inr h2)]
      simp only [F15]
      rw [if_neg (by simp; omega), if_neg (by simpa using h), if_pos (by simp; omega)]
    · rw [if_neg (by omega)]
      obtain ⟨i, hi⟩ := Int.eq_ofNat_of_zero_le (show 0 ≤ sym - 257 by omega)
      rw [hi, Int.toNat_natCast, show sym = 257 + (i : Int) by omega]
      exact len_at i (by omega)

theorem F17_of (sym : Int) (hs : -9223372036854775808 ≤ sym ∧ sym ≤ 9223372036854775807) : F17 100000 sym = some (ofT disB disX sym 0) := by
  unfold ofT
  have hl : disB.length = 30 := rfl
  by_cases h : sym < 0
  · rw [if_pos (.inl h)]
    simp only [F17]
    rw [if_pos (by simpa using h)]
  · by_cases h2 : sym - 0 ≥ disB.length
    · rw [if_pos (.inr h2)]
      simp only [F17]
      rw [if_neg (by simpa using h), if_pos (by simp; omega)]
    · rw [if_neg (by omega)]
      obtain ⟨i, hi⟩ := Int.eq_ofNat_of_zero_le (show 0 ≤ sym - 0 by omega)
      rw [hi, Int.toNat_natCast, show sym = 0 + (i : Int) by omega]
      exact dis_at i (by omega)

theorem law3 (hw : F8 100000 () = some true) (n sym : Int) (hn : -9223372036854775808 ≤ n ∧ n ≤ 9223372036854775807) (hs : -9223372036854775808 ≤ sym ∧ sym ≤ 9223372036854775807) : F3 100000 (n, sym) = some true := by
  simp only [F3]
  have e1 : F16 100000 (lenB, lenX, sym, 257) = _ := F16_of (lb := lenB) (lx := lenX) rfl (by decide) hs
  have e2 : F16 100000 (disB, disX, sym, 0) = _ := F16_of (lb := disB) (lx := disX) rfl (by decide) hs
  have e3 : F13 100000 () = some (lenB, lenX) := rfl
  have e4 : F14 100000 () = some (disB, disX) := rfl
  rw [hw, Option.bind_some, if_neg (by decide), F9_len n hn, Option.bind_some, F10_len, Option.bind_some, F11_dis n hn, Option.bind_some, F12_dis, Option.bind_some, e3, Option.bind_some, e4, Option.bind_some, F15_of sym hs, Option.bind_some, e1, Option.bind_some, F17_of sym hs, Option.bind_some, e2, Option.bind_some]
  simp
end Go.Proofs.Ytmcjfdognplgmaa.Am

namespace Go.Proofs.Ytmcjfdognplgmaa.Am
open Go.Am
theorem works8 : F8 100000 () = some true := by kernel_rfl
end Go.Proofs.Ytmcjfdognplgmaa.Am

namespace Go.Proofs.Ytmcjfdognplgmaa.Am
open Go.Am
set_option linter.unusedSimpArgs false
set_option linter.unusedVariables false

abbrev Tok := Int × (Int × (Int × Unit))
def inT (n a b : Int) : Bool := decide (a ≤ n) && decide (n ≤ b)
def validT (b l d : Int) : Bool := if l = 0 then (decide (d = 0) && inT b 0 255) else (decide (b = 0) && (inT l 3 258 && inT d 1 32768))

theorem F59_in (N : Nat) (n a b : Int) : F59 N (n, a, b) = some (inT n a b) := by
  unfold inT
  simp only [F59]
  by_cases h : a ≤ n <;> simp [h]

theorem F39_valid (N : Nat) (b l d : Int) : F39 N (b, l, d) = some (validT b l d) := by
  unfold validT
  simp only [F39, F59_in, Option.bind_some]
  by_cases h : l = 0
  · by_cases h2 : d = 0 <;> simp [h, h2]
  · by_cases h2 : b = 0
    · cases h3 : inT l 3 258 <;> simp [h, h2, h3]
    · simp [h, h2]

theorem F40_valid (N : Nat) (b l d : Int) : F40 N (b, l, d) = some (validT b l d) := by
  unfold validT inT
  simp only [F40]
  by_cases h : l = 0
  · by_cases h2 : d = 0
    · by_cases h3 : (0 : Int) ≤ b <;> simp [h, h2, h3]
    · simp [h, h2]
  · by_cases h2 : b = 0
    · by_cases h3 : (3 : Int) ≤ l
      · by_cases h4 : l ≤ 258
        · by_cases h5 : (1 : Int) ≤ d <;> simp [h, h2, h3, h4, h5]
        · simp [h, h2, h3, h4]
      · simp [h, h2, h3]
    · simp [h, h2]

theorem validT_spec {b l d : Int} (h : validT b l d = true) : (l = 0 ∧ 0 ≤ b ∧ b ≤ 255) ∨ (l ≠ 0 ∧ 3 ≤ l ∧ l ≤ 258 ∧ 1 ≤ d ∧ d ≤ 32768) := by
  unfold validT inT at h
  by_cases hl : l = 0
  · rw [if_pos hl] at h
    simp only [Bool.and_eq_true, decide_eq_true_eq] at h
    exact .inl ⟨hl, h.2⟩
  · rw [if_neg hl] at h
    simp only [Bool.and_eq_true, decide_eq_true_eq] at h
    exact .inr ⟨hl, h.2.1.1, h.2.1.2, h.2.2⟩

theorem lenOf_at {n : Int} (h1 : 3 ≤ n) (h2 : n ≤ 258) : ∃ j : Nat, j < 29 ∧ lenOf n = (((257 : Int) + (j : Int), n - lenB.getD j 0, lenX.getD j 0) : Int × Int × Int) ∧ lastLe lenB n 29 = some j := by
  unfold lenOf
  rw [if_neg (by omega)]
  cases h : lastLe lenB n 29 with
  | none =>
    have := lastLe_none h 0 (by omega)
    have e : lenB.getD 0 0 = 3 := rfl
    omega
  | some j => exact ⟨j, (lastLe_some h).1, rfl, rfl⟩

theorem disOf_at {n : Int} (h1 : 1 ≤ n) (h2 : n ≤ 32768) : ∃ j : Nat, j < 30 ∧ disOf n = (((0 : Int) + (j : Int), n - disB.getD j 0, disX.getD j 0) : Int × Int × Int) ∧ lastLe disB n 30 = some j := by
  unfold disOf
  rw [if_neg (by omega)]
  cases h : lastLe disB n 30 with
  | none =>
    have := lastLe_none h 0 (by omega)
    have e : disB.getD 0 0 = 1 := rfl
    omega
  | some j => exact ⟨j, (lastLe_some h).1, rfl, rfl⟩

theorem get_at {a : List Int} {i : Nat} (h : i < a.length) : a[i]? = some (a.getD i 0) := by
  rw [List.getD, List.getElem?_eq_getElem h]; rfl

/-- Both counts, side by side. -/
theorem counts_same (l : List Tok) (hl : l.length ≤ 60) : ∀ (d i f : Nat) (a b : List Int), i + d = l.length → d < f → a.length = 286 → b.length = 30 →
    ∃ r : List Int × List Int, F18_122 100000 f ((i : Int), (l.length : Int), l, a, b) = some r ∧ F19_250 100000 f ((i : Int), l, a, b) = some r ∧ r.1.length = 286 ∧ r.2.length = 30 := by
  intro d
  induction d with
  | zero =>
    intro i f a b hi hf ha hb
    cases f with
    | zero => omega
    | succ f =>
      have hc : decide ((i : Int) < (l.length : Int)) = false := by simp only [decide_eq_false_iff_not]; omega
      simp only [F18_122, B18_122, F19_250, B19_250, hc, Bool.false_eq_true, if_false]
      exact ⟨(a, b), rfl, rfl, ha, hb⟩
  | succ d ih =>
    intro i f a b hi hf ha hb
    cases f with
    | zero => omega
    | succ f =>
      have hli : l[i]? = some l[i] := List.getElem?_eq_getElem (by omega)
      have hw : IntKind.wrap .i64 ((i : Int) + 1) = ((i + 1 : Nat) : Int) := by rw [wrap_i64 (by omega) (by omega)]; omega
      have hwi : within (i : Int) l.length = true := by unfold within; simp only [decide_eq_true_eq]; omega
      have hc : decide ((i : Int) < (l.length : Int)) = true := by simp only [decide_eq_true_eq]; omega
      simp only [F18_122, B18_122, F19_250, B19_250, hc, hwi, if_true, Int.toNat_natCast, hli, Option.bind_some, hw]
      generalize l[i] = t
      obtain ⟨B, L, D, u⟩ := t
      simp only [F39_valid, F40_valid, Option.bind_some]
      cases hv : validT B L D with
      | false =>
        simp only [Bool.not_false, if_true]
        obtain ⟨r, r1, r2, r3⟩ := ih (i + 1) f a b (by omega) (by omega) ha hb
        exact ⟨r, by rw [r1]; rfl, by rw [r2]; rfl, r3⟩
      | true =>
        simp only [Bool.not_true, Bool.false_eq_true, if_false]
        rcases validT_spec hv with ⟨h0, h1, h2⟩ | ⟨h0, h1, h2, h3, h4⟩
        · have e0 : (L == (0 : Int)) = true := by simpa using h0
          have wB : within B a.length = true := by unfold within; simp only [decide_eq_true_eq]; omega
          have gB : a[Int.toNat B]? = some (a.getD (Int.toNat B) 0) := get_at (by omega)
          simp only [e0, if_true, wB, gB, Option.bind_some]
          obtain ⟨r, r1, r2, r3⟩ := ih (i + 1) f (a.set (Int.toNat B) (IntKind.wrap .i64 (a.getD (Int.toNat B) 0 + 1))) b (by omega) (by omega) (by simpa using ha) hb
          exact ⟨r, by rw [r1]; rfl, by rw [r2]; rfl, r3⟩
        · have e0 : ¬ (L == (0 : Int)) = true := by simpa using h0
          obtain ⟨j, hj, ej, _⟩ := lenOf_at h1 h2
          obtain ⟨k, hk, ek, _⟩ := disOf_at h3 h4
          have wJ : within (257 + (j : Int)) a.length = true := by unfold within; simp only [decide_eq_true_eq]; omega
          have wK : within (0 + (k : Int)) b.length = true := by unfold within; simp only [decide_eq_true_eq]; omega
          have gJ : a[Int.toNat (257 + (j : Int))]? = some (a.getD (Int.toNat (257 + (j : Int))) 0) := get_at (by omega)
          have gK : b[Int.toNat (0 + (k : Int))]? = some (b.getD (Int.toNat (0 + (k : Int))) 0) := get_at (by omega)
          simp only [if_neg e0, F9_len L (by omega), F11_dis D (by omega), F10_len, F12_dis, Option.bind_some, ej, ek, wJ, wK, gJ, gK, if_true]
          obtain ⟨r, r1, r2, r3⟩ := ih (i + 1) f (a.set (Int.toNat (257 + (j : Int))) (IntKind.wrap .i64 (a.getD (Int.toNat (257 + (j : Int))) 0 + 1))) (b.set (Int.toNat (0 + (k : Int))) (IntKind.wrap .i64 (b.getD (Int.toNat (0 + (k : Int))) 0 + 1))) (by omega) (by omega) (by simpa using ha) (by simpa using hb)
          exact ⟨r, by rw [r1]; rfl, by rw [r2]; rfl, r3⟩

theorem F22_loop (c : List Int) (hc : c.length ≤ 10000) : ∀ (d i f : Nat), i + d = c.length → d < f → F22_58 100000 f (c, c, (i : Int)) = some (.inr ()) := by
  intro d
  induction d with
  | zero =>
    intro i f hi hf
    cases f with
    | zero => omega
    | succ f =>
      simp only [F22_58, B22_58]
      rw [if_neg (by simp only [decide_eq_true_eq]; omega)]
  | succ d ih =>
    intro i f hi hf
    cases f with
    | zero => omega
    | succ f =>
      simp only [F22_58, B22_58]
      have hwi : within (i : Int) c.length = true := by unfold within; simp only [decide_eq_true_eq]; omega
      have hw : IntKind.wrap .i64 ((i : Int) + 1) = ((i + 1 : Nat) : Int) := by rw [wrap_i64 (by omega) (by omega)]; omega
      rw [if_pos (by simp only [decide_eq_true_eq]; omega), if_pos hwi, Int.toNat_natCast, get_at (show i < c.length by omega), Option.bind_some, if_pos hwi, Option.bind_some, if_neg (by simp), hw, ih (i + 1) f (by omega) (by omega)]
      rfl

theorem F22_same (c : List Int) (hc : c.length ≤ 10000) : F22 100000 (c, c) = some true := by
  simp only [F22]
  have h := F22_loop c hc c.length 0 100000 (by omega) (by omega)
  rw [show ((0 : Nat) : Int) = 0 from rfl] at h
  rw [if_neg (by simp), h, Option.bind_some]

theorem fixed_all : (match F20 100000 (), F21 100000 () with | some a, some b => a == b && Nat.ble a.1.length 10000 && Nat.ble a.2.length 10000 | _, _ => false) = true := by kernel_rfl

theorem fixed_same : ∃ a : List Int × List Int, F20 100000 () = some a ∧ F21 100000 () = some a ∧ a.1.length ≤ 10000 ∧ a.2.length ≤ 10000 := by
  have h := fixed_all
  cases h1 : F20 100000 () with
  | none => rw [h1] at h; cases h
  | some a =>
    cases h2 : F21 100000 () with
    | none => rw [h1, h2] at h; cases h
    | some b =>
      rw [h1, h2] at h
      simp only [Bool.and_eq_true, beq_iff_eq, Nat.ble_eq] at h
      obtain ⟨⟨rfl, h3⟩, h4⟩ := h
      exact ⟨a, rfl, rfl, h3, h4⟩

def lits0 : List Int := (List.replicate 286 0).set 256 1
def dists0 : List Int := List.replicate 30 0
theorem lits0_len : lits0.length = 286 := by unfold lits0; rw [List.length_set, List.length_replicate]
theorem dists0_len : dists0.length = 30 := by unfold dists0; rw [List.length_replicate]

theorem F18_def (l : List Tok) : F18 100000 l = Option.bind (F18_122 100000 100000 (0, (l.length : Int), l, lits0, dists0)) fun y0 => some (y0.1, y0.2) := by kernel_rfl
theorem F19_def (l : List Tok) : F19 100000 l = Option.bind (F19_250 100000 100000 (0, l, lits0, dists0)) fun y0 => some (y0.1, y0.2) := by kernel_rfl

theorem law4 (hw : F8 100000 () = some true) (l : List Tok) : F4 100000 l = some true := by
  simp only [F4]
  rw [hw, Option.bind_some, if_neg (by decide)]
  by_cases h : (60 : Int) < (l.length : Int)
  · rw [if_pos (by simpa using h)]
  rw [if_neg (by simpa using h)]
  obtain ⟨a, e1, e2, e3, e4⟩ := fixed_same
  have hc : ∃ r : List Int × List Int, F18 100000 l = some r ∧ F19 100000 l = some r ∧ r.1.length = 286 ∧ r.2.length = 30 := by
    obtain ⟨r, r1, r2, r3⟩ := counts_same l (by omega) l.length 0 100000 lits0 dists0 (by omega) (by omega) lits0_len dists0_len
    rw [show ((0 : Nat) : Int) = 0 from rfl] at r1 r2
    exact ⟨r, by rw [F18_def, r1]; rfl, by rw [F19_def, r2]; rfl, r3⟩
  obtain ⟨r, r1, r2, r3, r4⟩ := hc
  rw [r1, Option.bind_some, r2, Option.bind_some, e1, Option.bind_some, e2, Option.bind_some, F22_same r.1 (by omega), Option.bind_some, if_pos rfl, F22_same r.2 (by omega), Option.bind_some, F22_same a.1 e3, Option.bind_some, if_pos rfl, F22_same a.2 e4, Option.bind_some]
  rfl
end Go.Proofs.Ytmcjfdognplgmaa.Am

namespace Go.Proofs.Ytmcjfdognplgmaa.Am
open Go.Am
set_option linter.unusedSimpArgs false
set_option linter.unusedVariables false

theorem dis_next : ∀ j, j < 30 → (j + 1 < 30 → disB.getD (j + 1) 0 ≤ disB.getD j 0 + IntKind.wrap .i64 (1 * 2 ^ min (Int.toNat (disX.getD j 0)) 64)) ∧ (j + 1 = 30 → 32768 < disB.getD j 0 + IntKind.wrap .i64 (1 * 2 ^ min (Int.toNat (disX.getD j 0)) 64)) ∧ 0 ≤ disX.getD j 0 := by decide +kernel
theorem len_next : ∀ j, j < 29 → (j + 1 < 29 → lenB.getD (j + 1) 0 ≤ lenB.getD j 0 + IntKind.wrap .i64 (1 * 2 ^ min (Int.toNat (lenX.getD j 0)) 64)) ∧ (j + 1 = 29 → 258 < lenB.getD j 0 + IntKind.wrap .i64 (1 * 2 ^ min (Int.toNat (lenX.getD j 0)) 64)) ∧ 0 ≤ lenX.getD j 0 := by decide +kernel

/-- All about a number's symbol. -/
structure SymAt (tb tx : List Int) (n : Int) (j : Nat) : Prop where
  le : tb.getD j 0 ≤ n
  nn : 0 ≤ tb.getD j 0
  xn : 0 ≤ tx.getD j 0
  lt : n - tb.getD j 0 < IntKind.wrap .i64 (1 * 2 ^ min (Int.toNat (tx.getD j 0)) 64)

theorem dis_fact {n : Int} (h1 : 1 ≤ n) (h2 : n ≤ 32768) : ∃ j : Nat, j < 30 ∧ disOf n = (((0 : Int) + (j : Int), n - disB.getD j 0, disX.getD j 0) : Int × Int × Int) ∧ lastLe disB n 30 = some j ∧ SymAt disB disX n j := by
  obtain ⟨j, hj, e, hl⟩ := disOf_at h1 h2
  obtain ⟨k1, k2, k3⟩ := lastLe_some hl
  obtain ⟨n1, n2, n3⟩ := dis_next j hj
  have hb := dis_bnd j hj
  refine ⟨j, hj, e, hl, k2, hb.1, n3, ?_⟩
  by_cases hlast : j + 1 < 30
  · have := k3 (j + 1) (by omega) hlast
    have := n1 hlast
    omega
  · have := n2 (by omega)
    omega

theorem len_fact {n : Int} (h1 : 3 ≤ n) (h2 : n ≤ 258) : ∃ j : Nat, j < 29 ∧ lenOf n = (((257 : Int) + (j : Int), n - lenB.getD j 0, lenX.getD j 0) : Int × Int × Int) ∧ lastLe lenB n 29 = some j ∧ SymAt lenB lenX n j := by
  obtain ⟨j, hj, e, hl⟩ := lenOf_at h1 h2
  obtain ⟨k1, k2, k3⟩ := lastLe_some hl
  obtain ⟨n1, n2, n3⟩ := len_next j hj
  have hb := len_bnd j hj
  refine ⟨j, hj, e, hl, k2, hb.1, n3, ?_⟩
  by_cases hlast : j + 1 < 29
  · have := k3 (j + 1) (by omega) hlast
    have := n1 hlast
    omega
  · have := n2 (by omega)
    omega

theorem last_mono {tb : List Int} {n m : Int} {i j k : Nat} (hnm : n ≤ m) (h1 : lastLe tb n i = some j) (h2 : lastLe tb m i = some k) : j ≤ k := by
  obtain ⟨a1, a2, a3⟩ := lastLe_some h1
  obtain ⟨b1, b2, b3⟩ := lastLe_some h2
  by_cases h : j ≤ k
  · exact h
  · have := b3 j (by omega) a1
    omega

theorem rise_len {n m : Int} (h1 : 3 ≤ n) (h2 : n ≤ m) (h3 : m ≤ 258) (y : Bool) :
    (Option.bind (F9 100000 n) fun y7 =>
      Option.bind (F9 100000 m) fun y8 =>
      Option.bind (F15 100000 (Prod.fst y7)) fun y9 =>
      if true = true then
        if (decide (Prod.fst y8 ≥ Prod.fst y7)) = true then
          if (Prod.fst y7 != Prod.fst y8) = true then
            if (IntKind.wrap IntKind.i64 (Prod.fst y9 + Prod.fst (Prod.snd y7)) == n) = true then
              if (Prod.snd y9 == Prod.snd (Prod.snd y7)) = true then
                if (decide (Prod.snd (Prod.snd y7) < (0 : Int))) = true then
                  none
                else
                  some (decide (Prod.fst (Prod.snd y7) < IntKind.wrap IntKind.i64 ((1 : Int) * (2 : Int) ^ min (Int.toNat (Prod.snd (Prod.snd y7))) (64 : Nat))))
              else
                some (false)
            else
              some (false)
          else
            if (IntKind.wrap IntKind.i64 (Prod.fst (Prod.snd y8) - Prod.fst (Prod.snd y7)) == IntKind.wrap IntKind.i64 (m - n)) = true then
              if (Prod.snd (Prod.snd y7) == Prod.snd (Prod.snd y8)) = true then
                if (IntKind.wrap IntKind.i64 (Prod.fst y9 + Prod.fst (Prod.snd y7)) == n) = true then
                  if (Prod.snd y9 == Prod.snd (Prod.snd y7)) = true then
                    if (decide (Prod.snd (Prod.snd y7) < (0 : Int))) = true then
                      none
                    else
                      some (decide (Prod.fst (Prod.snd y7) < IntKind.wrap IntKind.i64 ((1 : Int) * (2 : Int) ^ min (Int.toNat (Prod.snd (Prod.snd y7))) (64 : Nat))))
                  else
                    some (false)
                else
                  some (false)
              else
                some (false)
            else
              some (false)
        else
          some (false)
      else
        some (false)) = some true := by
  obtain ⟨j, hj, ej, lj, sj⟩ := len_fact h1 (by omega : n ≤ 258)
  obtain ⟨k, hk, ek, lk, sk⟩ := len_fact (by omega : 3 ≤ m) h3
  have hm := last_mono h2 lj lk
  have s1 := sj.le
  have s2 := sj.nn
  have s3 := sj.xn
  have s4 := sj.lt
  rw [F9_len n (by omega), Option.bind_some, F9_len m (by omega), Option.bind_some, ej, ek]
  simp only
  rw [len_at j hj, Option.bind_some, if_pos trivial]
  simp only
  rw [if_pos (by simp only [decide_eq_true_eq]; omega)]
  have w1 : IntKind.wrap .i64 (lenB.getD j 0 + (n - lenB.getD j 0)) = n := by rw [wrap_i64 (by omega) (by omega)]; omega
  by_cases hjk : j = k
  · subst hjk
    rw [if_neg (by simp), show (m - lenB.getD j 0 - (n - lenB.getD j 0)) = m - n by omega, if_pos (by simp), if_pos (by simp), w1, if_pos (by simp), if_pos (by simp), if_neg (by simp only [decide_eq_true_eq]; omega)]
    exact congrArg some (decide_eq_true s4)
  · rw [if_pos (by simp; omega), w1, if_pos (by simp), if_pos (by simp), if_neg (by simp only [decide_eq_true_eq]; omega)]
    exact congrArg some (decide_eq_true s4)

theorem law5 (hw : F8 100000 () = some true) (n m : Int) (hn : -9223372036854775808 ≤ n ∧ n ≤ 9223372036854775807) (hm : -9223372036854775808 ≤ m ∧ m ≤ 9223372036854775807) : F5 100000 (n, m) = some true := by
  simp only [F5]
  rw [hw, Option.bind_some, if_neg (by decide)]
  by_cases h1 : n < 1
  · rw [if_pos (by simpa using h1)]
  rw [if_neg (by simpa using h1)]
  by_cases h2 : m < n
  · rw [if_pos (by simpa using h2)]
  rw [if_neg (by simpa using h2)]
  by_cases h3 : m > 32768
  · rw [if_pos (by simpa using h3)]
  rw [if_neg (by simpa using h3)]
  obtain ⟨j, hj, ej, lj, sj⟩ := dis_fact (by omega : 1 ≤ n) (by omega)
  obtain ⟨k, hk, ek, lk, sk⟩ := dis_fact (by omega : 1 ≤ m) (by omega)
  have hmo := last_mono (by omega : n ≤ m) lj lk
  have s1 := sj.le
  have s2 := sj.nn
  have s3 := sj.xn
  have s4 := sj.lt
  rw [F11_dis n (by omega), Option.bind_some, F11_dis m (by omega), Option.bind_some, ej, ek]
  simp only
  rw [dis_at j hj, Option.bind_some]
  simp only
  rw [if_neg (by simp only [decide_eq_true_eq]; omega)]
  have w1 : IntKind.wrap .i64 (disB.getD j 0 + (n - disB.getD j 0)) = n := by rw [wrap_i64 (by omega) (by omega)]; omega
  have fin := fun (h4 : ¬ n < 3) (h5 : ¬ m > 258) => rise_len (by omega : 3 ≤ n) (by omega : n ≤ m) (by omega : m ≤ 258) true
  by_cases hjk : j = k
  · subst hjk
    rw [if_pos (by simp), show (m - disB.getD j 0 - (n - disB.getD j 0)) = m - n by omega, if_neg (by simp), if_neg (by simp), w1, if_neg (by simp), if_neg (by simp), if_neg (by simp only [decide_eq_true_eq]; omega), if_neg (by simp only [decide_eq_true_eq]; omega)]
    by_cases h4 : n < 3
    · rw [if_pos (by simpa using h4)]
    rw [if_neg (by simpa using h4)]
    by_cases h5 : m > 258
    · rw [if_pos (by simpa using h5)]
    rw [if_neg (by simpa using h5)]
    exact fin h4 h5
  · rw [if_neg (by simp; omega), w1, if_neg (by simp), if_neg (by simp), if_neg (by simp only [decide_eq_true_eq]; omega), if_neg (by simp only [decide_eq_true_eq]; omega)]
    by_cases h4 : n < 3
    · rw [if_pos (by simpa using h4)]
    rw [if_neg (by simpa using h4)]
    by_cases h5 : m > 258
    · rw [if_pos (by simpa using h5)]
    rw [if_neg (by simpa using h5)]
    exact fin h4 h5
end Go.Proofs.Ytmcjfdognplgmaa.Am
