/- Symbols' lengths, distances, counts and codes, as the code and the document have them. -/
import Derived.Test.YtmcjfdognplgmaaSB
import Derived.Test.YtmcjfdognplgmaaAmC
import Derived.Test.YtmcjfdognplgmaaSC
namespace Go.Proofs.Ytmcjfdognplgmaa.Am
open Go.Am
set_option linter.unusedSimpArgs false
set_option linter.unusedVariables false

/-! ### The symbol of a number -/
def lastLe (tb : List Int) (n : Int) : Nat → Option Nat
  | 0 => none
  | i + 1 => if tb.getD i 0 ≤ n then some i else lastLe tb n i

theorem lastLe_some {tb : List Int} {n : Int} : ∀ {i j : Nat}, lastLe tb n i = some j → j < i ∧ tb.getD j 0 ≤ n ∧ ∀ k, j < k → k < i → n < tb.getD k 0
  | 0, j, h => by cases h
  | i + 1, j, h => by
    unfold lastLe at h
    split at h
    · cases h
      exact ⟨by omega, by assumption, fun k h1 h2 => by omega⟩
    · obtain ⟨h1, h2, h3⟩ := lastLe_some h
      refine ⟨by omega, h2, fun k k1 k2 => ?_⟩
      by_cases hk : k = i
      · subst hk; omega
      · exact h3 k k1 (by omega)

theorem lastLe_none {tb : List Int} {n : Int} : ∀ {i : Nat}, lastLe tb n i = none → ∀ k, k < i → n < tb.getD k 0
  | 0, h, k, hk => by omega
  | i + 1, h, k, hk => by
    unfold lastLe at h
    split at h
    · cases h
    · by_cases e : k = i
      · subst e; omega
      · exact lastLe_none h k (by omega)

/-- Both loops that look for a symbol, with what a symbol stands for left open. -/
def findL (G : Int → Option (Int × Int)) : Nat → (Int × Int × Int) → Option ((Int × Int × Int) ⊕ Unit)
  | 0, _ => none
  | k + 1, (x0, x1, x2) =>
    if (decide (x1 ≥ x0)) = true then
      Option.bind (G x1) fun y0 =>
      if (decide (Prod.fst y0 ≤ x2)) = true then
        some (.inl ((x1, IntKind.wrap IntKind.i64 (x2 - Prod.fst y0), Prod.snd y0)))
      else
        Option.bind (findL G k (x0, IntKind.wrap IntKind.i64 (x1 - (1 : Int)), x2)) fun r => match r with | .inl (y) => some (.inl (y)) | .inr (y) => some (.inr (y))
    else
      some (.inr (()))

theorem find_a (N : Nat) : ∀ k x, F36a_26 N k x = findL (F15 N) k x
  | 0, _ => rfl
  | k + 1, (x0, x1, x2) => by
    simp only [F36a_26, B36a_26, findL, find_a N k]
    rfl
theorem find_b (N : Nat) : ∀ k x, F36b_26 N k x = findL (F17 N) k x
  | 0, _ => rfl
  | k + 1, (x0, x1, x2) => by
    simp only [F36b_26, B36b_26, findL, find_b N k]
    rfl

def foundT (lb lx : List Int) (from_ n : Int) : Option Nat → (Int × Int × Int) ⊕ Unit
  | some j => .inl (from_ + j, n - lb.getD j 0, lx.getD j 0)
  | none => .inr ()

theorem findL_spec {G : Int → Option (Int × Int)} {lb lx : List Int} {from_ n : Int} (hf : 0 ≤ from_ ∧ from_ ≤ 1000) (hn : -9223372036854775808 ≤ n ∧ n ≤ 9223372036854775807) : ∀ (i f : Nat), i ≤ 1000 → (∀ j, j < i → G (from_ + j) = some (lb.getD j 0, lx.getD j 0) ∧ 0 ≤ lb.getD j 0 ∧ lb.getD j 0 ≤ 100000) → i < f →
    findL G f (from_, from_ + i - 1, n) = some (foundT lb lx from_ n (lastLe lb n i))
  | 0, 0, _, _, h => by omega
  | i + 1, 0, _, _, h => by omega
  | 0, f + 1, _, hG, h => by
    simp only [findL]
    rw [if_neg (by simp only [decide_eq_true_eq]; omega)]
    rfl
  | i + 1, f + 1, hi, hG, h => by
    obtain ⟨g1, g2, g3⟩ := hG i (by omega)
    simp only [findL]
    have e : from_ + ((i + 1 : Nat) : Int) - 1 = from_ + i := by omega
    rw [e, if_pos (by simp only [decide_eq_true_eq]; omega), g1, Option.bind_some]
    simp only [lastLe]
    by_cases hl : lb.getD i 0 ≤ n
    · rw [if_pos (by simpa using hl), if_pos hl, wrap_i64 (by omega) (by omega)]
      rfl
    · rw [if_neg (by simpa using hl), if_neg hl, wrap_i64 (by omega) (by omega), findL_spec hf hn i f (by omega) (fun j hj => hG j (by omega)) (by omega), Option.bind_some]
      cases lastLe lb n i <;> rfl

/-- The document's loop. -/
theorem doc_loop (N : Nat) (lb lx : List Int) (first n : Int) (hl : lb.length ≤ 1000) : ∀ (d k f : Nat), k + d = lb.length → d < f →
    F37_122 N f ((((lastLe lb n k).getD 0 : Nat) : Int), (k : Int), lx, first, lb, n) = some (first, n, lb, lx, (((lastLe lb n lb.length).getD 0 : Nat) : Int)) := by
  intro d
  induction d with
  | zero =>
    intro k f hk hf
    cases f with
    | zero => omega
    | succ f =>
      simp only [F37_122, B37_122]
      rw [if_neg (by simp only [decide_eq_true_eq]; omega), show k = lb.length by omega]
  | succ d ih =>
    intro k f hk hf
    cases f with
    | zero => omega
    | succ f =>
      simp only [F37_122, B37_122]
      have hw : IntKind.wrap .i64 ((k : Int) + 1) = ((k + 1 : Nat) : Int) := by rw [wrap_i64 (by omega) (by omega)]; omega
      have hg : lb.getD k 0 = lb[k] := by rw [List.getD, List.getElem?_eq_getElem (by omega)]; rfl
      have ih' := ih (k + 1) f (by omega) (by omega)
      simp only [lastLe] at ih'
      rw [hg] at ih'
      rw [if_pos (by simp only [decide_eq_true_eq]; omega), if_pos (by unfold within; simp only [decide_eq_true_eq]; omega), Int.toNat_natCast, List.getElem?_eq_getElem (by omega), Option.bind_some, hw]
      by_cases hle : lb[k] ≤ n
      · rw [if_pos (by simpa using hle)]
        rw [if_pos hle] at ih'
        rw [show ((k : Nat) : Int) = (((some k).getD 0 : Nat) : Int) from rfl] at *
        rw [ih', Option.bind_some]
      · rw [if_neg (by simpa using hle)]
        rw [if_neg hle] at ih'
        rw [ih', Option.bind_some]

def lenB : List Int := [3, 4, 5, 6, 7, 8, 9, 10, 11, 13, 15, 17, 19, 23, 27, 31, 35, 43, 51, 59, 67, 83, 99, 115, 131, 163, 195, 227, 258]
def lenX : List Int := [0, 0, 0, 0, 0, 0, 0, 0, 1, 1, 1, 1, 2, 2, 2, 2, 3, 3, 3, 3, 4, 4, 4, 4, 5, 5, 5, 5, 0]
def disB : List Int := [1, 2, 3, 4, 5, 7, 9, 13, 17, 25, 33, 49, 65, 97, 129, 193, 257, 385, 513, 769, 1025, 1537, 2049, 3073, 4097, 6145, 8193, 12289, 16385, 24577]
def disX : List Int := [0, 0, 0, 0, 1, 1, 2, 2, 3, 3, 4, 4, 5, 5, 6, 6, 7, 7, 8, 8, 9, 9, 10, 10, 11, 11, 12, 12, 13, 13]

theorem len_all : (List.range 29).all (fun i => F15 100000 (257 + (i : Int)) == some (lenB.getD i 0, lenX.getD i 0)) = true := by kernel_rfl
theorem dis_all : (List.range 30).all (fun i => F17 100000 (0 + (i : Int)) == some (disB.getD i 0, disX.getD i 0)) = true := by kernel_rfl

theorem len_at (i : Nat) (h : i < 29) : F15 100000 (257 + (i : Int)) = some (lenB.getD i 0, lenX.getD i 0) := by
  have := List.all_eq_true.1 len_all i (List.mem_range.2 h)
  simpa using this
theorem dis_at (i : Nat) (h : i < 30) : F17 100000 (0 + (i : Int)) = some (disB.getD i 0, disX.getD i 0) := by
  have := List.all_eq_true.1 dis_all i (List.mem_range.2 h)
  simpa using this

theorem len_bnd : ∀ i, i < 29 → 0 ≤ lenB.getD i 0 ∧ lenB.getD i 0 ≤ 100000 ∧ 3 ≤ lenB.getD i 0 := by decide +kernel
theorem dis_bnd : ∀ i, i < 30 → 0 ≤ disB.getD i 0 ∧ disB.getD i 0 ≤ 100000 ∧ 1 ≤ disB.getD i 0 := by decide +kernel

/-- A length's symbol. -/
def lenOf (n : Int) : Int × Int × Int := if n > 258 then (0, 0, 0) else match lastLe lenB n 29 with
  | some j => (257 + j, n - lenB.getD j 0, lenX.getD j 0)
  | none => (0, 0, 0)
def disOf (n : Int) : Int × Int × Int := if n > 32768 then (0, 0, 0) else match lastLe disB n 30 with
  | some j => (0 + j, n - disB.getD j 0, disX.getD j 0)
  | none => (0, 0, 0)

theorem F9_len (n : Int) (hn : -9223372036854775808 ≤ n ∧ n ≤ 9223372036854775807) : F9 100000 n = some (lenOf n) := by
  unfold lenOf
  simp only [F9]
  by_cases h : n > 258
  · rw [if_pos (by simpa using h), if_pos h]
  · rw [if_neg (by simpa using h), if_neg h]
    simp only [F36a, find_a]
    have := findL_spec (G := F15 100000) (lb := lenB) (lx := lenX) (from_ := 257) (n := n) (by omega) hn 29 100000 (by omega) (fun j hj => ⟨len_at j hj, (len_bnd j hj).1, (len_bnd j hj).2.1⟩) (by omega)
    rw [show (257 : Int) + ((29 : Nat) : Int) - 1 = 285 from rfl] at this
    rw [this, Option.bind_some]
    cases lastLe lenB n 29 <;> rfl

theorem F11_dis (n : Int) (hn : -9223372036854775808 ≤ n ∧ n ≤ 9223372036854775807) : F11 100000 n = some (disOf n) := by
  unfold disOf
  simp only [F11]
  by_cases h : n > 32768
  · rw [if_pos (by simpa using h), if_pos h]
  · rw [if_neg (by simpa using h), if_neg h]
    simp only [F36b, find_b]
    have := findL_spec (G := F17 100000) (lb := disB) (lx := disX) (from_ := 0) (n := n) (by omega) hn 30 100000 (by omega) (fun j hj => ⟨dis_at j hj, (dis_bnd j hj).1, (dis_bnd j hj).2.1⟩) (by omega)
    rw [show (0 : Int) + ((30 : Nat) : Int) - 1 = 29 from rfl] at this
    rw [this, Option.bind_some]
    cases lastLe disB n 30 <;> rfl

theorem doc_find {lb lx : List Int} {first n most b0 : Int} (hl : lb.length ≤ 1000) (hlx : lx.length = lb.length) (h0 : lb[0]? = some b0) (hge : ∀ k, k < lb.length → b0 ≤ lb.getD k 0) (hf : 0 ≤ first ∧ first ≤ 1000) (hm : most ≤ 100000) (hb : ∀ k, k < lb.length → 0 ≤ lb.getD k 0) :
    F37 100000 (lb, lx, first, n, most) = some (if n > most then (0, 0, 0) else match lastLe lb n lb.length with
      | some j => (first + j, n - lb.getD j 0, lx.getD j 0)
      | none => (0, 0, 0)) := by
  have hpos : 0 < lb.length := (List.getElem?_eq_some_iff.1 h0).1
  have hb0 : lb.getD 0 0 = b0 := by rw [List.getD, h0]; rfl
  simp only [F37]
  rw [if_pos (by unfold within; simp only [decide_eq_true_eq]; omega), h0, Option.bind_some]
  by_cases hlt : n < b0
  · rw [if_pos (by simpa using hlt)]
    cases hc : lastLe lb n lb.length with
    | none => split <;> rfl
    | some j =>
      obtain ⟨j1, j2, _⟩ := lastLe_some hc
      have := hge j j1
      omega
  · rw [if_neg (by simpa using hlt)]
    by_cases hgt : n > most
    · rw [if_pos (by simpa using hgt), if_pos hgt]
    · rw [if_neg (by simpa using hgt), if_neg hgt]
      have hd := doc_loop 100000 lb lx first n hl lb.length 0 100000 (by omega) (by omega)
      rw [show (((lastLe lb n 0).getD 0 : Nat) : Int) = 0 from rfl, show ((0 : Nat) : Int) = 0 from rfl] at hd
      rw [hd, Option.bind_some]
      cases hc : lastLe lb n lb.length with
      | none =>
        have := lastLe_none hc 0 hpos
        omega
      | some j =>
        obtain ⟨j1, j2, _⟩ := lastLe_some hc
        have hb1 := hb j j1
        have hg : lb[j]? = some (lb.getD j 0) := by rw [List.getD, List.getElem?_eq_getElem j1]; rfl
        have hg2 : lx[j]? = some (lx.getD j 0) := by rw [List.getD, List.getElem?_eq_getElem (by omega)]; rfl
        simp only [Option.getD_some]
        rw [if_pos (by unfold within; simp only [decide_eq_true_eq]; omega), Int.toNat_natCast, hg, Option.bind_some, if_pos (by unfold within; simp only [decide_eq_true_eq]; omega), hg2, Option.bind_some, wrap_i64 (by omega) (by omega), wrap_i64 (by omega) (by omega)]

theorem F10_len (n : Int) : F10 100000 n = some (lenOf n) := by
  simp only [F10, F13, Option.bind_some]
  have := doc_find (lb := lenB) (lx := lenX) (first := 257) (n := n) (most := 258) (b0 := 3) (by decide) rfl rfl (by decide +kernel) (by decide) (by decide) (by decide +kernel)
  have h2 : F37 100000 (lenB, lenX, 257, n, 258) = some (lenOf n) := this
  unfold lenB lenX at h2
  rw [h2, Option.bind_some]

theorem F12_dis (n : Int) : F12 100000 n = some (disOf n) := by
  simp only [F12, F14, Option.bind_some]
  have := doc_find (lb := disB) (lx := disX) (first := 0) (n := n) (most := 32768) (b0 := 1) (by decide) rfl rfl (by decide +kernel) (by decide) (by decide) (by decide +kernel)
  have h2 : F37 100000 (disB, disX, 0, n, 32768) = some (disOf n) := this
  unfold disB disX at h2
  rw [h2, Option.bind_some]

/-- What a symbol stands for. -/
def ofT (lb lx : List Int) (sym first : Int) : Int × Int := if sym < first ∨ sym - first ≥ lb.length then (0, 0) else (lb.getD (sym - first).toNat 0, lx.getD (sym - first).toNat 0)

theorem F16_of {lb lx : List Int} {sym first : Int} (hlx : lx.length = lb.length) (hf : 0 ≤ first ∧ first ≤ 1000) (hs : -9223372036854775808 ≤ sym ∧ sym ≤ 9223372036854775807) : F16 100000 (lb, lx, sym, first) = some (ofT lb lx sym first) := by
  unfold ofT
  simp only [F16]
  by_cases h : sym < first
  · rw [if_pos (by simpa using h), if_pos (.inl h)]
  · rw [if_neg (by simpa using h), wrap_i64 (by omega) (by omega)]
    by_cases h2 : sym - first ≥ lb.length
    · rw [if_pos (by simpa using h2), if_pos (.inr h2)]
    · rw [if_neg (by simpa using h2), if_neg (show ¬ (sym < first ∨ sym - first ≥ (lb.length : Int)) by omega)]
      obtain ⟨i, hi⟩ := Int.eq_ofNat_of_zero_le (show 0 ≤ sym - first by omega)
      rw [hi] at h2 ⊢
      have hg : lb[i]? = some (lb.getD i 0) := by rw [List.getD, List.getElem?_eq_getElem (by omega)]; rfl
      have hg2 : lx[i]? = some (lx.getD i 0) := by rw [List.getD, List.getElem?_eq_getElem (by omega)]; rfl
      rw [if_pos (by unfold within; simp only [decide_eq_true_eq]; omega), Int.toNat_natCast, hg, Option.bind_some, if_pos (by unfold within; simp only [decide_eq_true_eq]; omega), hg2, Option.bind_some]

theorem F15_of (sym : Int) (hs : -9223372036854775808 ≤ sym ∧ sym ≤ 9223372036854775807) : F15 100000 sym = some (ofT lenB lenX sym 257) := by
  unfold ofT
  have hl : lenB.length = 29 := rfl
  by_cases h : sym < 257
  · rw [if_pos (.inl h)]
    simp only [F15]
    rw [if_neg (by simp; omega), if_pos (by simpa using h)]
  · by_cases h2 : sym - 257 ≥ lenB.length
    · rw [if_pos (.inr h2)]
      simp only [F15]
      rw [if_neg (by simp; omega), if_neg (by simpa using h), if_pos (by simp; omega)]
    · rw [if_neg (by omega)]
      obtain ⟨i, hi⟩ := Int.eq_ofNat_of_zero_le (show 0 ≤ sym - 257 by omega)
      rw [hi, Int.toNat_natCast, show sym = 257 + (i : Int) by omega]
      exact len_at i (by omega)

theorem F17_of (sym : Int) (hs : -9223372036854775808 ≤ sym ∧ sym ≤ 9223372036854775807) : F17 100000 sym = some (ofT disB disX sym 0) := by
  unfold ofT
  have hl : disB.length = 30 := rfl
  by_cases h : sym < 0
  · rw [if_pos (.inl h)]
    simp only [F17]
    rw [if_pos (by simpa using h)]
  · by_cases h2 : sym - 0 ≥ disB.length
    · rw [if_pos (.inr h2)]
      simp only [F17]
      rw [if_neg (by simpa using h), if_pos (by simp; omega)]
    · rw [if_neg (by omega)]
      obtain ⟨i, hi⟩ := Int.eq_ofNat_of_zero_le (show 0 ≤ sym - 0 by omega)
      rw [hi, Int.toNat_natCast, show sym = 0 + (i : Int) by omega]
      exact dis_at i (by omega)

theorem law3 (hw : F8 100000 () = some true) (n sym : Int) (hn : -9223372036854775808 ≤ n ∧ n ≤ 9223372036854775807) (hs : -9223372036854775808 ≤ sym ∧ sym ≤ 9223372036854775807) : F3 100000 (n, sym) = some true := by
  simp only [F3]
  have e1 : F16 100000 (lenB, lenX, sym, 257) = _ := F16_of (lb := lenB) (lx := lenX) rfl (by decide) hs
  have e2 : F16 100000 (disB, disX, sym, 0) = _ := F16_of (lb := disB) (lx := disX) rfl (by decide) hs
  have e3 : F13 100000 () = some (lenB, lenX) := rfl
  have e4 : F14 100000 () = some (disB, disX) := rfl
  rw [hw, Option.bind_some, if_neg (by decide), F9_len n hn, Option.bind_some, F10_len, Option.bind_some, F11_dis n hn, Option.bind_some, F12_dis, Option.bind_some, e3, Option.bind_some, e4, Option.bind_some, F15_of sym hs, Option.bind_some, e1, Option.bind_some, F17_of sym hs, Option.bind_some, e2, Option.bind_some]
  simp
end Go.Proofs.Ytmcjfdognplgmaa.Am

namespace Go.Proofs.Ytmcjfdognplgmaa.Am
open Go.Am
theorem works8 : F8 100000 () = some true := by kernel_rfl
end Go.Proofs.Ytmcjfdognplgmaa.Am

namespace Go.Proofs.Ytmcjfdognplgmaa.Am
open Go.Am
set_option linter.unusedSimpArgs false
set_option linter.unusedVariables false

abbrev Tok := Int × (Int × (Int × Unit))
def inT (n a b : Int) : Bool := decide (a ≤ n) && decide (n ≤ b)
def validT (b l d : Int) : Bool := if l = 0 then (decide (d = 0) && inT b 0 255) else (decide (b = 0) && (inT l 3 258 && inT d 1 32768))

theorem F59_in (N : Nat) (n a b : Int) : F59 N (n, a, b) = some (inT n a b) := by
  unfold inT
  simp only [F59]
  by_cases h : a ≤ n <;> simp [h]

theorem F39_valid (N : Nat) (b l d : Int) : F39 N (b, l, d) = some (validT b l d) := by
  unfold validT
  simp only [F39, F59_in, Option.bind_some]
  by_cases h : l = 0
  · by_cases h2 : d = 0 <;> simp [h, h2]
  · by_cases h2 : b = 0
    · cases h3 : inT l 3 258 <;> simp [h, h2, h3]
    · simp [h, h2]

theorem F40_valid (N : Nat) (b l d : Int) : F40 N (b, l, d) = some (validT b l d) := by
  unfold validT inT
  simp only [F40]
  by_cases h : l = 0
  · by_cases h2 : d = 0
    · by_cases h3 : (0 : Int) ≤ b <;> simp [h, h2, h3]
    · simp [h, h2]
  · by_cases h2 : b = 0
    · by_cases h3 : (3 : Int) ≤ l
      · by_cases h4 : l ≤ 258
        · by_cases h5 : (1 : Int) ≤ d <;> simp [h, h2, h3, h4, h5]
        · simp [h, h2, h3, h4]
      · simp [h, h2, h3]
    · simp [h, h2]

theorem validT_spec {b l d : Int} (h : validT b l d = true) : (l = 0 ∧ 0 ≤ b ∧ b ≤ 255) ∨ (l ≠ 0 ∧ 3 ≤ l ∧ l ≤ 258 ∧ 1 ≤ d ∧ d ≤ 32768) := by
  unfold validT inT at h
  by_cases hl : l = 0
  · rw [if_pos hl] at h
    simp only [Bool.and_eq_true, decide_eq_true_eq] at h
    exact .inl ⟨hl, h.2⟩
  · rw [if_neg hl] at h
    simp only [Bool.and_eq_true, decide_eq_true_eq] at h
    exact .inr ⟨hl, h.2.1.1, h.2.1.2, h.2.2⟩

theorem lenOf_at {n : Int} (h1 : 3 ≤ n) (h2 : n ≤ 258) : ∃ j : Nat, j < 29 ∧ lenOf n = (((257 : Int) + (j : Int), n - lenB.getD j 0, lenX.getD j 0) : Int × Int × Int) ∧ lastLe lenB n 29 = some j := by
  unfold lenOf
  rw [if_neg (by omega)]
  cases h : lastLe lenB n 29 with
  | none =>
    have := lastLe_none h 0 (by omega)
    have e : lenB.getD 0 0 = 3 := rfl
    omega
  | some j => exact ⟨j, (lastLe_some h).1, rfl, rfl⟩

theorem disOf_at {n : Int} (h1 : 1 ≤ n) (h2 : n ≤ 32768) : ∃ j : Nat, j < 30 ∧ disOf n = (((0 : Int) + (j : Int), n - disB.getD j 0, disX.getD j 0) : Int × Int × Int) ∧ lastLe disB n 30 = some j := by
  unfold disOf
  rw [if_neg (by omega)]
  cases h : lastLe disB n 30 with
  | none =>
    have := lastLe_none h 0 (by omega)
    have e : disB.getD 0 0 = 1 := rfl
    omega
  | some j => exact ⟨j, (lastLe_some h).1, rfl, rfl⟩

theorem get_at {a : List Int} {i : Nat} (h : i < a.length) : a[i]? = some (a.getD i 0) := by
  rw [List.getD, List.getElem?_eq_getElem h]; rfl

/-- Both counts, side by side. -/
theorem counts_same (l : List Tok) (hl : l.length ≤ 60) : ∀ (d i f : Nat) (a b : List Int), i + d = l.length → d < f → a.length = 286 → b.length = 30 →
    ∃ r : List Int × List Int, F18_122 100000 f ((i : Int), (l.length : Int), l, a, b) = some r ∧ F19_250 100000 f ((i : Int), l, a, b) = some r ∧ r.1.length = 286 ∧ r.2.length = 30 := by
  intro d
  induction d with
  | zero =>
    intro i f a b hi hf ha hb
    cases f with
    | zero => omega
    | succ f =>
      have hc : decide ((i : Int) < (l.length : Int)) = false := by simp only [decide_eq_false_iff_not]; omega
      simp only [F18_122, B18_122, F19_250, B19_250, hc, Bool.false_eq_true, if_false]
      exact ⟨(a, b), rfl, rfl, ha, hb⟩
  | succ d ih =>
    intro i f a b hi hf ha hb
    cases f with
    | zero => omega
    | succ f =>
      have hli : l[i]? = some l[i] := List.getElem?_eq_getElem (by omega)
      have hw : IntKind.wrap .i64 ((i : Int) + 1) = ((i + 1 : Nat) : Int) := by rw [wrap_i64 (by omega) (by omega)]; omega
      have hwi : within (i : Int) l.length = true := by unfold within; simp only [decide_eq_true_eq]; omega
      have hc : decide ((i : Int) < (l.length : Int)) = true := by simp only [decide_eq_true_eq]; omega
      simp only [F18_122, B18_122, F19_250, B19_250, hc, hwi, if_true, Int.toNat_natCast, hli, Option.bind_some, hw]
      generalize l[i] = t
      obtain ⟨B, L, D, u⟩ := t
      simp only [F39_valid, F40_valid, Option.bind_some]
      cases hv : validT B L D with
      | false =>
        simp only [Bool.not_false, if_true]
        obtain ⟨r, r1, r2, r3⟩ := ih (i + 1) f a b (by omega) (by omega) ha hb
        exact ⟨r, by rw [r1]; rfl, by rw [r2]; rfl, r3⟩
      | true =>
        simp only [Bool.not_true, Bool.false_eq_true, if_false]
        rcases validT_spec hv with ⟨h0, h1, h2⟩ | ⟨h0, h1, h2, h3, h4⟩
        · have e0 : (L == (0 : Int)) = true := by simpa using h0
          have wB : within B a.length = true := by unfold within; simp only [decide_eq_true_eq]; omega
          have gB : a[Int.toNat B]? = some (a.getD (Int.toNat B) 0) := get_at (by omega)
          simp only [e0, if_true, wB, gB, Option.bind_some]
          obtain ⟨r, r1, r2, r3⟩ := ih (i + 1) f (a.set (Int.toNat B) (IntKind.wrap .i64 (a.getD (Int.toNat B) 0 + 1))) b (by omega) (by omega) (by simpa using ha) hb
          exact ⟨r, by rw [r1]; rfl, by rw [r2]; rfl, r3⟩
        · have e0 : ¬ (L == (0 : Int)) = true := by simpa using h0
          obtain ⟨j, hj, ej, _⟩ := lenOf_at h1 h2
          obtain ⟨k, hk, ek, _⟩ := disOf_at h3 h4
          have wJ : within (257 + (j : Int)) a.length = true := by unfold within; simp only [decide_eq_true_eq]; omega
          have wK : within (0 + (k : Int)) b.length = true := by unfold within; simp only [decide_eq_true_eq]; omega
          have gJ : a[Int.toNat (257 + (j : Int))]? = some (a.getD (Int.toNat (257 + (j : Int))) 0) := get_at (by omega)
          have gK : b[Int.toNat (0 + (k : Int))]? = some (b.getD (Int.toNat (0 + (k : Int))) 0) := get_at (by omega)
          simp only [if_neg e0, F9_len L (by omega), F11_dis D (by omega), F10_len, F12_dis, Option.bind_some, ej, ek, wJ, wK, gJ, gK, if_true]
          obtain ⟨r, r1, r2, r3⟩ := ih (i + 1) f (a.set (Int.toNat (257 + (j : Int))) (IntKind.wrap .i64 (a.getD (Int.toNat (257 + (j : Int))) 0 + 1))) (b.set (Int.toNat (0 + (k : Int))) (IntKind.wrap .i64 (b.getD (Int.toNat (0 + (k : Int))) 0 + 1))) (by omega) (by omega) (by simpa using ha) (by simpa using hb)
          exact ⟨r, by rw [r1]; rfl, by rw [r2]; rfl, r3⟩

theorem F22_loop (c : List Int) (hc : c.length ≤ 10000) : ∀ (d i f : Nat), i + d = c.length → d < f → F22_58 100000 f (c, c, (i : Int)) = some (.inr ()) := by
  intro d
  induction d with
  | zero =>
    intro i f hi hf
    cases f with
    | zero => omega
    | succ f =>
      simp only [F22_58, B22_58]
      rw [if_neg (by simp only [decide_eq_true_eq]; omega)]
  | succ d ih =>
    intro i f hi hf
    cases f with
    | zero => omega
    | succ f =>
      simp only [F22_58, B22_58]
      have hwi : within (i : Int) c.length = true := by unfold within; simp only [decide_eq_true_eq]; omega
      have hw : IntKind.wrap .i64 ((i : Int) + 1) = ((i + 1 : Nat) : Int) := by rw [wrap_i64 (by omega) (by omega)]; omega
      rw [if_pos (by simp only [decide_eq_true_eq]; omega), if_pos hwi, Int.toNat_natCast, get_at (show i < c.length by omega), Option.bind_some, if_pos hwi, Option.bind_some, if_neg (by simp), hw, ih (i + 1) f (by omega) (by omega)]
      rfl

theorem F22_same (c : List Int) (hc : c.length ≤ 10000) : F22 100000 (c, c) = some true := by
  simp only [F22]
  have h := F22_loop c hc c.length 0 100000 (by omega) (by omega)
  rw [show ((0 : Nat) : Int) = 0 from rfl] at h
  rw [if_neg (by simp), h, Option.bind_some]

theorem fixed_all : (match F20 100000 (), F21 100000 () with | some a, some b => a == b && Nat.ble a.1.length 10000 && Nat.ble a.2.length 10000 | _, _ => false) = true := by kernel_rfl

theorem fixed_same : ∃ a : List Int × List Int, F20 100000 () = some a ∧ F21 100000 () = some a ∧ a.1.length ≤ 10000 ∧ a.2.length ≤ 10000 := by
  have h := fixed_all
  cases h1 : F20 100000 () with
  | none => rw [h1] at h; cases h
  | some a =>
    cases h2 : F21 100000 () with
    | none => rw [h1, h2] at h; cases h
    | some b =>
      rw [h1, h2] at h
      simp only [Bool.and_eq_true, beq_iff_eq, Nat.ble_eq] at h
      obtain ⟨⟨rfl, h3⟩, h4⟩ := h
      exact ⟨a, rfl, rfl, h3, h4⟩

def lits0 : List Int := (List.replicate 286 0).set 256 1
def dists0 : List Int := List.replicate 30 0
theorem lits0_len : lits0.length = 286 := by unfold lits0; rw [List.length_set, List.length_replicate]
theorem dists0_len : dists0.length = 30 := by unfold dists0; rw [List.length_replicate]

theorem F18_def (l : List Tok) : F18 100000 l = Option.bind (F18_122 100000 100000 (0, (l.length : Int), l, lits0, dists0)) fun y0 => some (y0.1, y0.2) := by kernel_rfl
theorem F19_def (l : List Tok) : F19 100000 l = Option.bind (F19_250 100000 100000 (0, l, lits0, dists0)) fun y0 => some (y0.1, y0.2) := by kernel_rfl

theorem law4 (hw : F8 100000 () = some true) (l : List Tok) : F4 100000 l = some true := by
  simp only [F4]
  rw [hw, Option.bind_some, if_neg (by decide)]
  by_cases h : (60 : Int) < (l.length : Int)
  · rw [if_pos (by simpa using h)]
  rw [if_neg (by simpa using h)]
  obtain ⟨a, e1, e2, e3, e4⟩ := fixed_same
  have hc : ∃ r : List Int × List Int, F18 100000 l = some r ∧ F19 100000 l = some r ∧ r.1.length = 286 ∧ r.2.length = 30 := by
    obtain ⟨r, r1, r2, r3⟩ := counts_same l (by omega) l.length 0 100000 lits0 dists0 (by omega) (by omega) lits0_len dists0_len
    rw [show ((0 : Nat) : Int) = 0 from rfl] at r1 r2
    exact ⟨r, by rw [F18_def, r1]; rfl, by rw [F19_def, r2]; rfl, r3⟩
  obtain ⟨r, r1, r2, r3, r4⟩ := hc
  rw [r1, Option.bind_some, r2, Option.bind_some, e1, Option.bind_some, e2, Option.bind_some, F22_same r.1 (by omega), Option.bind_some, if_pos rfl, F22_same r.2 (by omega), Option.bind_some, F22_same a.1 e3, Option.bind_some, if_pos rfl, F22_same a.2 e4, Option.bind_some]
  rfl
end Go.Proofs.Ytmcjfdognplgmaa.Am

namespace Go.Proofs.Ytmcjfdognplgmaa.Am
open Go.Am
set_option linter.unusedSimpArgs false
set_option linter.unusedVariables false

/-! ### Lengths of codes: how many of each -/
def cntL (p : List Int) : List Int := (List.range 16).map fun (l : Nat) => ((p.count (l : Int) : Nat) : Int)
theorem cntL_len (p : List Int) : (cntL p).length = 16 := by simp [cntL]
theorem cntL_get (p : List Int) {k : Nat} (h : k < 16) : (cntL p)[k]? = some (p.count (k : Int) : Int) := by
  unfold cntL; rw [List.getElem?_map, List.getElem?_range h]; rfl

theorem cntL_snoc (p : List Int) {x : Nat} (hx : x < 16) : (cntL p).set x ((p.count (x : Int) : Int) + 1) = cntL (p ++ [(x : Int)]) := by
  apply List.ext_getElem?
  intro k
  by_cases hk : k < 16
  · rw [cntL_get _ hk, List.count_append]
    by_cases e : x = k
    · subst e
      rw [List.getElem?_set_self (by rw [cntL_len]; exact hx)]
      simp
    · rw [List.getElem?_set_ne e, cntL_get _ hk, List.count_singleton]
      have : ((x : Int) == (k : Int)) = false := by simp; omega
      simp [this]
  · rw [List.getElem?_eq_none (by rw [List.length_set, cntL_len]; omega), List.getElem?_eq_none (by rw [cntL_len]; omega)]

def okB (lens : List Int) : Bool := lens.all fun x => decide (0 ≤ x) && decide (x ≤ 15)

theorem okB_at {lens : List Int} (h : okB lens = true) {i : Nat} (hi : i < lens.length) : 0 ≤ lens[i] ∧ lens[i] ≤ 15 := by
  have := List.all_eq_true.1 h _ (List.getElem_mem hi)
  simpa using this

theorem F61_loop (N : Nat) (lens m : List Int) (hl : lens.length ≤ 320) : ∀ (d i f : Nat), i + d = lens.length → d < f →
    (okB (lens.drop i) = true → F61_122 N f ((lens.length : Int), lens, (i : Int), cntL (lens.take i), m) = some (.inr (cntL lens, m))) ∧
    (okB (lens.drop i) = false → ∃ c, F61_122 N f ((lens.length : Int), lens, (i : Int), cntL (lens.take i), m) = some (.inl (50, c))) := by
  intro d
  induction d with
  | zero =>
    intro i f hi hf
    cases f with
    | zero => omega
    | succ f =>
      have e : lens.drop i = [] := List.drop_eq_nil_of_le (by omega)
      rw [e]
      refine ⟨fun _ => ?_, fun h => by cases h⟩
      simp only [F61_122, B61_122]
      rw [if_neg (by simp only [decide_eq_true_eq]; omega), List.take_of_length_le (by omega)]
  | succ d ih =>
    intro i f hi hf
    cases f with
    | zero => omega
    | succ f =>
      have hd : lens.drop i = lens[i] :: lens.drop (i + 1) := List.drop_eq_getElem_cons (by omega)
      have ih' := ih (i + 1) f (by omega) (by omega)
      have hw : IntKind.wrap .i64 ((i : Int) + 1) = ((i + 1 : Nat) : Int) := by rw [wrap_i64 (by omega) (by omega)]; omega
      have ht : lens.take (i + 1) = lens.take i ++ [lens[i]] := by rw [List.take_add_one, List.getElem?_eq_getElem (by omega)]; rfl
      have hok : okB (lens.drop i) = ((decide (0 ≤ lens[i]) && decide (lens[i] ≤ 15)) && okB (lens.drop (i + 1))) := by rw [hd]; rfl
      simp only [F61_122, B61_122]
      rw [if_pos (show decide ((i : Int) < (lens.length : Int)) = true by simp only [decide_eq_true_eq]; omega), if_pos (show within (i : Int) lens.length = true by unfold within; simp only [decide_eq_true_eq]; omega), Int.toNat_natCast, List.getElem?_eq_getElem (show i < lens.length by omega), Option.bind_some]
      by_cases h1 : lens[i] < 0
      · have hf : okB (lens.drop i) = false := by rw [hok, decide_eq_false (show ¬ 0 ≤ lens[i] by omega)]; rfl
        rw [hf, if_pos (by simpa using h1)]
        exact ⟨fun h => (by cases h), fun _ => ⟨_, rfl⟩⟩
      by_cases h2 : lens[i] > 15
      · have hf : okB (lens.drop i) = false := by rw [hok, decide_eq_false (show ¬ lens[i] ≤ 15 by omega), Bool.and_false]; rfl
        rw [hf, if_neg (by simpa using h1), if_pos (by simpa using h2)]
        exact ⟨fun h => (by cases h), fun _ => ⟨_, rfl⟩⟩
      have hok2 : okB (lens.drop i) = okB (lens.drop (i + 1)) := by rw [hok, decide_eq_true (show 0 ≤ lens[i] by omega), decide_eq_true (show lens[i] ≤ 15 by omega)]; rfl
      obtain ⟨x, hx⟩ := Int.eq_ofNat_of_zero_le (show 0 ≤ lens[i] by omega)
      rw [hok2, if_neg (by simpa using h1), if_neg (by simpa using h2)]
      rw [ht] at ih'
      rw [hx] at ih' ⊢
      have hx16 : x < 16 := by omega
      have hcl : (lens.take i).count (x : Int) ≤ 320 := Nat.le_trans List.count_le_length (by rw [List.length_take]; omega)
      rw [if_pos (show within (x : Int) 16 = true by unfold within; simp only [decide_eq_true_eq]; omega), Int.toNat_natCast, cntL_get _ hx16, Option.bind_some, if_pos (show within (x : Int) 16 = true by unfold within; simp only [decide_eq_true_eq]; omega), Option.bind_some, hw, wrap_i64 (by omega) (by omega), cntL_snoc _ hx16]
      refine ⟨fun h => ?_, fun h => ?_⟩
      · rw [ih'.1 h]; rfl
      · obtain ⟨c, hc⟩ := ih'.2 h
        rw [hc]
        exact ⟨c, rfl⟩

/-- May the lengths be, as far as each one goes? -/
def okL (lens : List Int) : Bool := decide (lens.length ≤ 320) && okB lens

theorem cntL_nil : cntL [] = [0, 0, 0, 0, 0, 0, 0, 0, 0, 0, 0, 0, 0, 0, 0, 0] := rfl

theorem F61_spec {N : Nat} (hN : 400 ≤ N) (lens : List Int) : ∃ c, F61 N lens = some (c, bif okL lens then 0 else 50) ∧ (okL lens = true → c = cntL lens) := by
  unfold okL
  simp only [F61]
  by_cases h : (320 : Int) < (lens.length : Int)
  · rw [if_pos (by simpa using h), decide_eq_false (show ¬ lens.length ≤ 320 by omega)]
    exact ⟨_, rfl, fun hh => by cases hh⟩
  · rw [if_neg (by simpa using h), decide_eq_true (show lens.length ≤ 320 by omega), Bool.true_and]
    have hl := F61_loop N lens [0, 0, 0, 0, 0, 0, 0, 0, 0, 0, 0, 0, 0, 0, 0, 0] (by omega) lens.length 0 N (by omega) (by omega)
    rw [List.drop_zero, List.take_zero, cntL_nil, show ((0 : Nat) : Int) = 0 from rfl] at hl
    cases hb : okB lens with
    | true =>
      rw [hl.1 hb, Option.bind_some]
      exact ⟨_, rfl, fun _ => rfl⟩
    | false =>
      obtain ⟨c, hc⟩ := hl.2 hb
      rw [hc, Option.bind_some]
      exact ⟨_, rfl, fun h => by cases h⟩

/-! ### The room that is left -/
def lf (lens : List Int) : Nat → Int
  | 0 => 1
  | l + 1 => 2 * lf lens l - (lens.count ((l + 1 : Nat) : Int) : Int)

theorem lf_neg (lens : List Int) (l k : Nat) (h : lf lens l < 0) : lf lens (l + k) < 0 := by
  induction k with
  | zero => exact h
  | succ k ih => rw [← Nat.add_assoc, lf]; omega

theorem lf_le (lens : List Int) : ∀ l, lf lens l ≤ 2 ^ l
  | 0 => by rw [lf]; decide
  | l + 1 => by
    have := lf_le lens l
    rw [lf, Int.pow_succ]
    omega

theorem F60_loop (N : Nat) (lens : List Int) (hl : lens.length ≤ 320) : ∀ (d l f : Nat), l + d = 15 → d + 1 < f → 0 ≤ lf lens l →
    ∃ z, F60_122 N f (lf lens l, 0, ((l + 1 : Nat) : Int), cntL lens) = some (if 0 ≤ lf lens 15 then (lf lens 15, 0) else (z, 50)) := by
  intro d
  induction d with
  | zero =>
    intro l f hi hf h0
    cases f with
    | zero => omega
    | succ f =>
      have : l = 15 := by omega
      subst this
      simp only [F60_122, B60_122]
      refine ⟨0, ?_⟩
      rw [if_neg (by decide), if_pos h0]
  | succ d ih =>
    intro l f hi hf h0
    cases f with
    | zero => omega
    | succ f =>
      have hb := lf_le lens l
      have hp : (2 : Int) ^ l ≤ 32768 := by
        have : (2 : Nat) ^ l ≤ 2 ^ 15 := Nat.pow_le_pow_right (by decide) (by omega)
        have h2 : ((2 ^ l : Nat) : Int) ≤ ((2 ^ 15 : Nat) : Int) := Int.ofNat_le.2 this
        simpa using h2
      have hc : lens.count ((l + 1 : Nat) : Int) ≤ 320 := Nat.le_trans List.count_le_length hl
      have e : lf lens (l + 1) = 2 * lf lens l - (lens.count ((l + 1 : Nat) : Int) : Int) := rfl
      simp only [F60_122, B60_122]
      rw [if_pos (by simp only [decide_eq_true_eq]; omega), if_pos (by simp), if_pos (show within ((l + 1 : Nat) : Int) 16 = true by unfold within; simp only [decide_eq_true_eq]; omega), Int.toNat_natCast, cntL_get _ (by omega), Option.bind_some, wrap_i64 (z := lf lens l * 2) (by omega) (by omega), wrap_i64 (z := lf lens l * 2 - _) (by omega) (by omega), wrap_i64 (z := ((l + 1 : Nat) : Int) + 1) (by omega) (by omega), show lf lens l * 2 - (lens.count ((l + 1 : Nat) : Int) : Int) = lf lens (l + 1) by rw [e]; omega]
      by_cases hneg : lf lens (l + 1) < 0
      · rw [if_pos (by simpa using hneg)]
        have h15 : lf lens 15 < 0 := by
          have := lf_neg lens (l + 1) (15 - (l + 1)) hneg
          rwa [show l + 1 + (15 - (l + 1)) = 15 by omega] at this
        cases f with
        | zero => omega
        | succ f =>
          simp only [F60_122, B60_122]
          refine ⟨lf lens (l + 1), ?_⟩
          rw [if_neg (show ¬ 0 ≤ lf lens 15 by omega)]
          split <;> rfl
      · rw [if_neg (by simpa using hneg)]
        obtain ⟨z, hz⟩ := ih (l + 1) f (by omega) (by omega) (by omega)
        rw [show ((l + 1 : Nat) : Int) + 1 = ((l + 1 + 1 : Nat) : Int) by omega, hz]
        exact ⟨z, rfl⟩

/-- What 'Check' tells. -/
def chk (lens : List Int) : Int × Int := if okL lens = true ∧ 0 ≤ lf lens 15 then (lf lens 15, 0) else (0, 50)

theorem F60_chk {N : Nat} (hN : 400 ≤ N) (lens : List Int) : F60 N lens = some (chk lens) := by
  obtain ⟨c, hc, hcc⟩ := F61_spec hN lens
  unfold chk
  simp only [F60]
  rw [hc, Option.bind_some]
  simp only
  cases hok : okL lens with
  | false =>
    rw [if_neg (by simp)]
    simp only [cond_false]
    cases N with
    | zero => omega
    | succ N =>
      simp only [F60_122, B60_122]
      rw [if_pos (by decide), if_neg (by decide), Option.bind_some, if_pos (by decide)]
  | true =>
    rw [hcc hok]
    simp only [cond_true]
    have hl : lens.length ≤ 320 := by
      unfold okL at hok
      simp only [Bool.and_eq_true, decide_eq_true_eq] at hok
      exact hok.1
    obtain ⟨z, hz⟩ := F60_loop N lens hl 15 0 N (by omega) (by omega) (by rw [lf]; decide)
    have hz : F60_122 N N (1, 0, 1, cntL lens) = _ := hz
    rw [hz, Option.bind_some]
    by_cases h : 0 ≤ lf lens 15
    · have e1 : (if 0 ≤ lf lens 15 then (lf lens 15, (0 : Int)) else (z, 50)) = (lf lens 15, 0) := if_pos h
      have e2 : (if (True ∧ 0 ≤ lf lens 15) then (lf lens 15, (0 : Int)) else (0, 50)) = (lf lens 15, 0) := if_pos ⟨trivial, h⟩
      rw [e1, e2]
      rfl
    · have e1 : (if 0 ≤ lf lens 15 then (lf lens 15, (0 : Int)) else (z, 50)) = (z, 50) := if_neg h
      have e2 : (if (True ∧ 0 ≤ lf lens 15) then (lf lens 15, (0 : Int)) else (0, 50)) = (0, 50) := if_neg fun hh => h hh.2
      rw [e1, e2]
      rfl
end Go.Proofs.Ytmcjfdognplgmaa.Am

namespace Go.Proofs.Ytmcjfdognplgmaa.Am
open Go.Am
set_option linter.unusedSimpArgs false
set_option linter.unusedVariables false

/-! ### The document's room -/
theorem F63_loop (N : Nat) (k : Nat) (hk : k ≤ 60) : ∀ (d i f : Nat), i + d = k → d < f → F63_58 N f ((2 : Int) ^ i, (i : Int), (k : Int)) = some ((2 : Int) ^ k) := by
  intro d
  induction d with
  | zero =>
    intro i f hi hf
    cases f with
    | zero => omega
    | succ f =>
      simp only [F63_58, B63_58]
      rw [if_neg (by simp only [decide_eq_true_eq]; omega), show i = k by omega]
  | succ d ih =>
    intro i f hi hf
    cases f with
    | zero => omega
    | succ f =>
      have hp : (2 : Int) ^ i ≤ 1152921504606846976 := by
        have : (2 : Nat) ^ i ≤ 2 ^ 60 := Nat.pow_le_pow_right (by decide) (by omega)
        have h2 : ((2 ^ i : Nat) : Int) ≤ ((2 ^ 60 : Nat) : Int) := Int.ofNat_le.2 this
        simpa using h2
      have hp0 : (0 : Int) < 2 ^ i := Int.pow_pos (by decide)
      simp only [F63_58, B63_58]
      rw [if_pos (by simp only [decide_eq_true_eq]; omega), wrap_i64 (z := 2 ^ i * 2) (by omega) (by omega), wrap_i64 (by omega) (by omega), ← Int.pow_succ, show ((i : Int) + 1) = ((i + 1 : Nat) : Int) by omega, ih (i + 1) f (by omega) (by omega), Option.bind_some]

theorem F63_pow {N : Nat} (hN : 61 < N) (k : Nat) (hk : k ≤ 60) : F63 N (k : Int) = some ((2 : Int) ^ k) := by
  simp only [F63]
  have := F63_loop N k hk k 0 N (by omega) (by omega)
  rw [Int.pow_zero, show ((0 : Nat) : Int) = 0 from rfl] at this
  rw [this, Option.bind_some]

/-- What the codes of some lengths take, of 32768. -/
def took : List Int → Int
  | [] => 0
  | x :: l => (if 0 < x then (2 : Int) ^ (15 - x).toNat else 0) + took l

theorem took_append : ∀ a b : List Int, took (a ++ b) = took a + took b
  | [], b => by simp [took]
  | x :: a, b => by rw [List.cons_append, took, took, took_append a b]; omega

theorem took_le : ∀ l : List Int, 0 ≤ took l ∧ took l ≤ 32768 * l.length
  | [] => by simp [took]
  | x :: l => by
    have := took_le l
    rw [took]
    have hp : 0 < x → (2 : Int) ^ (15 - x).toNat ≤ 32768 := fun hx => by
      have : (2 : Nat) ^ (15 - x).toNat ≤ 2 ^ 15 := Nat.pow_le_pow_right (by decide) (by omega)
      have h2 : ((2 ^ (15 - x).toNat : Nat) : Int) ≤ ((2 ^ 15 : Nat) : Int) := Int.ofNat_le.2 this
      simpa using h2
    have hp0 : (0 : Int) < 2 ^ (15 - x).toNat := Int.pow_pos (by decide)
    simp only [List.length_cons]
    split
    · have := hp (by assumption)
      omega
    · omega

theorem F48_loop (N : Nat) (hN : 100 ≤ N) (lens : List Int) (hl : lens.length ≤ 320) : ∀ (d i f : Nat), i + d = lens.length → d < f →
    (okB (lens.drop i) = true → F48_122 N f (lens, (i : Int), 32768 - took (lens.take i)) = some (.inr (32768 - took lens))) ∧
    (okB (lens.drop i) = false → F48_122 N f (lens, (i : Int), 32768 - took (lens.take i)) = some (.inl (0, 50))) := by
  intro d
  induction d with
  | zero =>
    intro i f hi hf
    cases f with
    | zero => omega
    | succ f =>
      have e : lens.drop i = [] := List.drop_eq_nil_of_le (by omega)
      rw [e]
      refine ⟨fun _ => ?_, fun h => by cases h⟩
      simp only [F48_122, B48_122]
      rw [if_neg (by simp only [decide_eq_true_eq]; omega), List.take_of_length_le (by omega)]
  | succ d ih =>
    intro i f hi hf
    cases f with
    | zero => omega
    | succ f =>
      have hd : lens.drop i = lens[i] :: lens.drop (i + 1) := List.drop_eq_getElem_cons (by omega)
      have ih' := ih (i + 1) f (by omega) (by omega)
      have hw : IntKind.wrap .i64 ((i : Int) + 1) = ((i + 1 : Nat) : Int) := by rw [wrap_i64 (by omega) (by omega)]; omega
      have ht : lens.take (i + 1) = lens.take i ++ [lens[i]] := by rw [List.take_add_one, List.getElem?_eq_getElem (by omega)]; rfl
      have hok : okB (lens.drop i) = ((decide (0 ≤ lens[i]) && decide (lens[i] ≤ 15)) && okB (lens.drop (i + 1))) := by rw [hd]; rfl
      have hc : decide ((i : Int) < (lens.length : Int)) = true := by simp only [decide_eq_true_eq]; omega
      have hwi : within (i : Int) lens.length = true := by unfold within; simp only [decide_eq_true_eq]; omega
      have hg : lens[i]? = some lens[i] := List.getElem?_eq_getElem (by omega)
      simp only [F48_122, B48_122, hc, hwi, hg, Int.toNat_natCast, if_true, Option.bind_some, hw]
      by_cases h1 : lens[i] < 0
      · have hf : okB (lens.drop i) = false := by rw [hok, decide_eq_false (show ¬ 0 ≤ lens[i] by omega)]; rfl
        rw [hf, if_pos (by simpa using h1)]
        exact ⟨fun h => (by cases h), fun _ => rfl⟩
      rw [if_neg (by simpa using h1)]
      by_cases h2 : lens[i] > 15
      · have hf : okB (lens.drop i) = false := by rw [hok, decide_eq_false (show ¬ lens[i] ≤ 15 by omega), Bool.and_false]; rfl
        rw [hf, if_pos (by simpa using h2)]
        exact ⟨fun h => (by cases h), fun _ => rfl⟩
      rw [if_neg (by simpa using h2)]
      have hok2 : okB (lens.drop i) = okB (lens.drop (i + 1)) := by rw [hok, decide_eq_true (show 0 ≤ lens[i] by omega), decide_eq_true (show lens[i] ≤ 15 by omega)]; rfl
      have htk : took (lens.take (i + 1)) = took (lens.take i) + (if 0 < lens[i] then (2 : Int) ^ (15 - lens[i]).toNat else 0) := by rw [ht, took_append]; simp [took]
      have tb := took_le (lens.take i)
      have tl : (lens.take i).length ≤ 320 := by rw [List.length_take]; omega
      rw [hok2]
      rw [htk] at ih'
      by_cases h3 : 0 < lens[i]
      · rw [if_pos (by simpa using h3)]
        rw [if_pos h3] at ih'
        obtain ⟨k, hk⟩ := Int.eq_ofNat_of_zero_le (show 0 ≤ 15 - lens[i] by omega)
        have hpk : (2 : Int) ^ k ≤ 32768 := by
          have : (2 : Nat) ^ k ≤ 2 ^ 15 := Nat.pow_le_pow_right (by decide) (by omega)
          have h2 : ((2 ^ k : Nat) : Int) ≤ ((2 ^ 15 : Nat) : Int) := Int.ofNat_le.2 this
          simpa using h2
        have hp0 : (0 : Int) < 2 ^ k := Int.pow_pos (by decide)
        rw [hk, Int.toNat_natCast] at ih'
        rw [wrap_i64 (z := 15 - lens[i]) (by omega) (by omega), hk, F63_pow (by omega) k (by omega), Option.bind_some, wrap_i64 (by omega) (by omega), show 32768 - took (lens.take i) - 2 ^ k = 32768 - (took (lens.take i) + 2 ^ k) by omega]
        exact ⟨fun h => by rw [ih'.1 h]; rfl, fun h => by rw [ih'.2 h]; rfl⟩
      · rw [if_neg (by simpa using h3)]
        rw [if_neg h3, Int.add_zero] at ih'
        exact ⟨fun h => by rw [ih'.1 h]; rfl, fun h => by rw [ih'.2 h]; rfl⟩

/-- Both rooms are the same. -/
def tookTo (l : Nat) : List Int → Int
  | [] => 0
  | x :: r => (if 0 < x ∧ x ≤ (l : Int) then (2 : Int) ^ (15 - x).toNat else 0) + tookTo l r

theorem tookTo_succ (l : Nat) (hl : l < 15) : ∀ r : List Int, tookTo (l + 1) r = tookTo l r + (r.count ((l + 1 : Nat) : Int) : Int) * 2 ^ (15 - (l + 1))
  | [] => by simp [tookTo]
  | x :: r => by
    rw [tookTo, tookTo, tookTo_succ l hl r, List.count_cons]
    by_cases e : x = ((l + 1 : Nat) : Int)
    · subst e
      rw [if_pos (by omega), if_neg (by omega)]
      have : (15 - ((l + 1 : Nat) : Int)).toNat = 15 - (l + 1) := by omega
      rw [this]
      simp only [beq_self_eq_true, if_true, Int.natCast_add, Int.natCast_one, Int.add_mul, Int.one_mul, Int.zero_add]
      omega
    · have hb : (x == ((l + 1 : Nat) : Int)) = false := by simpa using e
      rw [hb]
      simp only [Bool.false_eq_true, if_false, Nat.add_zero]
      by_cases h : 0 < x ∧ x ≤ (l : Int)
      · rw [if_pos h, if_pos (by omega)]; omega
      · rw [if_neg h, if_neg (by omega)]; omega

theorem tookTo_zero : ∀ r : List Int, tookTo 0 r = 0
  | [] => rfl
  | x :: r => by rw [tookTo, tookTo_zero r, if_neg (by omega)]; rfl

theorem tookTo_all : ∀ r : List Int, okB r = true → tookTo 15 r = took r
  | [], _ => rfl
  | x :: r, h => by
    have h' : (decide (0 ≤ x) && decide (x ≤ 15)) = true ∧ okB r = true := by
      unfold okB at h ⊢
      rw [List.all_cons, Bool.and_eq_true] at h
      exact h
    simp only [Bool.and_eq_true, decide_eq_true_eq] at h'
    rw [tookTo, took, tookTo_all r h'.2]
    by_cases h0 : 0 < x
    · rw [if_pos h0, if_pos (by omega)]
    · rw [if_neg h0, if_neg (by omega)]

theorem lf_took (lens : List Int) : ∀ l, l ≤ 15 → lf lens l * 2 ^ (15 - l) = 32768 - tookTo l lens
  | 0, _ => by rw [lf, tookTo_zero]; decide
  | l + 1, h => by
    have ih := lf_took lens l (by omega)
    rw [tookTo_succ l (by omega), lf, Int.sub_mul, Int.mul_assoc, Int.mul_comm 2, Int.mul_assoc, Int.mul_comm _ 2]
    have e : (2 : Int) ^ (15 - l) = 2 * 2 ^ (15 - (l + 1)) := by
      rw [show 15 - l = (15 - (l + 1)) + 1 by omega, Int.pow_succ, Int.mul_comm]
    rw [e] at ih
    omega

theorem F48_chk {N : Nat} (hN : 400 ≤ N) (lens : List Int) : F48 N lens = some (chk lens) := by
  unfold chk okL
  simp only [F48]
  by_cases h : (320 : Int) < (lens.length : Int)
  · rw [if_pos (by simpa using h), decide_eq_false (show ¬ lens.length ≤ 320 by omega)]
    rfl
  · rw [if_neg (by simpa using h), decide_eq_true (show lens.length ≤ 320 by omega), Bool.true_and]
    have hl := F48_loop N (by omega) lens (by omega) lens.length 0 N (by omega) (by omega)
    rw [List.drop_zero, List.take_zero, show took [] = 0 from rfl, show ((0 : Nat) : Int) = 0 from rfl, show (32768 : Int) - 0 = 32768 from rfl] at hl
    cases hb : okB lens with
    | true =>
      rw [hl.1 hb, Option.bind_some]
      have e := lf_took lens 15 (by omega)
      rw [tookTo_all lens hb] at e
      have e : lf lens 15 = 32768 - took lens := by simpa using e
      simp only
      rw [← e]
      by_cases hn : lf lens 15 < 0
      · rw [if_pos (by simpa using hn), if_neg (by omega)]
      · rw [if_neg (by simpa using hn), if_pos ⟨trivial, by omega⟩]
    | false =>
      rw [hl.2 hb, Option.bind_some]
      rfl
end Go.Proofs.Ytmcjfdognplgmaa.Am

namespace Go.Proofs.Ytmcjfdognplgmaa.Am
open Go.Am
set_option linter.unusedSimpArgs false
set_option linter.unusedVariables false

/-! ### Codes -/
abbrev Cod := Int × (Int × Unit)
/-- The first code of a length. -/
def first (lens : List Int) : Nat → Nat
  | 0 => 0
  | 1 => 0
  | l + 2 => 2 * (first lens (l + 1) + lens.count ((l + 1 : Nat) : Int))

theorem first_le (lens : List Int) (hl : lens.length ≤ 320) : ∀ l, first lens l + 640 ≤ 640 * 2 ^ l
  | 0 => by simp [first]
  | 1 => by simp [first]
  | l + 2 => by
    have := first_le lens hl (l + 1)
    have hc : lens.count ((l + 1 : Nat) : Int) ≤ 320 := Nat.le_trans List.count_le_length hl
    have hp : 1 ≤ 2 ^ l := Nat.one_le_two_pow
    rw [first]
    have e1 : 2 ^ (l + 1) = 2 * 2 ^ l := by rw [Nat.pow_succ]; omega
    have e2 : 2 ^ (l + 2) = 4 * 2 ^ l := by rw [Nat.pow_succ, e1]; omega
    rw [e1] at this
    rw [e2]
    generalize 2 ^ l = q at *
    omega

theorem first_small (lens : List Int) (hl : lens.length ≤ 320) {l : Nat} (h : l ≤ 15) : first lens l ≤ 20971520 := by
  have h1 := first_le lens hl l
  have h2 : 2 ^ l ≤ 2 ^ 15 := Nat.pow_le_pow_right (by decide) h
  omega

/-- A symbol's code. -/
def codeAt (lens : List Int) (i : Nat) : Cod :=
  let x := lens.getD i 0
  if 0 < x then (((first lens x.toNat + (lens.take i).count x : Nat) : Int), x, ()) else (0, 0, ())
def codesOf (lens : List Int) : List Cod := (List.range lens.length).map (codeAt lens)

/-- Codes of the symbols up to one. -/
def outTo (lens : List Int) (i : Nat) : List Cod := (List.range lens.length).map fun j => if j < i then codeAt lens j else (0, 0, ())
theorem outTo_len (lens : List Int) (i : Nat) : (outTo lens i).length = lens.length := by simp [outTo]
theorem outTo_get (lens : List Int) (i : Nat) {j : Nat} (h : j < lens.length) : (outTo lens i)[j]? = some (if j < i then codeAt lens j else (0, 0, ())) := by
  unfold outTo; rw [List.getElem?_map, List.getElem?_range h]; rfl

theorem outTo_set (lens : List Int) {i : Nat} (h : i < lens.length) : (outTo lens i).set i (codeAt lens i) = outTo lens (i + 1) := by
  apply List.ext_getElem?
  intro k
  by_cases hk : k < lens.length
  · rw [outTo_get _ _ hk]
    by_cases e : i = k
    · subst e
      rw [List.getElem?_set_self (by rw [outTo_len]; exact h), if_pos (by omega)]
    · rw [List.getElem?_set_ne e, outTo_get _ _ hk]
      by_cases hlt : k < i
      · rw [if_pos hlt, if_pos (by omega)]
      · rw [if_neg hlt, if_neg (by omega)]
  · rw [List.getElem?_eq_none (by rw [List.length_set, outTo_len]; omega), List.getElem?_eq_none (by rw [outTo_len]; omega)]

theorem outTo_skip (lens : List Int) {i : Nat} (h : i < lens.length) (h0 : ¬ 0 < lens[i]) : outTo lens i = outTo lens (i + 1) := by
  apply List.ext_getElem?
  intro k
  by_cases hk : k < lens.length
  · rw [outTo_get _ _ hk, outTo_get _ _ hk]
    by_cases e : k = i
    · subst e
      rw [if_neg (by omega), if_pos (by omega)]
      unfold codeAt
      have hg : lens.getD k 0 = lens[k] := by rw [List.getD, List.getElem?_eq_getElem h]; rfl
      rw [hg]
      simp only
      rw [if_neg h0]
    · by_cases hlt : k < i
      · rw [if_pos hlt, if_pos (by omega)]
      · rw [if_neg hlt, if_neg (by omega)]
  · rw [List.getElem?_eq_none (by rw [outTo_len]; omega), List.getElem?_eq_none (by rw [outTo_len]; omega)]

/-- The next code of each length, behind some symbols. -/
def nxt (lens : List Int) (i : Nat) : List Int := (List.range 16).map fun (k : Nat) => (((if k = 0 then 0 else first lens k + (lens.take i).count (k : Int)) : Nat) : Int)
theorem nxt_len (lens : List Int) (i : Nat) : (nxt lens i).length = 16 := by simp [nxt]
theorem nxt_get (lens : List Int) (i : Nat) {k : Nat} (h : k < 16) : (nxt lens i)[k]? = some (((if k = 0 then 0 else first lens k + (lens.take i).count (k : Int)) : Nat) : Int) := by
  unfold nxt; rw [List.getElem?_map, List.getElem?_range h]; rfl

theorem take_snoc {lens : List Int} {i : Nat} (h : i < lens.length) : lens.take (i + 1) = lens.take i ++ [lens[i]] := by
  rw [List.take_add_one, List.getElem?_eq_getElem h]; rfl

theorem nxt_set (lens : List Int) {i x : Nat} (h : i < lens.length) (hx : lens[i] = (x : Int)) (h0 : 0 < x) (h16 : x < 16) :
    (nxt lens i).set x (((first lens x + (lens.take i).count (x : Int) : Nat) : Int) + 1) = nxt lens (i + 1) := by
  apply List.ext_getElem?
  intro k
  by_cases hk : k < 16
  · rw [nxt_get _ _ hk, take_snoc h, hx, List.count_append]
    by_cases e : x = k
    · subst e
      rw [List.getElem?_set_self (by rw [nxt_len]; exact h16), if_neg (by omega)]
      simp
      omega
    · rw [List.getElem?_set_ne e, nxt_get _ _ hk, List.count_singleton]
      have : ((x : Int) == (k : Int)) = false := by simp; omega
      simp [this]
  · rw [List.getElem?_eq_none (by rw [List.length_set, nxt_len]; omega), List.getElem?_eq_none (by rw [nxt_len]; omega)]

theorem nxt_skip (lens : List Int) {i : Nat} (h : i < lens.length) (h0 : lens[i] = 0) : nxt lens i = nxt lens (i + 1) := by
  apply List.ext_getElem?
  intro k
  by_cases hk : k < 16
  · rw [nxt_get _ _ hk, nxt_get _ _ hk, take_snoc h, h0, List.count_append, List.count_singleton]
    by_cases e : k = 0
    · rw [if_pos e, if_pos e]
    · have : ((0 : Int) == (k : Int)) = false := by simp; omega
      rw [if_neg e, if_neg e, this]
      simp
  · rw [List.getElem?_eq_none (by rw [nxt_len]; omega), List.getElem?_eq_none (by rw [nxt_len]; omega)]

theorem F45_loop2 (N : Nat) (lens : List Int) (hl : lens.length ≤ 320) (hok : okB lens = true) : ∀ (d i f : Nat), i + d = lens.length → d < f →
    F45_1018 N f ((i : Int), (lens.length : Int), lens, outTo lens i, nxt lens i) = some (outTo lens lens.length) := by
  intro d
  induction d with
  | zero =>
    intro i f hi hf
    cases f with
    | zero => omega
    | succ f =>
      simp only [F45_1018, B45_1018]
      rw [if_neg (by simp only [decide_eq_true_eq]; omega), show i = lens.length by omega]
  | succ d ih =>
    intro i f hi hf
    cases f with
    | zero => omega
    | succ f =>
      have hil : i < lens.length := by omega
      obtain ⟨b1, b2⟩ := okB_at hok hil
      obtain ⟨x, hx⟩ := Int.eq_ofNat_of_zero_le b1
      have ih' := ih (i + 1) f (by omega) (by omega)
      have hw : IntKind.wrap .i64 ((i : Int) + 1) = ((i + 1 : Nat) : Int) := by rw [wrap_i64 (by omega) (by omega)]; omega
      have hc : decide ((i : Int) < (lens.length : Int)) = true := by simp only [decide_eq_true_eq]; omega
      have hwi : within (i : Int) lens.length = true := by unfold within; simp only [decide_eq_true_eq]; omega
      have hg : lens[i]? = some lens[i] := List.getElem?_eq_getElem hil
      simp only [F45_1018, B45_1018, hc, hwi, hg, Int.toNat_natCast, if_true, Option.bind_some, hw]
      by_cases h0 : 0 < lens[i]
      · have hx0 : 0 < x := by omega
        have hx16 : x < 16 := by omega
        have hwx : within (x : Int) 16 = true := by unfold within; simp only [decide_eq_true_eq]; omega
        have hwo : within (i : Int) (outTo lens i).length = true := by rw [outTo_len]; exact hwi
        have hng : (nxt lens i)[x]? = some (((first lens x + (lens.take i).count (x : Int) : Nat)) : Int) := by rw [nxt_get _ _ hx16, if_neg (by omega)]
        have hog := outTo_get lens i hil
        have hfs := first_small lens hl (show x ≤ 15 by omega)
        have hcl : (lens.take i).count (x : Int) ≤ 320 := Nat.le_trans List.count_le_length (by rw [List.length_take]; omega)
        have hca : codeAt lens i = ((((first lens x + (lens.take i).count (x : Int) : Nat)) : Int), (x : Int), ()) := by
          unfold codeAt
          have hgd : lens.getD i 0 = lens[i] := by rw [List.getD, hg]; rfl
          rw [hgd, hx]
          simp only [Int.toNat_natCast]
          rw [if_pos (by omega)]
        rw [if_pos (by simpa using h0), hx]
        simp only [hwx, hwo, hng, hog, Int.toNat_natCast, if_true, Option.bind_some]
        rw [← hca, outTo_set lens hil, wrap_i64 (by omega) (by omega), nxt_set lens hil hx hx0 hx16, ih', Option.bind_some]
      · rw [if_neg (by simpa using h0)]
        rw [outTo_skip lens hil h0, nxt_skip lens hil (by omega), ih', Option.bind_some]

/-- The first codes of the lengths up to one. -/
def fst16 (lens : List Int) (l : Nat) : List Int := (List.range 16).map fun (k : Nat) => (((if k ≤ l then first lens k else 0) : Nat) : Int)
theorem fst16_len (lens : List Int) (l : Nat) : (fst16 lens l).length = 16 := by simp [fst16]
theorem fst16_get (lens : List Int) (l : Nat) {k : Nat} (h : k < 16) : (fst16 lens l)[k]? = some (((if k ≤ l then first lens k else 0) : Nat) : Int) := by
  unfold fst16; rw [List.getElem?_map, List.getElem?_range h]; rfl

theorem fst16_set (lens : List Int) {l : Nat} (h : l + 1 < 16) : (fst16 lens l).set (l + 1) ((first lens (l + 1) : Nat) : Int) = fst16 lens (l + 1) := by
  apply List.ext_getElem?
  intro k
  by_cases hk : k < 16
  · rw [fst16_get _ _ hk]
    by_cases e : l + 1 = k
    · subst e
      rw [List.getElem?_set_self (by rw [fst16_len]; exact hk), if_pos (by omega)]
    · rw [List.getElem?_set_ne e, fst16_get _ _ hk]
      by_cases hlt : k ≤ l
      · rw [if_pos hlt, if_pos (by omega)]
      · rw [if_neg hlt, if_neg (by omega)]
  · rw [List.getElem?_eq_none (by rw [List.length_set, fst16_len]; omega), List.getElem?_eq_none (by rw [fst16_len]; omega)]

theorem F45_loop1 (N : Nat) (lens : List Int) (hl : lens.length ≤ 320) : ∀ (d l f : Nat), l + d = 14 → d + 1 < f →
    F45_250 N f (((l + 1 : Nat) : Int), lens, cntL lens, fst16 lens (l + 1)) = some (lens, fst16 lens 15) := by
  intro d
  induction d with
  | zero =>
    intro l f hi hf
    cases f with
    | zero => omega
    | succ f =>
      have : l = 14 := by omega
      subst this
      simp only [F45_250, B45_250]
      rw [if_neg (by decide)]
  | succ d ih =>
    intro l f hi hf
    cases f with
    | zero => omega
    | succ f =>
      have ih' := ih (l + 1) f (by omega) (by omega)
      have hw : IntKind.wrap .i64 (((l + 1 : Nat) : Int) + 1) = ((l + 1 + 1 : Nat) : Int) := by rw [wrap_i64 (by omega) (by omega)]; omega
      have hc : decide (((l + 1 : Nat) : Int) < 15) = true := by simp only [decide_eq_true_eq]; omega
      have hwi : within ((l + 1 : Nat) : Int) 16 = true := by unfold within; simp only [decide_eq_true_eq]; omega
      have hwj : within ((l + 1 + 1 : Nat) : Int) 16 = true := by unfold within; simp only [decide_eq_true_eq]; omega
      have g1 : (fst16 lens (l + 1))[l + 1]? = some ((first lens (l + 1) : Nat) : Int) := by rw [fst16_get _ _ (by omega), if_pos (by omega)]
      have g2 := cntL_get lens (show l + 1 < 16 by omega)
      have g3 : (fst16 lens (l + 1))[l + 1 + 1]? = some (0 : Int) := by rw [fst16_get _ _ (by omega), if_neg (by omega)]; rfl
      have hfs := first_small lens hl (show l + 1 ≤ 15 by omega)
      have hcl : lens.count ((l + 1 : Nat) : Int) ≤ 320 := Nat.le_trans List.count_le_length hl
      simp only [F45_250, B45_250, hc, hwi, hw, hwj, g1, g2, g3, Int.toNat_natCast, if_true, Option.bind_some]
      have e : IntKind.wrap .i64 (IntKind.wrap .i64 (((first lens (l + 1) : Nat) : Int) + (lens.count ((l + 1 : Nat) : Int) : Int)) * 2) = ((first lens (l + 1 + 1) : Nat) : Int) := by
        rw [wrap_i64 (z := ((first lens (l + 1) : Nat) : Int) + _) (by omega) (by omega), wrap_i64 (by omega) (by omega), first]; omega
      rw [e, fst16_set lens (show l + 1 + 1 < 16 by omega), ih', Option.bind_some]

theorem outTo_all (lens : List Int) : outTo lens lens.length = codesOf lens := by
  apply List.ext_getElem?
  intro k
  by_cases hk : k < lens.length
  · rw [outTo_get _ _ hk, if_pos hk]
    unfold codesOf
    rw [List.getElem?_map, List.getElem?_range hk]; rfl
  · rw [List.getElem?_eq_none (by rw [outTo_len]; omega), List.getElem?_eq_none (by simp [codesOf]; omega)]

theorem outTo_zero (lens : List Int) : outTo lens 0 = List.replicate lens.length (0, 0, ()) := by
  apply List.ext_getElem?
  intro k
  by_cases hk : k < lens.length
  · rw [outTo_get _ _ hk, if_neg (by omega), List.getElem?_replicate, if_pos hk]
  · rw [List.getElem?_eq_none (by rw [outTo_len]; omega), List.getElem?_eq_none (by simp; omega)]

theorem nxt_zero (lens : List Int) : nxt lens 0 = fst16 lens 15 := by
  apply List.ext_getElem?
  intro k
  by_cases hk : k < 16
  · rw [nxt_get _ _ hk, fst16_get _ _ hk, if_pos (show k ≤ 15 by omega)]
    by_cases e : k = 0
    · subst e; rfl
    · rw [if_neg e]; simp
  · rw [List.getElem?_eq_none (by rw [nxt_len]; omega), List.getElem?_eq_none (by rw [fst16_len]; omega)]

theorem fst16_one (lens : List Int) : fst16 lens (0 + 1) = [0, 0, 0, 0, 0, 0, 0, 0, 0, 0, 0, 0, 0, 0, 0, 0] := rfl

/-- What 'Codes' tells. -/
theorem F45_codes {N : Nat} (hN : 400 ≤ N) (lens : List Int) : F45 N lens = some (if (chk lens).2 = 0 then (0, codesOf lens) else ((chk lens).2, [])) := by
  obtain ⟨c, hc, hcc⟩ := F61_spec hN lens
  simp only [F45]
  rw [F60_chk hN, Option.bind_some]
  by_cases h : (chk lens).2 = 0
  · have hok : okL lens = true := by
      unfold chk at h
      by_cases hh : okL lens = true ∧ 0 ≤ lf lens 15
      · exact hh.1
      · rw [if_neg hh] at h; cases h
    have hb : okB lens = true ∧ lens.length ≤ 320 := by
      unfold okL at hok
      simp only [Bool.and_eq_true, decide_eq_true_eq] at hok
      exact ⟨hok.2, hok.1⟩
    rw [if_neg (by simpa using h), if_pos h, hc, Option.bind_some, hcc hok]
    have l1 := F45_loop1 N lens hb.2 14 0 N (by omega) (by omega)
    rw [fst16_one] at l1
    simp only
    rw [show (((0 + 1 : Nat)) : Int) = 1 from rfl] at l1
    rw [l1, Option.bind_some]
    simp only
    have l2 := F45_loop2 N lens hb.2 hb.1 lens.length 0 N (by omega) (by omega)
    rw [outTo_zero, nxt_zero, outTo_all, show ((0 : Nat) : Int) = 0 from rfl] at l2
    rw [if_pos (by simp only [decide_eq_true_eq]; omega), Int.toNat_natCast, l2, Option.bind_some]
  · rw [if_pos (by simpa using h), if_neg h]
end Go.Proofs.Ytmcjfdognplgmaa.Am

namespace Go.Proofs.Ytmcjfdognplgmaa.Am
open Go.Am
set_option linter.unusedSimpArgs false
set_option linter.unusedVariables false

/-! ### The document's codes: length by length -/
/-- Codes of lengths below one, and of this one up to a symbol. -/
def outD (lens : List Int) (l i : Nat) : List Cod := (List.range lens.length).map fun j =>
  if 0 < lens.getD j 0 ∧ (lens.getD j 0 < (l : Int) ∨ (lens.getD j 0 = (l : Int) ∧ j < i)) then codeAt lens j else (0, 0, ())
theorem outD_len (lens : List Int) (l i : Nat) : (outD lens l i).length = lens.length := by simp [outD]
theorem outD_get (lens : List Int) (l i : Nat) {j : Nat} (h : j < lens.length) : (outD lens l i)[j]? = some (if 0 < lens.getD j 0 ∧ (lens.getD j 0 < (l : Int) ∨ (lens.getD j 0 = (l : Int) ∧ j < i)) then codeAt lens j else (0, 0, ())) := by
  unfold outD; rw [List.getElem?_map, List.getElem?_range h]; rfl

theorem outD_ext {lens : List Int} {l i l' i' : Nat} (h : ∀ j, j < lens.length → ((0 < lens.getD j 0 ∧ (lens.getD j 0 < (l : Int) ∨ (lens.getD j 0 = (l : Int) ∧ j < i))) ↔ (0 < lens.getD j 0 ∧ (lens.getD j 0 < (l' : Int) ∨ (lens.getD j 0 = (l' : Int) ∧ j < i'))))) : outD lens l i = outD lens l' i' := by
  apply List.ext_getElem?
  intro k
  by_cases hk : k < lens.length
  · rw [outD_get _ _ _ hk, outD_get _ _ _ hk]
    have := h k hk
    by_cases hp : (0 < lens.getD k 0 ∧ (lens.getD k 0 < (l : Int) ∨ (lens.getD k 0 = (l : Int) ∧ k < i)))
    · rw [if_pos hp, if_pos (this.1 hp)]
    · rw [if_neg hp, if_neg (fun hq => hp (this.2 hq))]
  · rw [List.getElem?_eq_none (by rw [outD_len]; omega), List.getElem?_eq_none (by rw [outD_len]; omega)]

theorem outD_set {lens : List Int} {l i : Nat} (h : i < lens.length) (hl : lens.getD i 0 = (l : Int)) (h0 : 0 < l) : (outD lens l i).set i (codeAt lens i) = outD lens l (i + 1) := by
  apply List.ext_getElem?
  intro k
  by_cases hk : k < lens.length
  · rw [outD_get _ _ _ hk]
    by_cases e : i = k
    · subst e
      rw [List.getElem?_set_self (by rw [outD_len]; exact h), if_pos ⟨by omega, .inr ⟨hl, by omega⟩⟩]
    · rw [List.getElem?_set_ne e, outD_get _ _ _ hk]
      by_cases hp : (0 < lens.getD k 0 ∧ (lens.getD k 0 < (l : Int) ∨ (lens.getD k 0 = (l : Int) ∧ k < i)))
      · rw [if_pos hp, if_pos ⟨hp.1, hp.2.imp id fun q => ⟨q.1, by omega⟩⟩]
      · rw [if_neg hp, if_neg (fun hq => hp ⟨hq.1, hq.2.imp id fun q => ⟨q.1, by omega⟩⟩)]
  · rw [List.getElem?_eq_none (by rw [List.length_set, outD_len]; omega), List.getElem?_eq_none (by rw [outD_len]; omega)]

theorem F49_inner (N : Nat) (lens : List Int) (hl : lens.length ≤ 320) (l : Nat) (h0 : 0 < l) (h15 : l ≤ 15) : ∀ (d i f : Nat), i + d = lens.length → d < f →
    F49_15654 N f (((first lens l + (lens.take i).count (l : Int) : Nat) : Int), (i : Int), lens, (l : Int), outD lens l i) =
      some ((l : Int), ((first lens l + lens.count (l : Int) : Nat) : Int), lens, outD lens l lens.length) := by
  intro d
  induction d with
  | zero =>
    intro i f hi hf
    cases f with
    | zero => omega
    | succ f =>
      simp only [F49_15654, B49_15654]
      rw [if_neg (by simp only [decide_eq_true_eq]; omega), List.take_of_length_le (by omega), show i = lens.length by omega]
  | succ d ih =>
    intro i f hi hf
    cases f with
    | zero => omega
    | succ f =>
      have hil : i < lens.length := by omega
      have ih' := ih (i + 1) f (by omega) (by omega)
      have hw : IntKind.wrap .i64 ((i : Int) + 1) = ((i + 1 : Nat) : Int) := by rw [wrap_i64 (by omega) (by omega)]; omega
      have hc : decide ((i : Int) < (lens.length : Int)) = true := by simp only [decide_eq_true_eq]; omega
      have hwi : within (i : Int) lens.length = true := by unfold within; simp only [decide_eq_true_eq]; omega
      have hwo : within (i : Int) (outD lens l i).length = true := by rw [outD_len]; exact hwi
      have hg : lens[i]? = some lens[i] := List.getElem?_eq_getElem hil
      have hgd : lens.getD i 0 = lens[i] := by rw [List.getD, hg]; rfl
      have hog := outD_get lens l i hil
      have hfs := first_small lens hl h15
      have hcl : (lens.take i).count (l : Int) ≤ 320 := Nat.le_trans List.count_le_length (by rw [List.length_take]; omega)
      rw [take_snoc hil, List.count_append, List.count_singleton] at ih'
      simp only [F49_15654, B49_15654, hc, hwi, hg, hwo, hog, Int.toNat_natCast, if_true, Option.bind_some, hw]
      by_cases he : lens[i] = (l : Int)
      · have hb : (lens[i] == (l : Int)) = true := by simpa using he
        rw [hb] at ih'
        have hca : codeAt lens i = ((((first lens l + (lens.take i).count (l : Int) : Nat)) : Int), (l : Int), ()) := by
          unfold codeAt
          rw [hgd, he]
          simp only [Int.toNat_natCast]
          rw [if_pos (by omega)]
        rw [if_pos hb, ← hca, outD_set hil (hgd.trans he) h0, wrap_i64 (by omega) (by omega)]
        simp only [if_true] at ih'
        rw [show (((first lens l + (lens.take i).count (l : Int) : Nat)) : Int) + 1 = ((first lens l + ((lens.take i).count (l : Int) + 1) : Nat) : Int) by omega, ih', Option.bind_some]
      · have hb : (lens[i] == (l : Int)) = false := by simpa using he
        rw [hb] at ih'
        simp only [Bool.false_eq_true, if_false, Nat.add_zero] at ih'
        rw [if_neg (by rw [hb]; decide)]
        have e : outD lens l i = outD lens l (i + 1) := outD_ext fun j hj => by
          by_cases e : j = i
          · subst e
            rw [hgd]
            constructor
            · rintro ⟨h1, h2 | ⟨h2, h3⟩⟩
              · exact ⟨h1, .inl h2⟩
              · exact absurd h2 he
            · rintro ⟨h1, h2 | ⟨h2, h3⟩⟩
              · exact ⟨h1, .inl h2⟩
              · exact absurd h2 he
          · constructor
            · rintro ⟨h1, h2 | ⟨h2, h3⟩⟩
              · exact ⟨h1, .inl h2⟩
              · exact ⟨h1, .inr ⟨h2, by omega⟩⟩
            · rintro ⟨h1, h2 | ⟨h2, h3⟩⟩
              · exact ⟨h1, .inl h2⟩
              · exact ⟨h1, .inr ⟨h2, by omega⟩⟩
        rw [e, ih', Option.bind_some]

/-- What stands there ahead of a length, halved. -/
def before (lens : List Int) : Nat → Nat
  | 0 => 0
  | 1 => 0
  | l + 2 => first lens (l + 1) + lens.count ((l + 1 : Nat) : Int)

theorem before_twice (lens : List Int) (l : Nat) (h : 0 < l) : 2 * before lens l = first lens l := by
  match l, h with
  | 1, _ => rfl
  | l + 2, _ => rfl

theorem F49_outer (N : Nat) (hN : 400 ≤ N) (lens : List Int) (hl : lens.length ≤ 320) : ∀ (d l f : Nat), l + d = 16 → 0 < l → d < f →
    F49_122 N f ((before lens l : Int), lens, (l : Int), outD lens l 0) = some (outD lens 16 0) := by
  intro d
  induction d with
  | zero =>
    intro l f hi h0 hf
    cases f with
    | zero => omega
    | succ f =>
      have : l = 16 := by omega
      subst this
      simp only [F49_122, B49_122]
      rw [if_neg (by decide)]
  | succ d ih =>
    intro l f hi h0 hf
    cases f with
    | zero => omega
    | succ f =>
      have ih' := ih (l + 1) f (by omega) (by omega) (by omega)
      have hfs := first_small lens hl (show l ≤ 15 by omega)
      have hb := before_twice lens l h0
      have hin := F49_inner N lens hl l h0 (by omega) lens.length 0 N (by omega) (by omega)
      rw [List.take_zero, List.count_nil, Nat.add_zero, show ((0 : Nat) : Int) = 0 from rfl] at hin
      simp only [F49_122, B49_122]
      rw [if_pos (by simp only [decide_eq_true_eq]; omega), wrap_i64 (z := (before lens l : Int) * 2) (by omega) (by omega), show (before lens l : Int) * 2 = ((first lens l : Nat) : Int) by omega, hin, Option.bind_some]
      simp only
      have e1 : ((first lens l + lens.count (l : Int) : Nat) : Int) = (before lens (l + 1) : Int) := by
        match l, h0 with
        | k + 1, _ => rfl
      have e2 : outD lens l lens.length = outD lens (l + 1) 0 := outD_ext fun j hj => by
        constructor
        · rintro ⟨h1, h2 | ⟨h2, h3⟩⟩
          · exact ⟨h1, .inl (by omega)⟩
          · exact ⟨h1, .inl (by omega)⟩
        · rintro ⟨h1, h2 | ⟨h2, h3⟩⟩
          · by_cases e : lens.getD j 0 = (l : Int)
            · exact ⟨h1, .inr ⟨e, hj⟩⟩
            · exact ⟨h1, .inl (by omega)⟩
          · omega
      rw [e1, e2, wrap_i64 (by omega) (by omega), show ((l : Int) + 1) = ((l + 1 : Nat) : Int) by omega, ih', Option.bind_some]

theorem F49_codes {N : Nat} (hN : 400 ≤ N) (lens : List Int) (hl : lens.length ≤ 320) (hok : okB lens = true) : F49 N lens = some (codesOf lens) := by
  simp only [F49]
  rw [if_pos (by simp only [decide_eq_true_eq]; omega), Int.toNat_natCast]
  have h := F49_outer N hN lens hl 15 1 N (by omega) (by omega) (by omega)
  have e0 : outD lens 1 0 = List.replicate lens.length (0, 0, ()) := by
    apply List.ext_getElem?
    intro k
    by_cases hk : k < lens.length
    · rw [outD_get _ _ _ hk, if_neg (by omega), List.getElem?_replicate, if_pos hk]
    · rw [List.getElem?_eq_none (by rw [outD_len]; omega), List.getElem?_eq_none (by simp; omega)]
  have e1 : outD lens 16 0 = codesOf lens := by
    apply List.ext_getElem?
    intro k
    by_cases hk : k < lens.length
    · have hc : (codesOf lens)[k]? = some (codeAt lens k) := by
        unfold codesOf
        rw [List.getElem?_map, List.getElem?_range hk]; rfl
      rw [outD_get _ _ _ hk, hc]
      have hg : lens.getD k 0 = lens[k] := by rw [List.getD, List.getElem?_eq_getElem hk]; rfl
      obtain ⟨b1, b2⟩ := okB_at hok hk
      by_cases h0 : 0 < lens[k]
      · rw [if_pos ⟨by omega, .inl (by omega)⟩]
      · rw [if_neg (fun q => h0 (by rw [← hg]; exact q.1))]
        unfold codeAt
        rw [hg]
        simp only
        rw [if_neg h0]
    · rw [List.getElem?_eq_none (by rw [outD_len]; omega), List.getElem?_eq_none (by simp [codesOf]; omega)]
  rw [e0, e1, show (before lens 1 : Int) = 0 from rfl, show ((1 : Nat) : Int) = 1 from rfl] at h
  rw [h, Option.bind_some]
end Go.Proofs.Ytmcjfdognplgmaa.Am

namespace Go.Proofs.Ytmcjfdognplgmaa.Am
open Go.Am
set_option linter.unusedSimpArgs false
set_option linter.unusedVariables false

theorem F70_rev (N : Nat) (X : BitVec 64) : F70 N (U X) = some (U (rev64 X)) := by
  simp only [F70, F73, wrapU, ofU, shr1, shr2, shr4, shr8, shr16, shr32, shl1, shl2, shl4, shl8, shl16, shl32, Option.bind_some]
  rfl

def clampN (b : Int) : Nat := min b.toNat 32
theorem clampN_le (b : Int) : clampN b ≤ 32 := Nat.min_le_right ..
theorem clamp_eq (b : Int) : (if (32 : Int) < (if (0 : Int) > b then (0 : Int) else b) then (32 : Int) else if (0 : Int) > b then (0 : Int) else b) = (clampN b : Int) := by
  unfold clampN
  split <;> split at * <;> omega
theorem F42_clamp (N : Nat) (b : Int) : F42 N b = some (clampN b : Int) := by
  show some _ = _
  rw [← clamp_eq]

def lowN (n : Nat) (v : Int) : Nat := (BitVec.ofInt 64 v).toNat % 2 ^ n
theorem lowN_lt (n : Nat) (v : Int) : lowN n v < 2 ^ n := Nat.mod_lt _ (Nat.pow_pos (by decide))
theorem pow_le32 {n : Nat} (h : n ≤ 32) : 2 ^ n ≤ 4294967296 := Nat.pow_le_pow_right (n := 2) (by decide) h

theorem mask_eq {n : Nat} (hn : n ≤ 32) : IntKind.wrap .i64 ((1 : Int) * 2 ^ min (Int.toNat (n : Int)) 64) = ((2 ^ n : Nat) : Int) := by
  have := pow_le32 hn
  have h1 : min (Int.toNat (n : Int)) 64 = n := by simp; omega
  rw [h1, Int.one_mul, show ((2 : Int) ^ n) = ((2 ^ n : Nat) : Int) by simp]
  generalize 2 ^ n = k at *
  exact wrap_i64 (by omega) (by omega)

theorem low_eq {n : Nat} (hn : n ≤ 32) (v : Int) : IntKind.wrap .i64 ((BitVec.toNat (BitVec.ofInt 64 v &&& BitVec.ofInt 64 (IntKind.wrap .i64 (IntKind.wrap .i64 ((1 : Int) * 2 ^ min (Int.toNat (n : Int)) 64) - 1))) : Nat) : Int) = (lowN n v : Int) := by
  have hp := pow_le32 hn
  have hpos : 0 < 2 ^ n := Nat.pow_pos (by decide)
  have hw : IntKind.wrap .i64 (((2 ^ n : Nat) : Int) - 1) = ((2 ^ n : Nat) : Int) - 1 := by
    generalize 2 ^ n = k at *
    exact wrap_i64 (by omega) (by omega)
  rw [mask_eq hn, hw]
  have e : BitVec.ofInt 64 (((2 ^ n : Nat) : Int) - 1) = BitVec.ofNat 64 (2 ^ n - 1) := by
    rw [show ((2 ^ n : Nat) : Int) - 1 = ((2 ^ n - 1 : Nat) : Int) by generalize 2 ^ n = k at *; omega]
    exact BitVec.ofInt_natCast ..
  have e2 : (BitVec.ofInt 64 v &&& BitVec.ofNat 64 (2 ^ n - 1)).toNat = lowN n v := by
    rw [BitVec.toNat_and, BitVec.toNat_ofNat, Nat.mod_eq_of_lt (by omega), Nat.and_two_pow_sub_one_eq_mod]
    rfl
  rw [e, e2]
  have := lowN_lt n v
  exact wrap_i64 (by omega) (by omega)

theorem F43_low (N : Nat) {n : Nat} (hn : n ≤ 32) (v : Int) : F43 N ((n : Int), v) = some (lowN n v : Int) := by
  show (if decide ((n : Int) < 0) = true then none else some _) = _
  rw [if_neg (by simp)]
  exact congrArg some (low_eq hn v)

def revN (n : Nat) (L : Nat) : Nat := (rev64 (BitVec.ofNat 64 L)).toNat >>> (64 - n)

theorem revN_lt {n : Nat} (hn : n ≤ 32) (L : Nat) : revN n L < 2 ^ n := by
  unfold revN
  rw [Nat.shiftRight_eq_div_pow]
  apply Nat.div_lt_of_lt_mul
  rw [← Nat.pow_add, show 64 - n + n = 64 by omega]
  exact (rev64 _).isLt

theorem revN_bit {n : Nat} (hn : n ≤ 32) {L : Nat} (i : Nat) : (revN n L).testBit i = (decide (i < n) && L.testBit (n - 1 - i)) := by
  unfold revN
  rw [Nat.testBit_shiftRight]
  by_cases h : i < n
  · have := rev64_bit (BitVec.ofNat 64 L) (i := 64 - n + i) (by omega)
    rw [BitVec.getLsbD, BitVec.getLsbD] at this
    rw [this, BitVec.toNat_ofNat, Nat.testBit_mod_two_pow]
    have e : 63 - (64 - n + i) = n - 1 - i := by omega
    rw [e]
    simp [h]; omega
  · have : (rev64 (BitVec.ofNat 64 L)).getLsbD (64 - n + i) = false := BitVec.getLsbD_of_ge _ _ (by omega)
    rw [BitVec.getLsbD] at this
    rw [this]
    simp [h]

theorem F62_rev (N : Nat) (a b : Int) : F62 N (a, b) = some (revN (clampN b) (lowN (clampN b) a) : Int) := by
  have hc := clampN_le b
  have hp := pow_le32 hc
  have hl := lowN_lt (clampN b) a
  simp only [F62]
  rw [F42_clamp, Option.bind_some, F43_low N hc, Option.bind_some]
  have e1 : IntKind.wrap .u64 ((lowN (clampN b) a : Nat) : Int) = U (BitVec.ofNat 64 (lowN (clampN b) a)) := by
    rw [wrap_u64]; unfold U
    rw [BitVec.toNat_ofNat]
    omega
  rw [e1, F70_rev, Option.bind_some]
  have e2 : IntKind.wrap .i64 ((64 : Int) - (clampN b : Int)) = ((64 - clampN b : Nat) : Int) := by
    rw [wrap_i64 (by omega) (by omega)]; omega
  rw [e2, if_neg (by simp)]
  have e3 : min (Int.toNat ((64 - clampN b : Nat) : Int)) 64 = 64 - clampN b := by
    simp
  rw [e3, shrU]
  congr 1
  have hr := revN_lt hc (lowN (clampN b) a)
  have e4 : U (rev64 (BitVec.ofNat 64 (lowN (clampN b) a)) >>> (64 - clampN b)) = (revN (clampN b) (lowN (clampN b) a) : Int) := by
    unfold U revN
    rw [BitVec.toNat_ushiftRight]
  rw [e4]
  exact wrap_i64 (by omega) (by omega)


theorem bit1 (z : Int) : IntKind.wrap .i64 ((BitVec.toNat (BitVec.ofInt 64 z &&& BitVec.ofInt 64 1) : Nat) : Int) = z % 2 := by
  have e : (BitVec.ofInt 64 z &&& BitVec.ofInt 64 1).toNat = (z % 2).toNat := by
    rw [BitVec.toNat_and, show (BitVec.ofInt 64 1).toNat = 2 ^ 1 - 1 from rfl, Nat.and_two_pow_sub_one_eq_mod, BitVec.toNat_ofInt]
    omega
  rw [e]
  rw [wrap_i64 (by omega) (by omega)]
  omega

theorem bit_low {n k : Nat} (hn : n ≤ 32) (hk : k < n) (a : Int) : (Int.fdiv a (2 ^ k)) % 2 = ((lowN n a / 2 ^ k % 2 : Nat) : Int) := by
  have hpos : (0 : Int) < 2 ^ k := Int.pow_pos (by decide)
  rw [Int.fdiv_eq_ediv_of_nonneg _ (Int.le_of_lt hpos)]
  have hL : (lowN n a : Int) = a % (2 ^ n : Int) := by
    unfold lowN
    rw [BitVec.toNat_ofInt]
    have h64 : (2 ^ n : Int) ∣ (2 ^ 64 : Int) := by
      refine ⟨2 ^ (64 - n), ?_⟩
      rw [← Int.pow_add, show n + (64 - n) = 64 by omega]
    have hm : a % (2 ^ 64 : Int) % (2 ^ n : Int) = a % (2 ^ n : Int) := Int.emod_emod_of_dvd a h64
    rw [← hm]
    have hnn : 0 ≤ a % (2 ^ 64 : Int) := Int.emod_nonneg _ (by decide)
    rw [Int.natCast_emod, Int.toNat_of_nonneg (by simpa using hnn)]
    simp
  obtain ⟨m, hm⟩ : ∃ m : Int, a = (lowN n a : Int) + 2 ^ k * (2 * m) := by
    refine ⟨2 ^ (n - k - 1) * (a / 2 ^ n), ?_⟩
    have e : (2 : Int) ^ k * (2 * (2 ^ (n - k - 1) * (a / 2 ^ n))) = 2 ^ n * (a / 2 ^ n) := by
      rw [← Int.mul_assoc, ← Int.mul_assoc, ← Int.pow_succ, ← Int.pow_add, show k + 1 + (n - k - 1) = n by omega]
    rw [e, hL]
    have := Int.emod_add_mul_ediv a (2 ^ n)
    omega
  have e2 : a / 2 ^ k = (lowN n a : Int) / 2 ^ k + 2 * m := by
    rw [hm, Int.add_mul_ediv_left _ _ (by omega)]
    rw [← hm]
  rw [e2]
  have e3 : ((lowN n a / 2 ^ k % 2 : Nat) : Int) = (lowN n a : Int) / 2 ^ k % 2 := by simp
  rw [e3]
  omega

theorem rev_rev {n : Nat} (hn : n ≤ 32) (a : Int) : revN n (lowN n ((revN n (lowN n a) : Nat) : Int)) = lowN n a := by
  have hr := revN_lt hn (lowN n a)
  have hp := pow_le32 hn
  have e : lowN n ((revN n (lowN n a) : Nat) : Int) = revN n (lowN n a) := by
    show (BitVec.ofInt 64 ((revN n (lowN n a) : Nat) : Int)).toNat % 2 ^ n = revN n (lowN n a)
    rw [BitVec.ofInt_natCast, BitVec.toNat_ofNat]
    generalize 2 ^ n = q at *
    rw [Nat.mod_eq_of_lt (show revN n (lowN n a) < 2 ^ 64 by omega), Nat.mod_eq_of_lt hr]
  rw [e]
  apply Nat.eq_of_testBit_eq
  intro i
  rw [revN_bit hn, revN_bit hn]
  by_cases h : i < n
  · have h2 : n - 1 - i < n := by omega
    rw [show n - 1 - (n - 1 - i) = i by omega]
    simp [h, h2]
  · have : (lowN n a).testBit i = false := Nat.testBit_lt_two_pow (Nat.lt_of_lt_of_le (lowN_lt n a) (Nat.pow_le_pow_right (by decide) (by omega)))
    simp [h, this]


theorem F23_loop (N : Nat) : ∀ (k : Nat) (r : List Bool) (b : List Int), r.length / 8 < k → b.length + r.length ≤ 140737488355328 →
    F23_30 N k ((val r : Int), (r.length : Int), b) = some (lastF r, nF r, b ++ bF r) := by
  intro k
  induction k with
  | zero => intro r b h; omega
  | succ k ih =>
    intro r b h hb
    simp only [F23_30, B23_30]
    by_cases h8 : 8 ≤ r.length
    · rw [if_pos (by simp; omega), if_pos (by simp; omega)]
      have e1 : Int.fdiv (val r : Int) 256 = (val (r.drop 8) : Int) := by
        rw [Int.fdiv_eq_ediv_of_nonneg _ (by decide), ← val_div r 8 h8]; simp
      have e2 : IntKind.wrap .i64 ((r.length : Int) - 8) = ((r.drop 8).length : Int) := by
        rw [wrap_i64 (by omega) (by omega), List.length_drop]; omega
      have e3 : IntKind.wrap .u8 (val r : Int) = (val (r.take 8) : Int) := by
        rw [wrap_u8, ← val_mod r 8 h8]; simp
      rw [e1, e2, e3, ih (r.drop 8) _ (by rw [List.length_drop]; omega) (by simp; omega)]
      have hk : r.length / 8 = (r.drop 8).length / 8 + 1 := by rw [List.length_drop]; omega
      have f1 : bF r = (val (r.take 8) : Int) :: bF (r.drop 8) := by
        unfold bF; rw [hk, bytesF]
      have f2 : restF r = restF (r.drop 8) := by
        unfold restF; rw [List.drop_drop, hk]; congr 1; omega
      have f3 : nF r = nF (r.drop 8) := by
        unfold nF; rw [List.length_drop]; congr 1; omega
      simp only [Option.bind_some, lastF, f1, f2, f3, List.append_assoc, List.singleton_append]
    · rw [if_neg (by simp; omega)]
      have hk : r.length / 8 = 0 := by omega
      have f1 : bF r = [] := by unfold bF; rw [hk]; rfl
      have f2 : restF r = r := by unfold restF; rw [hk]; rfl
      have f3 : nF r = (r.length : Int) := by unfold nF; congr 1; omega
      simp only [lastF, f1, f2, f3, List.append_nil]

/-- What 'Bits' puts in. -/
def putB (n v : Int) : List Bool := bitsN (clampN n) (lowN (clampN n) v)

theorem F23_bits {N : Nat} (hN : 6 ≤ N) (m : List Bool) (hm : m.length ≤ 1000000000) (n v : Int) :
    F23 N (n, v, lastF m, nF m, bF m) = some (lastF (m ++ putB n v), nF (m ++ putB n v), bF (m ++ putB n v)) := by
  have hc := clampN_le n
  have hl := lowN_lt (clampN n) v
  have hr := val_lt (restF m)
  have hrl := restF_length m
  have h8 : (restF m).length < 8 := by omega
  simp only [F23]
  rw [F42_clamp, Option.bind_some, F43_low N hc, Option.bind_some, if_neg (by unfold nF; simp only [decide_eq_true_eq]; omega)]
  have e1 : IntKind.wrap .i64 ((BitVec.toNat (BitVec.ofInt 64 (lastF m) ||| BitVec.ofInt 64 (IntKind.wrap .i64 (((lowN (clampN n) v : Nat) : Int) * 2 ^ min (Int.toNat (nF m)) 64))) : Nat) : Int) = (val (restF m ++ putB n v) : Int) := by
    unfold lastF nF
    rw [← hrl, or_eq hr hl (by omega), val_append]
    unfold putB
    rw [val_bitsN, Nat.mod_eq_of_lt hl]
  have e2 : IntKind.wrap .i64 (nF m + (clampN n : Int)) = ((restF m ++ putB n v).length : Int) := by
    unfold nF putB
    rw [wrap_i64 (by omega) (by omega), List.length_append, bitsN_length, hrl]; omega
  have hlen : (restF m ++ putB n v).length < 40 := by
    unfold putB; rw [List.length_append, bitsN_length]; omega
  have hb := bF_len m
  rw [e1, e2, F23_loop N N _ _ (by omega) (by omega), Option.bind_some]
  obtain ⟨p1, p2, p3⟩ := parts m (putB n v)
  simp only [lastF, p1, p2, p3]

def sbit (s : ByteArray) (j : Nat) : Bool := (s.data.toList.getD (j / 8) 0).toNat.testBit (j % 8)
def sbits (s : ByteArray) (at_ k : Nat) : List Bool := (List.range k).map fun i => sbit s (at_ + i)
theorem sbits_length (s : ByteArray) (p k : Nat) : (sbits s p k).length = k := by simp [sbits]
theorem sbits_succ (s : ByteArray) (p k : Nat) : sbits s p (k + 1) = sbits s p k ++ [sbit s (p + k)] := by
  unfold sbits; rw [List.range_succ, List.map_append]; rfl

theorem byte_at (s : ByteArray) (i : Nat) (h : i < s.size) : s[i]? = some (s.data.toList.getD i 0) := by
  have h' : i < s.data.toList.length := by simpa using h
  rw [getElem?_pos s i h]
  congr 1
  have h2 : i < s.data.size := h
  simp only [List.getD, ByteArray.getElem_eq_getElem_data, Array.getElem?_toList]
  rw [Array.getElem?_eq_getElem h2]; rfl

theorem F65_loop (N : Nat) (s : ByteArray) (p : Nat) (n3 err : Int) (hs : s.size ≤ 1000000000) {k : Nat} (hk : k ≤ 32) (hp : p + k ≤ 8 * s.size) : ∀ (d i f : Nat), i + d = k → d < f →
    F65_250 N f ((val (sbits s p i) : Int), (i : Int), (k : Int), n3, s, (p : Int), err) = some (n3, (val (sbits s p k) : Int), s, (p : Int), err) := by
  intro d
  induction d with
  | zero =>
    intro i f hi hf
    cases f with
    | zero => omega
    | succ f =>
      simp only [F65_250, B65_250]
      rw [if_neg (by simp; omega), show i = k by omega]
  | succ d ih =>
    intro i f hi hf
    cases f with
    | zero => omega
    | succ f =>
      simp only [F65_250, B65_250]
      have e0 : IntKind.wrap .i64 ((p : Int) + (i : Int)) = ((p + i : Nat) : Int) := by
        rw [wrap_i64 (by omega) (by omega)]; omega
      have e1 : Int.tdiv ((p + i : Nat) : Int) 8 = (((p + i) / 8 : Nat) : Int) := by
        rw [Int.tdiv_eq_ediv_of_nonneg (by omega)]; omega
      have e2 : IntKind.wrap .i64 ((((p + i) / 8 : Nat)) : Int) = (((p + i) / 8 : Nat) : Int) := wrap_i64 (by omega) (by omega)
      have e3 : Int.tmod ((p + i : Nat) : Int) 8 = (((p + i) % 8 : Nat) : Int) := by
        rw [Int.tmod_eq_emod_of_nonneg (by omega)]; omega
      rw [if_pos (by simp; omega)]
      simp only [e0, e1, e2, e3, Int.toNat_natCast]
      rw [if_pos (by simp only [decide_eq_true_eq]; omega), byte_at s _ (by omega), Option.bind_some, if_neg (by simp; omega), if_neg (by simp)]
      have hy := (s.data.toList.getD ((p + i) / 8) 0).toNat_lt
      have e4 : IntKind.wrap .i64 (((s.data.toList.getD ((p + i) / 8) 0).toNat : Nat) : Int) = (((s.data.toList.getD ((p + i) / 8) 0).toNat : Nat) : Int) := wrap_i64 (by omega) (by omega)
      have e5 : min ((p + i) % 8) 64 = (p + i) % 8 := by omega
      have e6 : (Int.fdiv (((s.data.toList.getD ((p + i) / 8) 0).toNat : Nat) : Int) (2 ^ ((p + i) % 8))) % 2 = (((sbit s (p + i)).toNat : Nat) : Int) := by
        rw [Int.fdiv_eq_ediv_of_nonneg _ (Int.pow_nonneg (by decide))]
        unfold sbit
        rw [Nat.toNat_testBit]
        simp
      rw [e4, e5, bit1, e6]
      have hA := val_lt (sbits s p i)
      rw [sbits_length] at hA
      have hB : (sbit s (p + i)).toNat < 2 ^ 1 := by cases sbit s (p + i) <;> decide
      have e7 := or_eq hA hB (by omega)
      rw [Int.toNat_natCast] at e7
      rw [e7]
      have e8 : val (sbits s p i) + 2 ^ i * (sbit s (p + i)).toNat = val (sbits s p (i + 1)) := by
        rw [sbits_succ, val_append, sbits_length]
        simp [val]
      have e9 : IntKind.wrap .i64 ((i : Int) + 1) = ((i + 1 : Nat) : Int) := by
        rw [wrap_i64 (by omega) (by omega)]; omega
      rw [e8, e9, ih (i + 1) f (by omega) (by omega), Option.bind_some]

/-- So many bits are left: they are read. -/
theorem F65_read {N : Nat} (hN : 33 ≤ N) (s : ByteArray) (p : Nat) (n : Int) (hs : s.size ≤ 1000000000) (hp : p + clampN n ≤ 8 * s.size) :
    F65 N (n, s, (p : Int), 0) = some ((val (sbits s p (clampN n)) : Int), s, ((p + clampN n : Nat) : Int), 0) := by
  have hc := clampN_le n
  simp only [F65, F71, F74]
  rw [F42_clamp, Option.bind_some, if_pos (by simp), Option.bind_some]
  have e1 : IntKind.wrap .i64 (IntKind.wrap .i64 ((8 : Int) * (s.size : Int)) - (p : Int)) = ((8 * s.size - p : Nat) : Int) := by
    rw [wrap_i64 (z := (8 : Int) * (s.size : Int)) (by omega) (by omega), wrap_i64 (by omega) (by omega)]; omega
  simp only [e1]
  rw [if_neg (by simp; omega)]
  simp only [Option.bind_some]
  rw [if_neg (by simp)]
  have h0 : (0 : Int) = (val (sbits s p 0) : Int) := by simp [sbits, val]
  have hl := F65_loop N s p ((clampN n : Nat) : Int) 0 hs hc hp (clampN n) 0 N (by omega) (by omega)
  rw [show ((0 : Nat) : Int) = 0 from rfl, ← h0] at hl
  rw [hl, Option.bind_some]
  simp only
  rw [wrap_i64 (by omega) (by omega)]
  simp

theorem stringOf_append (xs ys : List Int) : stringOf xs ++ stringOf ys = stringOf (xs ++ ys) := by
  unfold stringOf
  apply ByteArray.ext
  simp

theorem stringOf_size (xs : List Int) : (stringOf xs).size = xs.length := by
  unfold stringOf
  show (List.toArray _).size = _
  simp

/-- All the bytes, the last one filled up. -/
def allF (m : List Bool) : List Int := bytesF ((m.length + 7) / 8) m
def strF (m : List Bool) : ByteArray := stringOf (allF m)

theorem strF_size (m : List Bool) : (strF m).size = (m.length + 7) / 8 := by
  unfold strF allF; rw [stringOf_size, bytesF_len]

theorem F28_string (N : Nat) (m : List Bool) (hm : m.length ≤ 1000000000) : F28 N (bF m, lastF m, nF m, ()) = some (strF m) := by
  simp only [F28]
  have hb := bF_len m
  have hr := val_lt (restF m)
  rw [restF_length] at hr
  by_cases h : m.length % 8 = 0
  · rw [if_neg (by unfold nF; simp only [decide_eq_true_eq]; omega)]
    have : allF m = bF m := by unfold allF bF; congr 1; omega
    unfold strF; rw [this]
  · rw [if_pos (by unfold nF; simp only [decide_eq_true_eq]; omega)]
    have hp : 2 ^ (m.length % 8) ≤ 256 := Nat.pow_le_pow_right (n := 2) (by decide) (show m.length % 8 ≤ 8 by omega)
    have e : IntKind.wrap .u8 (lastF m) = lastF m := by
      rw [wrap_u8]; unfold lastF; omega
    rw [if_neg (by rw [stringOf_size, stringOf_size]; simp only [decide_eq_true_eq, List.length_singleton]; omega), e, stringOf_append]
    have : allF m = bF m ++ [lastF m] := by
      unfold allF bF lastF restF
      rw [show (m.length + 7) / 8 = m.length / 8 + 1 by omega, bytesF_snoc, List.take_of_length_le (by rw [List.length_drop]; omega)]
    unfold strF; rw [this]

theorem F27_len (N : Nat) (m : List Bool) (hm : m.length ≤ 1000000000) : F27 N (bF m, lastF m, nF m, ()) = some (m.length : Int) := by
  simp only [F27]
  have hb := bF_len m
  have e : IntKind.wrap .i64 (IntKind.wrap .i64 ((8 : Int) * ((bF m).length : Int)) + nF m) = (m.length : Int) := by
    unfold nF
    rw [wrap_i64 (z := (8 : Int) * ((bF m).length : Int)) (by omega) (by omega), wrap_i64 (by omega) (by omega)]; omega
  rw [e]

theorem bytesF_get : ∀ (k : Nat) (m : List Bool) (i : Nat), i < k → (bytesF k m)[i]? = some ((val ((m.drop (8 * i)).take 8) : Nat) : Int)
  | 0, m, i, h => by omega
  | k + 1, m, 0, h => by simp [bytesF]
  | k + 1, m, i + 1, h => by
    rw [bytesF, List.getElem?_cons_succ, bytesF_get k _ i (by omega), List.drop_drop, show 8 + 8 * i = 8 * (i + 1) by omega]

/-- The bits of the bytes are the bits. -/
theorem sbit_strF (m : List Bool) (j : Nat) : sbit (strF m) j = m.getD j false := by
  unfold sbit
  have hd : (strF m).data.toList = (allF m).map fun n => UInt8.ofNat n.toNat := by unfold strF stringOf; simp
  rw [hd]
  by_cases h : j / 8 < (m.length + 7) / 8
  · have e : ((allF m).map fun n => UInt8.ofNat n.toNat).getD (j / 8) 0 = UInt8.ofNat (val ((m.drop (8 * (j / 8))).take 8)) := by
      unfold allF
      rw [List.getD, List.getElem?_map, bytesF_get _ _ _ h]
      simp
    have hv := val_lt ((m.drop (8 * (j / 8))).take 8)
    have hp : 2 ^ ((m.drop (8 * (j / 8))).take 8).length ≤ 256 := Nat.pow_le_pow_right (n := 2) (by decide) (show _ ≤ 8 by rw [List.length_take]; omega)
    rw [e, UInt8.toNat_ofNat', Nat.mod_eq_of_lt (by show _ < 256; omega), val_bit, List.getD, List.getElem?_take_of_lt (by omega), List.getElem?_drop, show 8 * (j / 8) + j % 8 = j by omega]
    rfl
  · have e : ((allF m).map fun n => UInt8.ofNat n.toNat).getD (j / 8) 0 = 0 := by
      unfold allF
      rw [List.getD, List.getElem?_eq_none (by rw [List.length_map, bytesF_len]; omega)]; rfl
    rw [e, List.getD, List.getElem?_eq_none (by omega)]
    simp

theorem sbits_strF (a s r : List Bool) : sbits (strF (a ++ s ++ r)) a.length s.length = s := by
  apply List.ext_getElem?
  intro i
  unfold sbits
  by_cases h : i < s.length
  · rw [List.getElem?_map, List.getElem?_range h]
    simp only [Option.map_some, sbit_strF, List.getD]
    rw [List.append_assoc, List.getElem?_append_right (by omega), show a.length + i - a.length = i by omega, List.getElem?_append_left h, List.getElem?_eq_getElem h]
    rfl
  · rw [List.getElem?_eq_none (by simp; omega), List.getElem?_eq_none (by omega)]

theorem putB_length (n v : Int) : (putB n v).length = clampN n := by simp [putB]
theorem val_putB (n v : Int) : val (putB n v) = lowN (clampN n) v := by
  unfold putB
  rw [val_bitsN, Nat.mod_eq_of_lt (lowN_lt _ _)]

theorem getD_bitsN (n L i : Nat) : (bitsN n L)[i]? = if i < n then some (L.testBit i) else none := by
  unfold bitsN
  by_cases h : i < n
  · simp [h]
  · simp [h]

theorem low_testBit (n : Nat) (v : Int) (i : Nat) : (lowN n v).testBit i = (decide (i < n) && (BitVec.ofInt 64 v).toNat.testBit i) := Nat.testBit_mod_two_pow ..

/-- A number's bits in two pieces. -/
theorem put_split {a b : Nat} (h : a + b ≤ 32) (v : Int) (hv1 : -9223372036854775808 ≤ v) (hv2 : v ≤ 9223372036854775807) :
    putB (a : Int) v ++ putB (b : Int) (Int.fdiv v (2 ^ a)) = putB ((a + b : Nat) : Int) v := by
  have c1 : clampN (a : Int) = a := by unfold clampN; omega
  have c2 : clampN (b : Int) = b := by unfold clampN; omega
  have c3 : clampN ((a + b : Nat) : Int) = a + b := by unfold clampN; omega
  unfold putB
  rw [c1, c2, c3]
  apply List.ext_getElem?
  intro i
  by_cases hi : i < a
  · rw [List.getElem?_append_left (by simpa using hi), getD_bitsN, getD_bitsN, if_pos hi, if_pos (by omega), low_testBit, low_testBit]
    simp [hi]; omega
  · rw [List.getElem?_append_right (by simp; omega), bitsN_length, getD_bitsN, getD_bitsN]
    by_cases hj : i < a + b
    · rw [if_pos (by omega), if_pos hj, low_testBit, low_testBit]
      have hs : Int.fdiv v (2 ^ a) = ((BitVec.ofInt 64 v).sshiftRight a).toInt := by
        rw [BitVec.toInt_sshiftRight, BitVec.toInt_ofInt, Int.shiftRight_eq_div_pow, Int.fdiv_eq_ediv_of_nonneg _ (Int.pow_nonneg (by decide))]
        rw [Int.bmod_eq_of_le (by omega) (by omega)]
        simp
      have hb : ((BitVec.ofInt 64 v).sshiftRight a).getLsbD (i - a) = (BitVec.ofInt 64 v).getLsbD i := by
        rw [BitVec.getLsbD_sshiftRight, if_pos (by omega), show a + (i - a) = i by omega]
        simp; omega
      rw [hs, BitVec.ofInt_toInt]
      unfold BitVec.getLsbD at hb
      rw [hb]
      simp [hj]; omega
    · rw [if_neg (by omega), if_neg hj]

end Go.Proofs.Ytmcjfdognplgmaa.Am

namespace Go.Proofs.Ytmcjfdognplgmaa.Am
open Go.Am
set_option linter.unusedSimpArgs false
set_option linter.unusedVariables false

/-! ### The document's functions, by lists of bits -/
theorem F44_clamp (N : Nat) (b : Int) : F44 N b = some (clampN b : Int) := by
  show some _ = _
  rw [← clamp_eq]

theorem fdiv_two (v : Int) (i : Nat) : Int.fdiv (Int.fdiv v (2 ^ i)) 2 = Int.fdiv v (2 ^ (i + 1)) := by
  have h : (0 : Int) ≤ 2 ^ i := Int.pow_nonneg (by decide)
  rw [Int.fdiv_eq_ediv_of_nonneg _ (by decide), Int.fdiv_eq_ediv_of_nonneg _ h, Int.fdiv_eq_ediv_of_nonneg _ (Int.pow_nonneg (by decide)), Int.ediv_ediv_of_nonneg h, Int.pow_succ]

theorem bit_at {n i : Nat} (hn : n ≤ 32) (hi : i < n) (v : Int) :
    (IntKind.wrap .i64 ((BitVec.toNat (BitVec.ofInt 64 (Int.fdiv v (2 ^ i)) &&& BitVec.ofInt 64 1) : Nat) : Int) == 1) = (lowN n v).testBit i := by
  rw [bit1, bit_low hn hi, Nat.testBit_eq_decide_div_mod_eq]
  have := Nat.mod_two_eq_zero_or_one (lowN n v / 2 ^ i)
  generalize lowN n v / 2 ^ i % 2 = q at *
  rcases this with rfl | rfl <;> rfl

theorem F24_loop (N : Nat) (n v : Int) : ∀ (d i f : Nat), i + d = clampN n → d < f → F24_58 N f (Int.fdiv v (2 ^ i), (i : Int), n, (putB n v).take i) = some (putB n v) := by
  have hc := clampN_le n
  have hl := putB_length n v
  intro d
  induction d with
  | zero =>
    intro i f hi hf
    cases f with
    | zero => omega
    | succ f =>
      simp only [F24_58, B24_58]
      rw [F44_clamp, Option.bind_some, if_neg (by simp; omega), List.take_of_length_le (by omega)]
  | succ d ih =>
    intro i f hi hf
    cases f with
    | zero => omega
    | succ f =>
      simp only [F24_58, B24_58]
      rw [F44_clamp, Option.bind_some, if_pos (by simp; omega), if_pos (by simp; omega), fdiv_two, bit_at hc (by omega), wrap_i64 (by omega) (by omega)]
      have e : (putB n v).take i ++ [(lowN (clampN n) v).testBit i] = (putB n v).take (i + 1) := by
        rw [List.take_add_one]
        unfold putB
        rw [getD_bitsN, if_pos (by omega)]; rfl
      rw [e, show ((i : Int) + 1) = ((i + 1 : Nat) : Int) by omega, ih (i + 1) f (by omega) (by omega), Option.bind_some]

theorem F24_of {N : Nat} (hN : 33 ≤ N) (n v : Int) : F24 N (n, v) = some (putB n v) := by
  have hc := clampN_le n
  simp only [F24]
  have h := F24_loop N n v (clampN n) 0 N (by omega) (by omega)
  simp only [Int.pow_zero, Int.fdiv_one, List.take_zero] at h
  rw [show ((0 : Nat) : Int) = 0 from rfl] at h
  rw [h, Option.bind_some]

theorem F52_loop (N : Nat) (l : List Bool) (hl : l.length ≤ 62) : ∀ (i f : Nat), i ≤ l.length → i < f → F52_58 N f ((val (l.drop i) : Int), (i : Int) - 1, l) = some (val l : Int) := by
  intro i
  induction i with
  | zero =>
    intro f _ hf
    cases f with
    | zero => omega
    | succ f =>
      simp only [F52_58, B52_58]
      rw [if_neg (by simp)]
      rfl
  | succ i ih =>
    intro f hi hf
    cases f with
    | zero => omega
    | succ f =>
      simp only [F52_58, B52_58]
      have hv := val_lt (l.drop (i + 1))
      rw [List.length_drop] at hv
      have hp : 2 ^ (l.length - (i + 1)) ≤ 2305843009213693952 := Nat.pow_le_pow_right (n := 2) (by decide) (show _ ≤ 61 by omega)
      have e0 : (((i + 1 : Nat) : Int) - 1) = (i : Int) := by omega
      have hd : l.drop i = l[i] :: l.drop (i + 1) := List.drop_eq_getElem_cons (by omega)
      rw [e0, if_pos (by simp), if_pos (by unfold within; simp; omega), Int.toNat_natCast, List.getElem?_eq_getElem (by omega), Option.bind_some, wrap_i64 (z := (val (l.drop (i + 1)) : Int) * 2) (by omega) (by omega)]
      rw [wrap_i64 (z := (val (l.drop (i + 1)) : Int) * 2 + 1) (by omega) (by omega), wrap_i64 (z := (i : Int) - 1) (by omega) (by omega)]
      have ih' := ih f (by omega) (by omega)
      rw [hd, val] at ih'
      cases hb : l[i] with
      | true =>
        rw [hb] at ih'
        rw [if_pos rfl]
        rw [show (val (l.drop (i + 1)) : Int) * 2 + 1 = ((true.toNat + 2 * val (l.drop (i + 1)) : Nat) : Int) by simp; omega, ih', Option.bind_some]
      | false =>
        rw [hb] at ih'
        rw [if_neg (by simp)]
        rw [show (val (l.drop (i + 1)) : Int) * 2 = ((false.toNat + 2 * val (l.drop (i + 1)) : Nat) : Int) by simp; omega, ih', Option.bind_some]

theorem F52_number {N : Nat} (l : List Bool) (hl : l.length ≤ 62) (hN : 63 ≤ N) : F52 N l = some (val l : Int) := by
  simp only [F52]
  have h := F52_loop N l hl l.length N (Nat.le_refl _) (by omega)
  rw [List.drop_length, show (val [] : Int) = 0 from rfl] at h
  rw [wrap_i64 (by omega) (by omega), h, Option.bind_some]

theorem F64_loop (N : Nat) (l : List Bool) (hl : l.length ≤ 62) : ∀ (i f : Nat), i ≤ l.length → i < f → F64_122 N f ((i : Int) - 1, (l.drop i).reverse, l) = some l.reverse := by
  intro i
  induction i with
  | zero =>
    intro f _ hf
    cases f with
    | zero => omega
    | succ f =>
      simp only [F64_122, B64_122]
      rw [if_neg (by simp)]
      rfl
  | succ i ih =>
    intro f hi hf
    cases f with
    | zero => omega
    | succ f =>
      simp only [F64_122, B64_122]
      have e0 : (((i + 1 : Nat) : Int) - 1) = (i : Int) := by omega
      have hd : l.drop i = l[i] :: l.drop (i + 1) := List.drop_eq_getElem_cons (by omega)
      rw [e0, if_pos (by simp), if_pos (by unfold within; simp; omega), Int.toNat_natCast, List.getElem?_eq_getElem (by omega), Option.bind_some, if_pos (by simp; omega), wrap_i64 (by omega) (by omega)]
      have ih' := ih f (by omega) (by omega)
      rw [hd, List.reverse_cons] at ih'
      rw [ih', Option.bind_some]

theorem F64_rev {N : Nat} (hN : 63 ≤ N) (v n : Int) : F64 N (v, n) = some (val (putB n v).reverse : Int) := by
  have hc := clampN_le n
  have hl := putB_length n v
  simp only [F64]
  rw [F24_of (by omega), Option.bind_some]
  have h := F64_loop N (putB n v) (by omega) (putB n v).length N (Nat.le_refl _) (by omega)
  rw [List.drop_length, List.reverse_nil] at h
  rw [wrap_i64 (by omega) (by omega), h, Option.bind_some, F52_number _ (by rw [List.length_reverse]; omega) (by omega), Option.bind_some]

/-- The code's and the document's number of a code the other way round. -/
theorem revN_val (n v : Int) : revN (clampN n) (lowN (clampN n) v) = val (putB n v).reverse := by
  have hc := clampN_le n
  apply Nat.eq_of_testBit_eq
  intro i
  rw [revN_bit hc, val_bit]
  have hl := putB_length n v
  by_cases h : i < clampN n
  · rw [List.getD, List.getElem?_reverse (by omega), hl]
    unfold putB
    rw [getD_bitsN, if_pos (by omega)]
    simp [h]
  · rw [List.getD, List.getElem?_eq_none (by rw [List.length_reverse]; omega)]
    simp [h]

/-! ### Whole bytes -/
def padN (m : List Bool) : Nat := (8 - m.length % 8) % 8
def alignL (m : List Bool) : List Bool := m ++ List.replicate (padN m) false

theorem alignL_length (m : List Bool) : (alignL m).length = 8 * ((m.length + 7) / 8) := by
  unfold alignL padN; rw [List.length_append, List.length_replicate]; omega

theorem F51_loop (N : Nat) : ∀ (d : Nat) (m : List Bool) (f : Nat), padN m = d → d < f → m.length ≤ 1000000000 → F51_12 N f m = some (alignL m) := by
  intro d
  induction d with
  | zero =>
    intro m f hd hf hm
    cases f with
    | zero => omega
    | succ f =>
      simp only [F51_12, B51_12]
      have : m.length % 8 = 0 := by unfold padN at hd; omega
      rw [if_neg (by rw [Int.tmod_eq_emod_of_nonneg (by omega)]; simp; omega)]
      unfold alignL; rw [hd]; simp
  | succ d ih =>
    intro m f hd hf hm
    cases f with
    | zero => omega
    | succ f =>
      simp only [F51_12, B51_12]
      have h8 : m.length % 8 ≠ 0 := by unfold padN at hd; omega
      have hp : padN (m ++ [false]) = d := by unfold padN at *; rw [List.length_append, List.length_singleton]; omega
      rw [if_pos (by rw [Int.tmod_eq_emod_of_nonneg (by omega)]; simp; omega), if_pos (by simp; omega), ih (m ++ [false]) f hp (by omega) (by simp; unfold padN at hd; omega), Option.bind_some]
      unfold alignL
      rw [hp, hd, List.append_assoc, List.replicate_succ]
      rfl

theorem F51_align {N : Nat} (hN : 8 ≤ N) (m : List Bool) (hm : m.length ≤ 1000000000) : F51 N m = some (alignL m) := by
  simp only [F51]
  rw [F51_loop N _ m N rfl (by unfold padN; omega) hm, Option.bind_some]

theorem putB_zero (k : Nat) (hk : k ≤ 32) : putB (k : Int) 0 = List.replicate k false := by
  have c : clampN (k : Int) = k := by unfold clampN; omega
  unfold putB lowN
  rw [c]
  apply List.ext_getElem?
  intro i
  rw [getD_bitsN, List.getElem?_replicate]
  simp

theorem val_pad : ∀ (l : List Bool) (k : Nat), val (l ++ List.replicate k false) = val l := by
  intro l k
  rw [val_append]
  have : val (List.replicate k false) = 0 := by
    induction k with
    | zero => rfl
    | succ k ih => rw [List.replicate_succ, val, ih]; rfl
  rw [this]; simp

theorem bytesF_pad : ∀ (k : Nat) (m : List Bool) (j : Nat), bytesF k (m ++ List.replicate j false) = bytesF k m
  | 0, _, _ => rfl
  | k + 1, m, j => by
    rw [bytesF, bytesF]
    have e1 : val ((m ++ List.replicate j false).take 8) = val (m.take 8) := by
      rw [List.take_append, List.take_replicate, val_pad]
    have e2 : (m ++ List.replicate j false).drop 8 = m.drop 8 ++ List.replicate (j - (8 - m.length)) false := by
      rw [List.drop_append, List.drop_replicate]
    rw [e1, e2, bytesF_pad k]

theorem allF_align (m : List Bool) : bytesF ((m.length + 7) / 8) (alignL m) = allF m := bytesF_pad _ _ _

theorem stringOf_nil : stringOf [] = ByteArray.mk #[] := rfl

theorem F29_loop (N : Nat) (hN : 63 ≤ N) (q : List Bool) (k : Nat) (hq : q.length = 8 * k) (hk : k ≤ 100000000) : ∀ (d j f : Nat), j + d = k → d < f →
    F29_506 N f (stringOf ((bytesF k q).take j), ((8 * j : Nat) : Int), q) = some (stringOf (bytesF k q)) := by
  have hlen := bytesF_len k q
  intro d
  induction d with
  | zero =>
    intro j f hj hf
    cases f with
    | zero => omega
    | succ f =>
      simp only [F29_506, B29_506]
      rw [if_neg (by simp; omega), List.take_of_length_le (by omega)]
  | succ d ih =>
    intro j f hj hf
    cases f with
    | zero => omega
    | succ f =>
      simp only [F29_506, B29_506]
      have e1 : IntKind.wrap .i64 (((8 * j : Nat) : Int) + 8) = ((8 * (j + 1) : Nat) : Int) := by
        rw [wrap_i64 (by omega) (by omega)]; omega
      rw [e1, if_pos (by simp; omega), if_pos (by simp; omega), if_pos (by simp; omega), Int.toNat_natCast, Int.toNat_natCast, show 8 * (j + 1) - 8 * j = 8 by omega]
      rw [F52_number _ (by rw [List.length_take, List.length_drop]; omega) hN, Option.bind_some]
      have hv := val_lt ((q.drop (8 * j)).take 8)
      have hp : 2 ^ ((q.drop (8 * j)).take 8).length ≤ 256 := Nat.pow_le_pow_right (n := 2) (by decide) (show _ ≤ 8 by rw [List.length_take]; omega)
      have e2 : IntKind.wrap .u8 (val ((q.drop (8 * j)).take 8) : Int) = (val ((q.drop (8 * j)).take 8) : Int) := by rw [wrap_u8]; omega
      rw [e2, if_neg (by rw [stringOf_size, stringOf_size, List.length_take]; simp; omega), stringOf_append]
      have e3 : (bytesF k q).take j ++ [(val ((q.drop (8 * j)).take 8) : Int)] = (bytesF k q).take (j + 1) := by
        rw [List.take_add_one (i := j), bytesF_get k q j (by omega)]; rfl
      rw [e3, ih (j + 1) f (by omega) (by omega), Option.bind_some]

theorem F29_text {N : Nat} (m : List Bool) (hm : m.length ≤ 100000) (hN : 100000 ≤ N) : F29 N m = some (strF m) := by
  simp only [F29]
  rw [if_pos (by simp; omega), F51_align (by omega) m (by omega), Option.bind_some]
  have h := F29_loop N (by omega) (alignL m) ((m.length + 7) / 8) (alignL_length m) (by omega) ((m.length + 7) / 8) 0 N (by omega) (by omega)
  simp only [List.take_zero, stringOf_nil, Nat.mul_zero] at h
  rw [show ((0 : Nat) : Int) = 0 from rfl] at h
  rw [h, Option.bind_some, allF_align]
  rfl

/-! ### A text's bits -/
def bitsOf (l : List UInt8) : List Bool := l.flatMap fun x => bitsN 8 x.toNat
def allB (s : ByteArray) : List Bool := bitsOf s.data.toList

theorem bitsOf_length : ∀ l : List UInt8, (bitsOf l).length = 8 * l.length
  | [] => rfl
  | x :: l => by
    unfold bitsOf
    rw [List.flatMap_cons, List.length_append, bitsN_length]
    have := bitsOf_length l
    unfold bitsOf at this
    rw [this, List.length_cons]; omega
theorem allB_length (s : ByteArray) : (allB s).length = 8 * s.size := by
  unfold allB; rw [bitsOf_length]; simp

theorem bitsOf_append (a b : List UInt8) : bitsOf (a ++ b) = bitsOf a ++ bitsOf b := List.flatMap_append

theorem putB_byte (x : UInt8) : putB 8 (x.toNat : Int) = bitsN 8 x.toNat := by
  have c : clampN 8 = 8 := rfl
  have := x.toNat_lt
  unfold putB lowN
  rw [c, BitVec.ofInt_natCast, BitVec.toNat_ofNat, Nat.mod_eq_of_lt (show x.toNat < 2 ^ 64 by omega), Nat.mod_eq_of_lt (show x.toNat < 2 ^ 8 by omega)]

theorem F32_loop (N : Nat) (hN : 33 ≤ N) (s : ByteArray) (hs : s.size ≤ 1000000000) : ∀ (d i f : Nat), i + d = s.size → d < f → F32_58 N f ((i : Int), s, bitsOf (s.data.toList.take i)) = some (allB s) := by
  intro d
  have hsl : s.data.toList.length = s.size := by simp
  induction d with
  | zero =>
    intro i f hi hf
    cases f with
    | zero => omega
    | succ f =>
      simp only [F32_58, B32_58]
      rw [if_neg (by simp; omega), List.take_of_length_le (by omega)]
      rfl
  | succ d ih =>
    intro i f hi hf
    cases f with
    | zero => omega
    | succ f =>
      simp only [F32_58, B32_58]
      have hb := (s.data.toList.getD i 0).toNat_lt
      rw [if_pos (by simp; omega), if_pos (by simp), Int.toNat_natCast, byte_at s i (by omega), Option.bind_some, wrap_i64 (z := ((s.data.toList.getD i 0).toNat : Int)) (by omega) (by omega), F24_of hN, Option.bind_some, putB_byte]
      have hL := bitsOf_length (s.data.toList.take i)
      rw [List.length_take] at hL
      rw [if_pos (by rw [hL, bitsN_length]; simp; omega), wrap_i64 (by omega) (by omega)]
      have e : bitsOf (s.data.toList.take i) ++ bitsN 8 (s.data.toList.getD i 0).toNat = bitsOf (s.data.toList.take (i + 1)) := by
        rw [List.take_add_one, bitsOf_append, List.getElem?_eq_getElem (by omega), List.getD, List.getElem?_eq_getElem (by omega)]
        simp [bitsOf]
      rw [e, show ((i : Int) + 1) = ((i + 1 : Nat) : Int) by omega, ih (i + 1) f (by omega) (by omega), Option.bind_some]

theorem F32_all {N : Nat} (s : ByteArray) (hs : s.size ≤ 10000) (hN : 100000 ≤ N) : F32 N s = some (allB s) := by
  simp only [F32]
  have h := F32_loop N (by omega) s (by omega) s.size 0 N (by omega) (by omega)
  rw [List.take_zero, show bitsOf [] = [] from rfl, show ((0 : Nat) : Int) = 0 from rfl] at h
  rw [h, Option.bind_some]

theorem val_bits8 (x : UInt8) : val (bitsN 8 x.toNat) = x.toNat := by
  have := x.toNat_lt
  rw [val_bitsN, Nat.mod_eq_of_lt (by omega)]

theorem bytesF_bitsOf : ∀ l : List UInt8, bytesF l.length (bitsOf l) = l.map fun x => (x.toNat : Int)
  | [] => rfl
  | x :: l => by
    have e : bitsOf (x :: l) = bitsN 8 x.toNat ++ bitsOf l := by unfold bitsOf; rw [List.flatMap_cons]
    rw [List.length_cons, bytesF, e, List.take_left' (bitsN_length ..), List.drop_left' (bitsN_length ..), val_bits8, bytesF_bitsOf l]
    rfl

theorem toList_data (s : ByteArray) : s.toList = s.data.toList := by
  exact ByteArray.toList_eq s

theorem bytesOf_eq (s : ByteArray) : bytesOf s = s.data.toList.map fun x => (x.toNat : Int) := by
  unfold bytesOf; rw [toList_data]
end Go.Proofs.Ytmcjfdognplgmaa.Am

namespace Go.Proofs.Ytmcjfdognplgmaa.Am
open Go.Am
set_option linter.unusedSimpArgs false
set_option linter.unusedVariables false

/-! ### What comes: which counts are above nothing -/
structure CntAt (a : List Int) (n k : Nat) (S : Nat → Prop) : Prop where
  len : a.length = n
  nn : ∀ s, s < n → 0 ≤ a.getD s 0 ∧ a.getD s 0 ≤ (k : Int)
  iff : ∀ s, s < n → (0 < a.getD s 0 ↔ S s)

theorem CntAt.inc {a : List Int} {n k : Nat} {S : Nat → Prop} (h : CntAt a n k S) (hk : k ≤ 1000) {s : Nat} (hs : s < n) : CntAt (a.set s (IntKind.wrap .i64 (a.getD s 0 + 1))) n (k + 1) (fun x => S x ∨ x = s) := by
  have hb := h.nn s hs
  have hl := h.len
  have hg : ∀ t, t < n → (a.set s (IntKind.wrap .i64 (a.getD s 0 + 1))).getD t 0 = if t = s then a.getD s 0 + 1 else a.getD t 0 := by
    intro t ht
    by_cases e : t = s
    · subst e
      rw [if_pos rfl, List.getD, List.getElem?_set_self (by omega), Option.getD_some, wrap_i64 (by omega) (by omega)]
    · rw [if_neg e, List.getD, List.getElem?_set_ne (by omega)]; rfl
  refine ⟨by simpa using hl, fun t ht => ?_, fun t ht => ?_⟩
  · rw [hg t ht]
    have := h.nn t ht
    split <;> omega
  · rw [hg t ht]
    by_cases e : t = s
    · subst e
      rw [if_pos rfl]
      exact ⟨fun _ => .inr rfl, fun _ => by omega⟩
    · rw [if_neg e, h.iff t ht]
      exact ⟨.inl, fun q => q.resolve_right e⟩

theorem CntAt.mono {a : List Int} {n k k' : Nat} {S S' : Nat → Prop} (h : CntAt a n k S) (hk : k ≤ k') (hS : ∀ s, s < n → (S s ↔ S' s)) : CntAt a n k' S' :=
  ⟨h.len, fun s hs => by have := h.nn s hs; omega, fun s hs => (h.iff s hs).trans (hS s hs)⟩

/-- A token's symbols. -/
def litS (t : Tok) : Nat := if t.2.1 = 0 then t.1.toNat else (lenOf t.2.1).1.toNat
def dstS (t : Tok) : Option Nat := if t.2.1 = 0 then none else some (disOf t.2.2.1).1.toNat

def validAll (l : List Tok) : Bool := l.all fun t => validT t.1 t.2.1 t.2.2.1

theorem valid_at {l : List Tok} (h : validAll l = true) {i : Nat} (hi : i < l.length) : validT l[i].1 l[i].2.1 l[i].2.2.1 = true :=
  List.all_eq_true.1 h _ (List.getElem_mem hi)

theorem counts_loop (l : List Tok) (hl : l.length ≤ 60) (hv : validAll l = true) : ∀ (d i f : Nat) (a b : List Int), i + d = l.length → d < f →
    CntAt a 286 (i + 1) (fun s => s = 256 ∨ ∃ j, ∃ h : j < l.length, j < i ∧ litS l[j] = s) → CntAt b 30 (i + 1) (fun s => ∃ j, ∃ h : j < l.length, j < i ∧ dstS l[j] = some s) →
    ∃ r : List Int × List Int, F18_122 100000 f ((i : Int), (l.length : Int), l, a, b) = some r ∧
      CntAt r.1 286 61 (fun s => s = 256 ∨ ∃ j, ∃ h : j < l.length, litS l[j] = s) ∧ CntAt r.2 30 61 (fun s => ∃ j, ∃ h : j < l.length, dstS l[j] = some s) := by
  intro d
  induction d with
  | zero =>
    intro i f a b hi hf ha hb
    cases f with
    | zero => omega
    | succ f =>
      have hc : decide ((i : Int) < (l.length : Int)) = false := by simp only [decide_eq_false_iff_not]; omega
      simp only [F18_122, B18_122, hc, Bool.false_eq_true, if_false]
      refine ⟨(a, b), rfl, ha.mono (by omega) fun s _ => ?_, hb.mono (by omega) fun s _ => ?_⟩
      · exact ⟨fun h => h.imp id fun ⟨j, h, _, e⟩ => ⟨j, h, e⟩, fun h => h.imp id fun ⟨j, h, e⟩ => ⟨j, h, by omega, e⟩⟩
      · exact ⟨fun ⟨j, h, _, e⟩ => ⟨j, h, e⟩, fun ⟨j, h, e⟩ => ⟨j, h, by omega, e⟩⟩
  | succ d ih =>
    intro i f a b hi hf ha hb
    cases f with
    | zero => omega
    | succ f =>
      have hil : i < l.length := by omega
      have hli : l[i]? = some l[i] := List.getElem?_eq_getElem hil
      have hw : IntKind.wrap .i64 ((i : Int) + 1) = ((i + 1 : Nat) : Int) := by rw [wrap_i64 (by omega) (by omega)]; omega
      have hwi : within (i : Int) l.length = true := by unfold within; simp only [decide_eq_true_eq]; omega
      have hc : decide ((i : Int) < (l.length : Int)) = true := by simp only [decide_eq_true_eq]; omega
      have hva := valid_at hv hil
      have hla := ha.len
      have hlb := hb.len
      simp only [F18_122, B18_122, hc, hwi, if_true, Int.toNat_natCast, hli, Option.bind_some, hw, F39_valid, hva, Bool.not_true, Bool.false_eq_true, if_false]
      -- what came till then, and this one
      have stepL : ∀ (s0 : Nat) (S : Nat → Prop), litS l[i] = s0 → ∀ s, ((s = 256 ∨ ∃ j, ∃ h : j < l.length, j < i ∧ litS l[j] = s) ∨ s = s0) ↔ (s = 256 ∨ ∃ j, ∃ h : j < l.length, j < i + 1 ∧ litS l[j] = s) := by
        intro s0 _ e s
        constructor
        · rintro ((h | ⟨j, h1, h2, h3⟩) | h)
          · exact .inl h
          · exact .inr ⟨j, h1, by omega, h3⟩
          · exact .inr ⟨i, hil, by omega, by rw [e, h]⟩
        · rintro (h | ⟨j, h1, h2, h3⟩)
          · exact .inl (.inl h)
          · by_cases hj : j = i
            · subst hj; exact .inr (h3.symm.trans e)
            · exact .inl (.inr ⟨j, h1, by omega, h3⟩)
      rcases validT_spec hva with ⟨h0, h1, h2⟩ | ⟨h0, h1, h2, h3, h4⟩
      · have e0 : (l[i].2.1 == (0 : Int)) = true := by simpa using h0
        have wB : within l[i].1 a.length = true := by unfold within; simp only [decide_eq_true_eq]; omega
        have gB : a[Int.toNat l[i].1]? = some (a.getD (Int.toNat l[i].1) 0) := get_at (by omega)
        have eS : litS l[i] = Int.toNat l[i].1 := by unfold litS; rw [if_pos h0]
        have eD : dstS l[i] = none := by unfold dstS; rw [if_pos h0]
        simp only [e0, if_true, wB, gB, Option.bind_some]
        obtain ⟨r, r1, r2⟩ := ih (i + 1) f (a.set (Int.toNat l[i].1) (IntKind.wrap .i64 (a.getD (Int.toNat l[i].1) 0 + 1))) b (by omega) (by omega)
          ((ha.inc (by omega) (by omega)).mono (Nat.le_refl _) fun s _ => stepL _ (fun _ => True) eS s)
          (hb.mono (by omega) fun s _ => ⟨fun ⟨j, h1, h2, h3⟩ => ⟨j, h1, by omega, h3⟩, fun ⟨j, h1, h2, h3⟩ => by
            by_cases hj : j = i
            · subst hj; rw [eD] at h3; cases h3
            · exact ⟨j, h1, by omega, h3⟩⟩)
        exact ⟨r, by rw [r1]; rfl, r2⟩
      · have e0 : ¬ (l[i].2.1 == (0 : Int)) = true := by simpa using h0
        obtain ⟨j, hj, ej, _⟩ := lenOf_at h1 h2
        obtain ⟨k, hk, ek, _⟩ := disOf_at h3 h4
        have wJ : within (257 + (j : Int)) a.length = true := by unfold within; simp only [decide_eq_true_eq]; omega
        have wK : within (0 + (k : Int)) b.length = true := by unfold within; simp only [decide_eq_true_eq]; omega
        have gJ : a[Int.toNat (257 + (j : Int))]? = some (a.getD (Int.toNat (257 + (j : Int))) 0) := get_at (by omega)
        have gK : b[Int.toNat (0 + (k : Int))]? = some (b.getD (Int.toNat (0 + (k : Int))) 0) := get_at (by omega)
        have eS : litS l[i] = Int.toNat (257 + (j : Int)) := by unfold litS; rw [if_neg h0, ej]
        have eD : dstS l[i] = some (Int.toNat (0 + (k : Int))) := by unfold dstS; rw [if_neg h0, ek]
        simp only [if_neg e0, F9_len l[i].2.1 (by omega), F11_dis l[i].2.2.1 (by omega), Option.bind_some, ej, ek, wJ, wK, gJ, gK, if_true]
        obtain ⟨r, r1, r2⟩ := ih (i + 1) f (a.set (Int.toNat (257 + (j : Int))) (IntKind.wrap .i64 (a.getD (Int.toNat (257 + (j : Int))) 0 + 1))) (b.set (Int.toNat (0 + (k : Int))) (IntKind.wrap .i64 (b.getD (Int.toNat (0 + (k : Int))) 0 + 1))) (by omega) (by omega)
          ((ha.inc (by omega) (by omega)).mono (Nat.le_refl _) fun s _ => stepL _ (fun _ => True) eS s)
          ((hb.inc (by omega) (by omega)).mono (Nat.le_refl _) fun s _ => by
            constructor
            · rintro (⟨j, h1, h2, h3⟩ | h)
              · exact ⟨j, h1, by omega, h3⟩
              · exact ⟨i, hil, by omega, by rw [eD, h]⟩
            · rintro ⟨q, g1, g2, g3⟩
              by_cases hq : q = i
              · subst hq; rw [eD] at g3; exact .inr (Option.some.inj g3).symm
              · exact .inl ⟨q, g1, by omega, g3⟩)
        exact ⟨r, by rw [r1]; rfl, r2⟩

theorem F18_counts (l : List Tok) (hl : l.length ≤ 60) (hv : validAll l = true) : ∃ r : List Int × List Int, F18 100000 l = some r ∧
    CntAt r.1 286 61 (fun s => s = 256 ∨ ∃ j, ∃ h : j < l.length, litS l[j] = s) ∧ CntAt r.2 30 61 (fun s => ∃ j, ∃ h : j < l.length, dstS l[j] = some s) := by
  have hL : ∀ s, s < 286 → lits0.getD s 0 = if s = 256 then 1 else 0 := by decide +kernel
  have hD : ∀ s, s < 30 → dists0.getD s 0 = 0 := by decide +kernel
  obtain ⟨r, r1, r2⟩ := counts_loop l hl hv l.length 0 100000 lits0 dists0 (by omega) (by omega)
    ⟨lits0_len, fun s hs => by rw [hL s hs]; split <;> omega, fun s hs => by
      rw [hL s hs]
      by_cases e : s = 256
      · rw [if_pos e]; exact ⟨fun _ => .inl e, fun _ => by decide⟩
      · rw [if_neg e]; exact ⟨fun h => by omega, fun h => by rcases h with h | ⟨j, h1, h2, _⟩ <;> omega⟩⟩
    ⟨dists0_len, fun s hs => by rw [hD s hs]; omega, fun s hs => by
      rw [hD s hs]; exact ⟨fun h => by omega, fun ⟨j, h1, h2, _⟩ => by omega⟩⟩
  rw [show ((0 : Nat) : Int) = 0 from rfl] at r1
  exact ⟨r, by rw [F18_def, r1]; rfl, r2⟩

/-! ### Have all that come a code? -/
def hasC (C : List Cod) (s : Nat) : Bool := decide (s < C.length) && !((C.getD s (0, 0, ())).2.1 == 0)

theorem F46_loop (N : Nat) (C : List Cod) (x : List Int) (hx : x.length ≤ 1000) : ∀ (d i f : Nat), i + d = x.length → d < f →
    ((∀ s, i ≤ s → s < x.length → 0 < x.getD s 0 → hasC C s = true) → F46_26 N f ((x.length : Int), x, C, (i : Int)) = some (.inr ())) ∧
    ((∃ s, i ≤ s ∧ s < x.length ∧ 0 < x.getD s 0 ∧ hasC C s = false) → F46_26 N f ((x.length : Int), x, C, (i : Int)) = some (.inl false)) := by
  intro d
  induction d with
  | zero =>
    intro i f hi hf
    cases f with
    | zero => omega
    | succ f =>
      simp only [F46_26, B46_26]
      rw [if_neg (by simp only [decide_eq_true_eq]; omega)]
      exact ⟨fun _ => rfl, fun ⟨s, h1, h2, _⟩ => by omega⟩
  | succ d ih =>
    intro i f hi hf
    cases f with
    | zero => omega
    | succ f =>
      obtain ⟨ih1, ih2⟩ := ih (i + 1) f (by omega) (by omega)
      have hil : i < x.length := by omega
      have hw : IntKind.wrap .i64 ((i : Int) + 1) = ((i + 1 : Nat) : Int) := by rw [wrap_i64 (by omega) (by omega)]; omega
      have hwi : within (i : Int) x.length = true := by unfold within; simp only [decide_eq_true_eq]; omega
      have hc : decide ((i : Int) < (x.length : Int)) = true := by simp only [decide_eq_true_eq]; omega
      have hg := get_at hil
      simp only [F46_26, B46_26, hc, hwi, hg, hw, Int.toNat_natCast, if_true, Option.bind_some]
      by_cases h0 : 0 < x.getD i 0
      · rw [if_pos (by simpa using h0)]
        by_cases hlen : C.length ≤ i
        · rw [if_pos (by simp only [decide_eq_true_eq]; omega)]
          have hh : hasC C i = false := by unfold hasC; rw [decide_eq_false (by omega)]; rfl
          exact ⟨fun h => (by rw [h i (Nat.le_refl _) hil h0] at hh; cases hh), fun _ => rfl⟩
        · have hcg : C[i]? = some (C.getD i (0, 0, ())) := by rw [List.getD, List.getElem?_eq_getElem (by omega)]; rfl
          have hwc : within (i : Int) C.length = true := by unfold within; simp only [decide_eq_true_eq]; omega
          rw [if_neg (by simp only [decide_eq_true_eq]; omega)]
          simp only [hwc, hcg, if_true, Option.bind_some]
          by_cases hz : ((C.getD i (0, 0, ())).2.1 == 0) = true
          · rw [if_pos hz]
            have hh : hasC C i = false := by unfold hasC; rw [hz, decide_eq_true (by omega)]; rfl
            exact ⟨fun h => (by rw [h i (Nat.le_refl _) hil h0] at hh; cases hh), fun _ => rfl⟩
          · rw [if_neg hz]
            have hh : hasC C i = true := by unfold hasC; rw [decide_eq_true (by omega)]; simpa using hz
            refine ⟨fun h => ?_, fun ⟨s, h1, h2, h3, h4⟩ => ?_⟩
            · rw [ih1 fun s h1 h2 h3 => h s (by omega) h2 h3]; rfl
            · rw [ih2 ⟨s, by
                by_cases e : s = i
                · subst e; rw [hh] at h4; cases h4
                · omega, h2, h3, h4⟩]; rfl
      · rw [if_neg (by simpa using h0)]
        refine ⟨fun h => ?_, fun ⟨s, h1, h2, h3, h4⟩ => ?_⟩
        · rw [ih1 fun s h1 h2 h3 => h s (by omega) h2 h3]; rfl
        · rw [ih2 ⟨s, by
            by_cases e : s = i
            · subst e; exact absurd h3 h0
            · omega, h2, h3, h4⟩]; rfl

theorem F46_has (C : List Cod) (x : List Int) (hx : x.length ≤ 1000) : ∃ b, F46 100000 (C, x) = some b ∧ (b = true ↔ ∀ s, s < x.length → 0 < x.getD s 0 → hasC C s = true) := by
  simp only [F46]
  obtain ⟨h1, h2⟩ := F46_loop 100000 C x hx x.length 0 100000 (by omega) (by omega)
  rw [show ((0 : Nat) : Int) = 0 from rfl] at h1 h2
  by_cases h : ∀ s, s < x.length → 0 < x.getD s 0 → hasC C s = true
  · rw [h1 fun s _ => h s, Option.bind_some]
    exact ⟨true, rfl, fun _ => h, fun _ => rfl⟩
  · have : ∃ s, 0 ≤ s ∧ s < x.length ∧ 0 < x.getD s 0 ∧ hasC C s = false := by
      refine Classical.byContradiction fun hn => h fun s a b => ?_
      cases hh : hasC C s with
      | true => rfl
      | false => exact absurd ⟨s, Nat.zero_le _, a, b, hh⟩ hn
    rw [h2 this, Option.bind_some]
    exact ⟨false, rfl, ⟨fun e => (by cases e), fun e => absurd e h⟩⟩
end Go.Proofs.Ytmcjfdognplgmaa.Am

namespace Go.Proofs.Ytmcjfdognplgmaa.Am
open Go.Am
set_option linter.unusedSimpArgs false
set_option linter.unusedVariables false

theorem bitsN_val (l : List Bool) : bitsN l.length (val l) = l := by
  apply List.ext_getElem?
  intro i
  rw [getD_bitsN, val_bit, List.getD]
  by_cases h : i < l.length
  · rw [if_pos h, List.getElem?_eq_getElem h]; rfl
  · rw [if_neg h, List.getElem?_eq_none (by omega)]

theorem putB_val (n : Int) (l : List Bool) (h : l.length = clampN n) : putB n (val l : Int) = l := by
  have hc := clampN_le n
  have hp := pow_le32 hc
  have hv := val_lt l
  rw [h] at hv
  unfold putB lowN
  rw [BitVec.ofInt_natCast, BitVec.toNat_ofNat]
  have h1 : val l % 2 ^ 64 = val l := Nat.mod_eq_of_lt (by omega)
  rw [h1, Nat.mod_eq_of_lt hv, ← h]
  exact bitsN_val l

/-! ### The bits of tokens -/
def codeBits (c : Cod) : List Bool := (putB c.2.1 c.1).reverse
theorem codeBits_len (c : Cod) : (codeBits c).length ≤ 32 := by
  unfold codeBits; rw [List.length_reverse, putB_length]; exact clampN_le _

theorem F47_code {N : Nat} (hN : 6 ≤ N) (m : List Bool) (hm : m.length ≤ 1000000000) (c : Cod) :
    F47 N (c.1, c.2.1, lastF m, nF m, bF m) = some (lastF (m ++ codeBits c), nF (m ++ codeBits c), bF (m ++ codeBits c)) := by
  simp only [F47]
  rw [F62_rev, Option.bind_some, F23_bits hN m hm, Option.bind_some, revN_val, putB_val _ _ (by rw [List.length_reverse, putB_length])]
  rfl

theorem F50_code {N : Nat} (hN : 63 ≤ N) (C : List Cod) (s : Nat) (hC : C.length ≤ 1000) (hs : s ≤ 1000) :
    F50 N (C, (s : Int)) = some (if hasC C s = true then (true, codeBits (C.getD s (0, 0, ()))) else (false, [])) := by
  unfold hasC
  simp only [F50]
  by_cases h : C.length ≤ s
  · rw [if_pos (by simp only [decide_eq_true_eq]; omega), decide_eq_false (by omega)]
    rfl
  · have hcg : C[s]? = some (C.getD s (0, 0, ())) := by rw [List.getD, List.getElem?_eq_getElem (by omega)]; rfl
    have hwc : within (s : Int) C.length = true := by unfold within; simp only [decide_eq_true_eq]; omega
    rw [if_neg (by simp only [decide_eq_true_eq]; omega), decide_eq_true (show s < C.length by omega)]
    simp only [hwc, Int.toNat_natCast, hcg, if_true, Option.bind_some, Bool.true_and]
    cases hz : ((C.getD s (0, 0, ())).2.1 == 0) with
    | true => rfl
    | false =>
      simp only [Bool.false_eq_true, if_false, Bool.not_false, if_true]
      rw [F64_rev hN, Option.bind_some, F24_of (by omega), Option.bind_some, putB_val _ _ (by rw [List.length_reverse, putB_length])]
      rfl

def at_ (C : List Cod) (s : Nat) : Cod := C.getD s (0, 0, ())
/-- A token's bits. -/
def tokB (A B : List Cod) (t : Tok) : List Bool :=
  if t.2.1 = 0 then codeBits (at_ A (litS t)) else
    codeBits (at_ A (litS t)) ++ putB (lenOf t.2.1).2.2 (lenOf t.2.1).2.1 ++ codeBits (at_ B (disOf t.2.2.1).1.toNat) ++ putB (disOf t.2.2.1).2.2 (disOf t.2.2.1).2.1
/-- Has a token codes? -/
def tokOk (A B : List Cod) (t : Tok) : Bool := hasC A (litS t) && (decide (t.2.1 = 0) || hasC B (disOf t.2.2.1).1.toNat)

theorem tokB_len (A B : List Cod) (t : Tok) : (tokB A B t).length ≤ 128 := by
  have h1 := codeBits_len (at_ A (litS t))
  have h2 := codeBits_len (at_ B (disOf t.2.2.1).1.toNat)
  have h3 := putB_length (lenOf t.2.1).2.2 (lenOf t.2.1).2.1
  have h4 := putB_length (disOf t.2.2.1).2.2 (disOf t.2.2.1).2.1
  have h5 := clampN_le (lenOf t.2.1).2.2
  have h6 := clampN_le (disOf t.2.2.1).2.2
  unfold tokB
  split
  · omega
  · simp only [List.length_append]; omega

def bitsTo (A B : List Cod) (l : List Tok) (i : Nat) : List Bool := (l.take i).flatMap (tokB A B)
theorem bitsTo_succ (A B : List Cod) (l : List Tok) {i : Nat} (h : i < l.length) : bitsTo A B l (i + 1) = bitsTo A B l i ++ tokB A B l[i] := by
  unfold bitsTo
  rw [List.take_add_one, List.getElem?_eq_getElem h, List.flatMap_append]
  simp
theorem bitsTo_len (A B : List Cod) (l : List Tok) : ∀ i, i ≤ l.length → (bitsTo A B l i).length ≤ 128 * i
  | 0, _ => by simp [bitsTo]
  | i + 1, h => by
    have h1 := bitsTo_len A B l i (by omega)
    have h2 := tokB_len A B l[i]
    rw [bitsTo_succ A B l (by omega), List.length_append]
    omega

theorem code_loop (A B : List Cod) (hA : A.length ≤ 1000) (hB : B.length ≤ 1000) (l : List Tok) (hl : l.length ≤ 60) (hv : validAll l = true) (ho : ∀ i (h : i < l.length), tokOk A B l[i] = true) (m : List Bool) (hm : m.length ≤ 1000) :
    ∀ (d i f : Nat), i + d = l.length → d < f →
    F25_1018 100000 f ((i : Int), (l.length : Int), l, lastF (m ++ bitsTo A B l i), nF (m ++ bitsTo A B l i), B, A, bF (m ++ bitsTo A B l i)) =
      some (lastF (m ++ bitsTo A B l l.length), nF (m ++ bitsTo A B l l.length), A, bF (m ++ bitsTo A B l l.length)) := by
  intro d
  induction d with
  | zero =>
    intro i f hi hf
    cases f with
    | zero => omega
    | succ f =>
      simp only [F25_1018, B25_1018]
      rw [if_neg (by simp only [decide_eq_true_eq]; omega), show i = l.length by omega]
  | succ d ih =>
    intro i f hi hf
    cases f with
    | zero => omega
    | succ f =>
      have hil : i < l.length := by omega
      have ih' := ih (i + 1) f (by omega) (by omega)
      have hli : l[i]? = some l[i] := List.getElem?_eq_getElem hil
      have hw : IntKind.wrap .i64 ((i : Int) + 1) = ((i + 1 : Nat) : Int) := by rw [wrap_i64 (by omega) (by omega)]; omega
      have hwi : within (i : Int) l.length = true := by unfold within; simp only [decide_eq_true_eq]; omega
      have hc : decide ((i : Int) < (l.length : Int)) = true := by simp only [decide_eq_true_eq]; omega
      have hva := valid_at hv hil
      have hok := ho i hil
      have hbl := bitsTo_len A B l i (by omega)
      have hbt : (m ++ bitsTo A B l i).length ≤ 100000 := by rw [List.length_append]; omega
      rw [bitsTo_succ A B l hil, ← List.append_assoc] at ih'
      simp only [F25_1018, B25_1018, hc, hwi, if_true, Int.toNat_natCast, hli, Option.bind_some, hw]
      generalize m ++ bitsTo A B l i = q at *
      generalize l[i] = t at *
      obtain ⟨b, L, D, u⟩ := t
      unfold tokOk at hok
      simp only [Bool.and_eq_true, Bool.or_eq_true, decide_eq_true_eq] at hok
      obtain ⟨ok1, ok2⟩ := hok
      have gA : ∀ s, hasC A s = true → within (s : Int) A.length = true ∧ A[s]? = some (at_ A s) := fun s h => by
        unfold hasC at h
        simp only [Bool.and_eq_true, decide_eq_true_eq] at h
        exact ⟨by unfold within; simp only [decide_eq_true_eq]; omega, by unfold at_; rw [List.getD, List.getElem?_eq_getElem h.1]; rfl⟩
      have gB : ∀ s, hasC B s = true → within (s : Int) B.length = true ∧ B[s]? = some (at_ B s) := fun s h => by
        unfold hasC at h
        simp only [Bool.and_eq_true, decide_eq_true_eq] at h
        exact ⟨by unfold within; simp only [decide_eq_true_eq]; omega, by unfold at_; rw [List.getD, List.getElem?_eq_getElem h.1]; rfl⟩
      obtain ⟨a1, a2⟩ := gA _ ok1
      have cl1 := codeBits_len (at_ A (litS (b, L, D, u)))
      rcases validT_spec hva with ⟨h0, h1, h2⟩ | ⟨h0, h1, h2, h3, h4⟩
      · have h0 : L = 0 := h0
        have h1 : 0 ≤ b := h1
        have e0 : (L == (0 : Int)) = true := by simpa using h0
        have eS : litS (b, L, D, u) = b.toNat := by unfold litS; rw [if_pos h0]
        have eb : ((b.toNat : Nat) : Int) = b := by omega
        have et : tokB A B (b, L, D, u) = codeBits (at_ A b.toNat) := by unfold tokB; rw [if_pos h0, eS]
        rw [eS, eb] at a1
        rw [eS] at a2 cl1
        rw [et] at ih'
        simp only [e0, if_true, a1, a2, Option.bind_some]
        rw [F47_code (by decide) q (by omega), Option.bind_some, ih', Option.bind_some]
      · have h0 : L ≠ 0 := h0
        have h1 : 3 ≤ L := h1
        have h2 : L ≤ 258 := h2
        have h3 : 1 ≤ D := h3
        have h4 : D ≤ 32768 := h4
        have e0 : ¬ (L == (0 : Int)) = true := by simpa using h0
        obtain ⟨j, hj, ej, _⟩ := lenOf_at h1 h2
        obtain ⟨k, hk, ek, _⟩ := disOf_at h3 h4
        have eS : litS (b, L, D, u) = (lenOf L).1.toNat := by unfold litS; rw [if_neg h0]
        have ok2' : hasC B (disOf D).1.toNat = true := ok2.resolve_left h0
        obtain ⟨b1, b2⟩ := gB _ ok2'
        have eb : (((lenOf L).1.toNat : Nat) : Int) = (lenOf L).1 := by rw [ej]; simp only; omega
        have ed : (((disOf D).1.toNat : Nat) : Int) = (disOf D).1 := by rw [ek]; simp only; omega
        have cl2 := codeBits_len (at_ B (disOf D).1.toNat)
        have p1 := putB_length (lenOf L).2.2 (lenOf L).2.1
        have p2 := putB_length (disOf D).2.2 (disOf D).2.1
        have p3 := clampN_le (lenOf L).2.2
        have p4 := clampN_le (disOf D).2.2
        rw [eS, eb] at a1
        rw [eS] at a2 cl1
        rw [ed] at b1
        have et : tokB A B (b, L, D, u) = codeBits (at_ A (lenOf L).1.toNat) ++ putB (lenOf L).2.2 (lenOf L).2.1 ++ codeBits (at_ B (disOf D).1.toNat) ++ putB (disOf D).2.2 (disOf D).2.1 := by unfold tokB; rw [if_neg h0, eS]
        rw [et, ← List.append_assoc, ← List.append_assoc, ← List.append_assoc] at ih'
        simp only [if_neg e0, F9_len L (by omega), F11_dis D (by omega), Option.bind_some, a1, a2, b1, b2, if_true]
        rw [F47_code (by decide) q (by omega), Option.bind_some, F23_bits (by decide) _ (by rw [List.length_append]; omega), Option.bind_some, F47_code (by decide) _ (by simp only [List.length_append]; omega), Option.bind_some, F23_bits (by decide) _ (by simp only [List.length_append]; omega), Option.bind_some, ih', Option.bind_some]
end Go.Proofs.Ytmcjfdognplgmaa.Am

namespace Go.Proofs.Ytmcjfdognplgmaa.Am
open Go.Am
set_option linter.unusedSimpArgs false
set_option linter.unusedVariables false

theorem putB_none : putB 0 0 = [] := List.length_eq_zero_iff.1 (putB_length 0 0)

theorem doc_wloop (A B : List Cod) (hA : A.length ≤ 1000) (hB : B.length ≤ 1000) (l : List Tok) (hl : l.length ≤ 60) (hv : validAll l = true) :
    ∀ (d i f : Nat), i + d = l.length → d < f →
    ((∀ j (h : j < l.length), i ≤ j → tokOk A B l[j] = true) → F26_4090 100000 f (l, (i : Int), A, B, bitsTo A B l i) = some (.inr (A, bitsTo A B l l.length))) ∧
    ((∃ j, ∃ h : j < l.length, i ≤ j ∧ tokOk A B l[j] = false) → F26_4090 100000 f (l, (i : Int), A, B, bitsTo A B l i) = some (.inl (50, []))) := by
  intro d
  induction d with
  | zero =>
    intro i f hi hf
    cases f with
    | zero => omega
    | succ f =>
      simp only [F26_4090, B26_4090]
      rw [if_neg (by simp only [decide_eq_true_eq]; omega)]
      refine ⟨fun _ => by rw [show i = l.length by omega], fun ⟨j, h1, h2, _⟩ => by omega⟩
  | succ d ih =>
    intro i f hi hf
    cases f with
    | zero => omega
    | succ f =>
      have hil : i < l.length := by omega
      obtain ⟨ih1, ih2⟩ := ih (i + 1) f (by omega) (by omega)
      have hli : l[i]? = some l[i] := List.getElem?_eq_getElem hil
      have hw : IntKind.wrap .i64 ((i : Int) + 1) = ((i + 1 : Nat) : Int) := by rw [wrap_i64 (by omega) (by omega)]; omega
      have hwi : within (i : Int) l.length = true := by unfold within; simp only [decide_eq_true_eq]; omega
      have hc : decide ((i : Int) < (l.length : Int)) = true := by simp only [decide_eq_true_eq]; omega
      have hva := valid_at hv hil
      have hbl := bitsTo_len A B l i (by omega)
      have hsucc := bitsTo_succ A B l hil
      -- this token alone decides, or those behind it
      have good : tokOk A B l[i] = true → ((∀ j (h : j < l.length), i ≤ j → tokOk A B l[j] = true) → ∀ j (h : j < l.length), i + 1 ≤ j → tokOk A B l[j] = true) ∧ ((∃ j, ∃ h : j < l.length, i ≤ j ∧ tokOk A B l[j] = false) → ∃ j, ∃ h : j < l.length, i + 1 ≤ j ∧ tokOk A B l[j] = false) := fun hg =>
        ⟨fun h j h1 h2 => h j h1 (by omega), fun ⟨j, h1, h2, h3⟩ => ⟨j, h1, by
          by_cases e : j = i
          · subst e; rw [hg] at h3; cases h3
          · omega, h3⟩⟩
      have bad : tokOk A B l[i] = false → ¬ (∀ j (h : j < l.length), i ≤ j → tokOk A B l[j] = true) := fun hb h => by
        have := h i hil (Nat.le_refl _)
        rw [hb] at this; cases this
      rw [hsucc] at ih1 ih2
      simp only [F26_4090, B26_4090, hc, hwi, if_true, Int.toNat_natCast, hli, Option.bind_some, hw]
      clear hli hwi hc hsucc
      generalize bitsTo A B l i = q at *
      generalize l[i] = t at *
      obtain ⟨b, L, D, u⟩ := t
      rcases validT_spec hva with ⟨h0, h1, h2⟩ | ⟨h0, h1, h2, h3, h4⟩
      · have h0 : L = 0 := h0
        have h1 : 0 ≤ b := h1
        have h2 : b ≤ 255 := h2
        have eg : decide (L > 0) = false := by simp; omega
        have e0 : (L == (0 : Int)) = true := by simpa using h0
        have eS : litS (b, L, D, u) = b.toNat := by unfold litS; rw [if_pos h0]
        have et : tokB A B (b, L, D, u) = codeBits (at_ A b.toNat) := by unfold tokB; rw [if_pos h0, eS]
        have eo : tokOk A B (b, L, D, u) = hasC A b.toNat := by unfold tokOk; rw [eS, decide_eq_true h0]; simp
        have hF := F50_code (N := 100000) (by decide) A b.toNat hA (by omega)
        rw [show ((b.toNat : Nat) : Int) = b by omega] at hF
        have cl := codeBits_len (at_ A b.toNat)
        rw [et] at ih1 ih2
        simp only [eg, Bool.false_eq_true, if_false, hF, Option.bind_some]
        cases hh : hasC A b.toNat with
        | false =>
          rw [hh] at eo
          refine ⟨fun h => absurd h (bad eo), fun _ => ?_⟩
          simp only [Bool.false_eq_true, if_false, Bool.not_false, if_true]
        | true =>
          rw [hh] at eo
          obtain ⟨g1, g2⟩ := good eo
          simp only [if_true, Bool.not_true, Bool.false_eq_true, if_false, e0]
          have c1 : decide ((q.length + (codeBits (A.getD b.toNat (0, 0, ()))).length) * 1 ≤ 140737488355328 ∧ q.length + (codeBits (A.getD b.toNat (0, 0, ()))).length ≤ 140737488355328) = true := by
            have cl : (codeBits (A.getD b.toNat (0, 0, ()))).length ≤ 32 := cl
            simp only [decide_eq_true_eq]; omega
          have c2 : decide (((q ++ codeBits (A.getD b.toNat (0, 0, ()))).length + ([] : List Bool).length) * 1 ≤ 140737488355328 ∧ (q ++ codeBits (A.getD b.toNat (0, 0, ()))).length + ([] : List Bool).length ≤ 140737488355328) = true := by
            have cl : (codeBits (A.getD b.toNat (0, 0, ()))).length ≤ 32 := cl
            simp only [decide_eq_true_eq, List.length_append, List.length_nil]; omega
          simp only [c1, if_true]
          rw [F24_of (by decide), Option.bind_some, putB_none]
          simp only [c2, if_true, List.append_nil]
          exact ⟨fun h => by rw [show q ++ codeBits (A.getD b.toNat (0, 0, ())) = q ++ codeBits (at_ A b.toNat) from rfl, ih1 (g1 h)]; rfl, fun h => by rw [show q ++ codeBits (A.getD b.toNat (0, 0, ())) = q ++ codeBits (at_ A b.toNat) from rfl, ih2 (g2 h)]; rfl⟩
      · have h0 : L ≠ 0 := h0
        have h1 : 3 ≤ L := h1
        have h2 : L ≤ 258 := h2
        have h3 : 1 ≤ D := h3
        have h4 : D ≤ 32768 := h4
        have eg : decide (L > 0) = true := by simp; omega
        have e0 : (L == (0 : Int)) = false := by simpa using h0
        obtain ⟨j, hj, ej, _⟩ := lenOf_at h1 h2
        obtain ⟨k, hk, ek, _⟩ := disOf_at h3 h4
        have eS : litS (b, L, D, u) = (lenOf L).1.toNat := by unfold litS; rw [if_neg h0]
        have et : tokB A B (b, L, D, u) = codeBits (at_ A (lenOf L).1.toNat) ++ putB (lenOf L).2.2 (lenOf L).2.1 ++ codeBits (at_ B (disOf D).1.toNat) ++ putB (disOf D).2.2 (disOf D).2.1 := by unfold tokB; rw [if_neg h0, eS]
        have eo : tokOk A B (b, L, D, u) = (hasC A (lenOf L).1.toNat && hasC B (disOf D).1.toNat) := by unfold tokOk; rw [eS, decide_eq_false h0]; simp
        have eb : (((lenOf L).1.toNat : Nat) : Int) = (lenOf L).1 := by rw [ej]; simp only; omega
        have ed : (((disOf D).1.toNat : Nat) : Int) = (disOf D).1 := by rw [ek]; simp only; omega
        have sb : (lenOf L).1.toNat ≤ 1000 := by rw [ej]; simp only; omega
        have sd : (disOf D).1.toNat ≤ 1000 := by rw [ek]; simp only; omega
        have hF := F50_code (N := 100000) (by decide) A (lenOf L).1.toNat hA sb
        have hG := F50_code (N := 100000) (by decide) B (disOf D).1.toNat hB sd
        rw [eb] at hF
        rw [ed] at hG
        have cl1 : (codeBits (A.getD (lenOf L).1.toNat (0, 0, ()))).length ≤ 32 := codeBits_len _
        have cl2 : (codeBits (B.getD (disOf D).1.toNat (0, 0, ()))).length ≤ 32 := codeBits_len _
        have p1 := putB_length (lenOf L).2.2 (lenOf L).2.1
        have p2 := putB_length (disOf D).2.2 (disOf D).2.1
        have p3 := clampN_le (lenOf L).2.2
        have p4 := clampN_le (disOf D).2.2
        rw [et, ← List.append_assoc, ← List.append_assoc, ← List.append_assoc] at ih1 ih2
        simp only [eg, if_true, F10_len, hF, Option.bind_some]
        cases hh : hasC A (lenOf L).1.toNat with
        | false =>
          rw [hh, Bool.false_and] at eo
          refine ⟨fun h => absurd h (bad eo), fun _ => ?_⟩
          simp only [Bool.false_eq_true, if_false, Bool.not_false, if_true]
        | true =>
          rw [hh, Bool.true_and] at eo
          simp only [if_true, Bool.not_true, Bool.false_eq_true, if_false]
          rw [if_pos (by simp only [decide_eq_true_eq]; omega), F24_of (by decide), Option.bind_some, if_pos (by simp only [decide_eq_true_eq, List.length_append]; omega)]
          simp only [e0, Bool.false_eq_true, if_false, F12_dis, hG, Option.bind_some]
          cases hk2 : hasC B (disOf D).1.toNat with
          | false =>
            rw [hk2] at eo
            refine ⟨fun h => absurd h (bad eo), fun _ => ?_⟩
            simp only [Bool.false_eq_true, if_false, Bool.not_false, if_true]
          | true =>
            rw [hk2] at eo
            obtain ⟨g1, g2⟩ := good eo
            simp only [if_true, Bool.not_true, Bool.false_eq_true, if_false]
            rw [if_pos (by simp only [decide_eq_true_eq, List.length_append]; omega), F24_of (by decide), Option.bind_some, if_pos (by simp only [decide_eq_true_eq, List.length_append]; omega)]
            have ih1' : (∀ j (h : j < l.length), i + 1 ≤ j → tokOk A B l[j] = true) → F26_4090 100000 f (l, ((i + 1 : Nat) : Int), A, B, q ++ codeBits (A.getD (lenOf L).1.toNat (0, 0, ())) ++ putB (lenOf L).2.2 (lenOf L).2.1 ++ codeBits (B.getD (disOf D).1.toNat (0, 0, ())) ++ putB (disOf D).2.2 (disOf D).2.1) = _ := ih1
            have ih2' : (∃ j, ∃ h : j < l.length, i + 1 ≤ j ∧ tokOk A B l[j] = false) → F26_4090 100000 f (l, ((i + 1 : Nat) : Int), A, B, q ++ codeBits (A.getD (lenOf L).1.toNat (0, 0, ())) ++ putB (lenOf L).2.2 (lenOf L).2.1 ++ codeBits (B.getD (disOf D).1.toNat (0, 0, ())) ++ putB (disOf D).2.2 (disOf D).2.1) = _ := ih2
            exact ⟨fun h => by rw [ih1' (g1 h)]; rfl, fun h => by rw [ih2' (g2 h)]; rfl⟩
end Go.Proofs.Ytmcjfdognplgmaa.Am

namespace Go.Proofs.Ytmcjfdognplgmaa.Am
open Go.Am
set_option linter.unusedSimpArgs false
set_option linter.unusedVariables false

theorem valid_loop1 (l : List Tok) (hl : l.length ≤ 60) (x2 x3 : List Int) (x6 x7 : Int) (x8 : List Int) : ∀ (d i f : Nat), i + d = l.length → d < f →
    ((∀ j (h : j < l.length), i ≤ j → validT l[j].1 l[j].2.1 l[j].2.2.1 = true) → F25_26 100000 f ((l.length : Int), l, x2, x3, l, (i : Int), x6, x7, x8) = some (.inr (x3, x2, l, x6, x7, x8))) ∧
    ((∃ j, ∃ h : j < l.length, i ≤ j ∧ validT l[j].1 l[j].2.1 l[j].2.2.1 = false) → F25_26 100000 f ((l.length : Int), l, x2, x3, l, (i : Int), x6, x7, x8) = some (.inl (1, x6, x7, x8))) := by
  intro d
  induction d with
  | zero =>
    intro i f hi hf
    cases f with
    | zero => omega
    | succ f =>
      simp only [F25_26, B25_26]
      rw [if_neg (by simp only [decide_eq_true_eq]; omega)]
      exact ⟨fun _ => rfl, fun ⟨j, h1, h2, _⟩ => by omega⟩
  | succ d ih =>
    intro i f hi hf
    cases f with
    | zero => omega
    | succ f =>
      have hil : i < l.length := by omega
      obtain ⟨ih1, ih2⟩ := ih (i + 1) f (by omega) (by omega)
      have hli : l[i]? = some l[i] := List.getElem?_eq_getElem hil
      have hw : IntKind.wrap .i64 ((i : Int) + 1) = ((i + 1 : Nat) : Int) := by rw [wrap_i64 (by omega) (by omega)]; omega
      have hwi : within (i : Int) l.length = true := by unfold within; simp only [decide_eq_true_eq]; omega
      have hc : decide ((i : Int) < (l.length : Int)) = true := by simp only [decide_eq_true_eq]; omega
      simp only [F25_26, B25_26, hc, hwi, if_true, Int.toNat_natCast, hli, Option.bind_some, hw, F39_valid]
      cases hv : validT l[i].1 l[i].2.1 l[i].2.2.1 with
      | false =>
        simp only [Bool.not_false, if_true]
        exact ⟨fun h => (by have := h i hil (Nat.le_refl _); rw [hv] at this; cases this), fun _ => by first | rfl | trivial⟩
      | true =>
        simp only [Bool.not_true, Bool.false_eq_true, if_false]
        refine ⟨fun h => by rw [ih1 fun j h1 h2 => h j h1 (by omega)]; rfl, fun ⟨j, h1, h2, h3⟩ => ?_⟩
        rw [ih2 ⟨j, h1, by
          by_cases e : j = i
          · subst e; rw [hv] at h3; cases h3
          · omega, h3⟩]
        rfl

theorem valid_loop2 (l : List Tok) (hl : l.length ≤ 60) (x0 x1 : List Int) (x4 : List Bool) : ∀ (d i f : Nat), i + d = l.length → d < f →
    ((∀ j (h : j < l.length), i ≤ j → validT l[j].1 l[j].2.1 l[j].2.2.1 = true) → F26_58 100000 f (x0, x1, l, (i : Int), x4) = some (.inr (l, x1, x0, x4))) ∧
    ((∃ j, ∃ h : j < l.length, i ≤ j ∧ validT l[j].1 l[j].2.1 l[j].2.2.1 = false) → F26_58 100000 f (x0, x1, l, (i : Int), x4) = some (.inl (1, []))) := by
  intro d
  induction d with
  | zero =>
    intro i f hi hf
    cases f with
    | zero => omega
    | succ f =>
      simp only [F26_58, B26_58]
      rw [if_neg (by simp only [decide_eq_true_eq]; omega)]
      exact ⟨fun _ => rfl, fun ⟨j, h1, h2, _⟩ => by omega⟩
  | succ d ih =>
    intro i f hi hf
    cases f with
    | zero => omega
    | succ f =>
      have hil : i < l.length := by omega
      obtain ⟨ih1, ih2⟩ := ih (i + 1) f (by omega) (by omega)
      have hli : l[i]? = some l[i] := List.getElem?_eq_getElem hil
      have hw : IntKind.wrap .i64 ((i : Int) + 1) = ((i + 1 : Nat) : Int) := by rw [wrap_i64 (by omega) (by omega)]; omega
      have hwi : within (i : Int) l.length = true := by unfold within; simp only [decide_eq_true_eq]; omega
      have hc : decide ((i : Int) < (l.length : Int)) = true := by simp only [decide_eq_true_eq]; omega
      simp only [F26_58, B26_58, hc, hwi, if_true, Int.toNat_natCast, hli, Option.bind_some, hw, F40_valid]
      cases hv : validT l[i].1 l[i].2.1 l[i].2.2.1 with
      | false =>
        simp only [Bool.not_false, if_true]
        exact ⟨fun h => (by have := h i hil (Nat.le_refl _); rw [hv] at this; cases this), fun _ => by first | rfl | trivial⟩
      | true =>
        simp only [Bool.not_true, Bool.false_eq_true, if_false]
        refine ⟨fun h => by rw [ih1 fun j h1 h2 => h j h1 (by omega)]; rfl, fun ⟨j, h1, h2, h3⟩ => ?_⟩
        rw [ih2 ⟨j, h1, by
          by_cases e : j = i
          · subst e; rw [hv] at h3; cases h3
          · omega, h3⟩]
        rfl

theorem codesOf_len (lens : List Int) : (codesOf lens).length = lens.length := by simp [codesOf]

def allOk (A B : List Cod) (l : List Tok) : Bool := hasC A 256 && l.all (tokOk A B)

/-- What the document writes. -/
def docW (lits dists : List Int) (l : List Tok) : Int × List Bool :=
  bif !validAll l then (1, []) else
  bif (chk lits).2 != 0 || (chk dists).2 != 0 then (50, []) else
  bif allOk (codesOf lits) (codesOf dists) l then (0, bitsTo (codesOf lits) (codesOf dists) l l.length ++ codeBits (at_ (codesOf lits) 256)) else (50, [])

theorem validAll_all {l : List Tok} (h : validAll l = true) : ∀ j (h : j < l.length), 0 ≤ j → validT l[j].1 l[j].2.1 l[j].2.2.1 = true := fun j hj _ => valid_at h hj
theorem all_bad {α : Type} {p : α → Bool} {l : List α} (h : l.all p = false) : ∃ j, ∃ h : j < l.length, 0 ≤ j ∧ p l[j] = false := by
  refine Classical.byContradiction fun hn => ?_
  have : l.all p = true := List.all_eq_true.2 fun x hx => by
    obtain ⟨j, hj, rfl⟩ := List.getElem_of_mem hx
    cases hp : p l[j] with
    | true => rfl
    | false => exact absurd ⟨j, hj, Nat.zero_le _, hp⟩ hn
  rw [h] at this; cases this
theorem all_good {α : Type} {p : α → Bool} {l : List α} (h : l.all p = true) : ∀ j (h : j < l.length), 0 ≤ j → p l[j] = true := fun j hj _ => List.all_eq_true.1 h _ (List.getElem_mem hj)

theorem chk_ok {lens : List Int} (h : (chk lens).2 = 0) : lens.length ≤ 320 ∧ okB lens = true := by
  have hok : okL lens = true := by
    unfold chk at h
    by_cases hh : okL lens = true ∧ 0 ≤ lf lens 15
    · exact hh.1
    · rw [if_neg hh] at h; cases h
  unfold okL at hok
  simp only [Bool.and_eq_true, decide_eq_true_eq] at hok
  exact hok

theorem F26_doc (lits dists : List Int) (l : List Tok) (hl : l.length ≤ 60) : F26 100000 (lits, dists, l) = some (docW lits dists l) := by
  obtain ⟨v1, v2⟩ := valid_loop2 l hl lits dists [] l.length 0 100000 (by omega) (by omega)
  rw [show ((0 : Nat) : Int) = 0 from rfl] at v1 v2
  unfold docW
  simp only [F26]
  cases hv : validAll l with
  | false =>
    rw [v2 (all_bad hv), Option.bind_some]
    rfl
  | true =>
    rw [v1 (validAll_all hv), Option.bind_some]
    simp only [Bool.not_true, cond_false]
    rw [F48_chk (by decide), Option.bind_some, F48_chk (by decide), Option.bind_some]
    by_cases e1 : (chk lits).2 = 0
    · by_cases e2 : (chk dists).2 = 0
      · obtain ⟨a1, a2⟩ := chk_ok e1
        obtain ⟨b1, b2⟩ := chk_ok e2
        have hA := codesOf_len lits
        have hB := codesOf_len dists
        rw [if_neg (by simpa using e1), if_neg (by simpa using e2), F49_codes (by decide) lits a1 a2, Option.bind_some, F49_codes (by decide) dists b1 b2, Option.bind_some]
        have ee : ((chk lits).2 != 0 || (chk dists).2 != 0) = false := by rw [e1, e2]; rfl
        rw [ee]
        simp only [cond_false]
        obtain ⟨w1, w2⟩ := doc_wloop (codesOf lits) (codesOf dists) (by omega) (by omega) l hl hv l.length 0 100000 (by omega) (by omega)
        rw [show ((0 : Nat) : Int) = 0 from rfl, show bitsTo (codesOf lits) (codesOf dists) l 0 = [] from rfl] at w1 w2
        unfold allOk
        cases ht : l.all (tokOk (codesOf lits) (codesOf dists)) with
        | false =>
          rw [w2 (all_bad ht), Option.bind_some, Bool.and_false]
          rfl
        | true =>
          rw [w1 (all_good ht), Option.bind_some, Bool.and_true]
          simp only
          have hF := F50_code (N := 100000) (by decide) (codesOf lits) 256 (by omega) (by omega)
          rw [show ((256 : Nat) : Int) = 256 from rfl] at hF
          rw [hF, Option.bind_some]
          have hbl := bitsTo_len (codesOf lits) (codesOf dists) l l.length (Nat.le_refl _)
          cases hh : hasC (codesOf lits) 256 with
          | false => rfl
          | true =>
            have cl : (codeBits ((codesOf lits).getD 256 (0, 0, ()))).length ≤ 32 := codeBits_len _
            simp only [if_true, Bool.not_true, Bool.false_eq_true, if_false]
            rw [if_pos (by simp only [decide_eq_true_eq]; omega)]
            rfl
      · rw [if_neg (by simpa using e1), if_pos (by simpa using e2)]
        have ee : ((chk lits).2 != 0 || (chk dists).2 != 0) = true := by simp [e2]
        rw [ee]; rfl
    · rw [if_pos (by simpa using e1)]
      have ee : ((chk lits).2 != 0 || (chk dists).2 != 0) = true := by simp [e1]
      rw [ee]; rfl

theorem F25_code (lits dists : List Int) (l : List Tok) (hl : l.length ≤ 60) (m : List Bool) (hm : m.length ≤ 1000) :
    F25 100000 (lits, dists, l, lastF m, nF m, bF m) = some ((docW lits dists l).1, lastF (m ++ (docW lits dists l).2), nF (m ++ (docW lits dists l).2), bF (m ++ (docW lits dists l).2)) := by
  obtain ⟨v1, v2⟩ := valid_loop1 l hl dists lits (lastF m) (nF m) (bF m) l.length 0 100000 (by omega) (by omega)
  rw [show ((0 : Nat) : Int) = 0 from rfl] at v1 v2
  unfold docW
  simp only [F25]
  cases hv : validAll l with
  | false =>
    rw [v2 (all_bad hv), Option.bind_some]
    simp only [Bool.not_false, cond_true, List.append_nil]
  | true =>
    rw [v1 (validAll_all hv), Option.bind_some]
    simp only [Bool.not_true, cond_false]
    obtain ⟨r, r1, c1, c2⟩ := F18_counts l hl hv
    rw [F45_codes (by decide), Option.bind_some, F45_codes (by decide), Option.bind_some, r1, Option.bind_some]
    by_cases e1 : (chk lits).2 = 0
    · by_cases e2 : (chk dists).2 = 0
      · obtain ⟨a1, a2⟩ := chk_ok e1
        obtain ⟨b1, b2⟩ := chk_ok e2
        have hA := codesOf_len lits
        have hB := codesOf_len dists
        have ee : ((chk lits).2 != 0 || (chk dists).2 != 0) = false := by rw [e1, e2]; rfl
        rw [ee, if_pos e1, if_pos e2]
        simp only [cond_false]
        obtain ⟨p, p1, p2⟩ := F46_has (codesOf lits) r.1 (by have := c1.len; omega)
        obtain ⟨q, q1, q2⟩ := F46_has (codesOf dists) r.2 (by have := c2.len; omega)
        have l1 := c1.len
        have l2 := c2.len
        -- codes of all that come
        have hp : p = true ↔ (hasC (codesOf lits) 256 = true ∧ ∀ j (h : j < l.length), hasC (codesOf lits) (litS l[j]) = true) := by
          rw [p2]
          constructor
          · intro h
            refine ⟨h 256 (by omega) ((c1.iff 256 (by omega)).2 (.inl rfl)), fun j hj => ?_⟩
            have hva := valid_at hv hj
            have hs : litS l[j] < 286 := by
              unfold litS
              rcases validT_spec hva with ⟨h0, h1, h2⟩ | ⟨h0, h1, h2, h3, h4⟩
              · rw [if_pos h0]; omega
              · obtain ⟨k, hk, ek, _⟩ := lenOf_at h1 h2
                rw [if_neg h0, ek]; simp only; omega
            exact h _ (by omega) ((c1.iff _ hs).2 (.inr ⟨j, hj, rfl⟩))
          · rintro ⟨g1, g2⟩ s hs hp
            rcases (c1.iff s (by omega)).1 hp with h | ⟨j, hj, h⟩
            · rw [h]; exact g1
            · rw [← h]; exact g2 j hj
        have hq : q = true ↔ ∀ j (h : j < l.length), l[j].2.1 = 0 ∨ hasC (codesOf dists) (disOf l[j].2.2.1).1.toNat = true := by
          rw [q2]
          constructor
          · intro h j hj
            have hva := valid_at hv hj
            rcases validT_spec hva with ⟨h0, h1, h2⟩ | ⟨h0, h1, h2, h3, h4⟩
            · exact .inl h0
            · obtain ⟨k, hk, ek, _⟩ := disOf_at h3 h4
              have hs : (disOf l[j].2.2.1).1.toNat < 30 := by rw [ek]; simp only; omega
              exact .inr (h _ (by omega) ((c2.iff _ hs).2 ⟨j, hj, by unfold dstS; rw [if_neg h0]⟩))
          · intro g s hs hp
            obtain ⟨j, hj, h⟩ := (c2.iff s (by omega)).1 hp
            unfold dstS at h
            split at h
            · cases h
            · rename_i h0
              cases h
              exact (g j hj).resolve_left h0
        have hall : (p && q) = allOk (codesOf lits) (codesOf dists) l := by
          have key : (p && q) = true ↔ allOk (codesOf lits) (codesOf dists) l = true := by
            unfold allOk
            rw [Bool.and_eq_true, Bool.and_eq_true, hp, hq, List.all_eq_true]
            constructor
            · rintro ⟨⟨g1, g2⟩, g3⟩
              refine ⟨g1, fun x hx => ?_⟩
              obtain ⟨j, hj, rfl⟩ := List.getElem_of_mem hx
              unfold tokOk
              rw [g2 j hj, Bool.true_and, Bool.or_eq_true, decide_eq_true_eq]
              exact g3 j hj
            · rintro ⟨g1, g2⟩
              refine ⟨⟨g1, fun j hj => ?_⟩, fun j hj => ?_⟩ <;> have := g2 _ (List.getElem_mem hj) <;> unfold tokOk at this <;> rw [Bool.and_eq_true, Bool.or_eq_true, decide_eq_true_eq] at this
              · exact this.1
              · exact this.2
          cases h1 : (p && q) <;> cases h2 : allOk (codesOf lits) (codesOf dists) l <;> simp_all
        rw [← hall]
        rw [if_neg (by decide), if_neg (by decide), p1, Option.bind_some]
        cases p with
        | false =>
          simp only [Bool.not_false, if_true, Bool.false_and, cond_false, List.append_nil]
        | true =>
          simp only [Bool.not_true, Bool.false_eq_true, if_false, Bool.true_and]
          rw [q1, Option.bind_some]
          cases q with
          | false =>
            simp only [Bool.not_false, if_true, cond_false, List.append_nil]
          | true =>
            simp only [Bool.not_true, Bool.false_eq_true, if_false, cond_true]
            have ho : ∀ i (h : i < l.length), tokOk (codesOf lits) (codesOf dists) l[i] = true := fun i hi => by
              unfold tokOk
              rw [(hp.1 rfl).2 i hi, Bool.true_and, Bool.or_eq_true, decide_eq_true_eq]
              exact hq.1 rfl i hi
            have hcl := code_loop (codesOf lits) (codesOf dists) (by omega) (by omega) l hl hv ho m hm l.length 0 100000 (by omega) (by omega)
            rw [show ((0 : Nat) : Int) = 0 from rfl, show bitsTo (codesOf lits) (codesOf dists) l 0 = [] from rfl, List.append_nil] at hcl
            rw [hcl, Option.bind_some]
            have g256 := (hp.1 rfl).1
            unfold hasC at g256
            simp only [Bool.and_eq_true, decide_eq_true_eq] at g256
            have hw : within (256 : Int) (codesOf lits).length = true := by unfold within; simp only [decide_eq_true_eq]; omega
            have hg : (codesOf lits)[256]? = some (at_ (codesOf lits) 256) := by unfold at_; rw [List.getD, List.getElem?_eq_getElem g256.1]; rfl
            have hbl := bitsTo_len (codesOf lits) (codesOf dists) l l.length (Nat.le_refl _)
            simp only [hw, if_true, hg, Option.bind_some]
            rw [F47_code (by decide) _ (by rw [List.length_append]; omega), Option.bind_some, List.append_assoc]
      · have ee : ((chk lits).2 != 0 || (chk dists).2 != 0) = true := by simp [e2]
        rw [ee, if_pos e1, if_neg e2]
        simp only [cond_true, List.append_nil]
        rw [if_neg (by decide), if_pos (by simpa using e2)]
    · have ee : ((chk lits).2 != 0 || (chk dists).2 != 0) = true := by simp [e1]
      rw [ee, if_neg e1]
      simp only [cond_true, List.append_nil]
      rw [if_pos (by simpa using e1)]

theorem docW_len (lits dists : List Int) (l : List Tok) (hl : l.length ≤ 60) : (docW lits dists l).2.length ≤ 8000 := by
  have hbl := bitsTo_len (codesOf lits) (codesOf dists) l l.length (Nat.le_refl _)
  have cl := codeBits_len (at_ (codesOf lits) 256)
  unfold docW
  cases validAll l <;> cases ((chk lits).2 != 0 || (chk dists).2 != 0) <;> cases allOk (codesOf lits) (codesOf dists) l <;> simp only [Bool.not_true, Bool.not_false, cond_true, cond_false, List.length_nil, List.length_append] <;> omega

theorem law6 (hw : F8 100000 () = some true) (lits dists : List Int) (l : List Tok) (ahead : Int) : F6 100000 (lits, dists, l, ahead) = some true := by
  simp only [F6]
  rw [hw, Option.bind_some, if_neg (by decide)]
  by_cases h1 : (330 : Int) < (lits.length : Int)
  · rw [if_pos (by simpa using h1)]
  rw [if_neg (by simpa using h1)]
  by_cases h2 : (330 : Int) < (dists.length : Int)
  · rw [if_pos (by simpa using h2)]
  rw [if_neg (by simpa using h2)]
  by_cases h3 : (60 : Int) < (l.length : Int)
  · rw [if_pos (by simpa using h3)]
  rw [if_neg (by simpa using h3)]
  have hl : l.length ≤ 60 := by omega
  have w0 : F23 100000 (ahead, -1, 0, 0, []) = some (lastF (putB ahead (-1)), nF (putB ahead (-1)), bF (putB ahead (-1))) := F23_bits (by decide) [] (by decide) ahead (-1)
  have hm := putB_length ahead (-1)
  have hc := clampN_le ahead
  have hd := docW_len lits dists l hl
  rw [w0, Option.bind_some, F24_of (by decide), Option.bind_some, if_pos (by simp only [decide_eq_true_eq]; omega)]
  simp only
  rw [F25_code lits dists l hl _ (by omega), Option.bind_some, F26_doc lits dists l hl, Option.bind_some, if_pos (by simp only [decide_eq_true_eq]; omega), if_pos trivial]
  simp only
  have hlen : (putB ahead (-1) ++ (docW lits dists l).2).length ≤ 10000 := by rw [List.length_append]; omega
  rw [if_pos (by simp), F27_len _ _ (by omega), Option.bind_some, if_pos (by simp), F28_string _ _ (by omega), Option.bind_some, F29_text _ (by omega) (by decide), Option.bind_some]
  simp
end Go.Proofs.Ytmcjfdognplgmaa.Am
