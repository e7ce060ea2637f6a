/- The Lean function that SymbolsNumbers comes to answers true at every input. -/
import Derived.Test.YtmcjfdognplgmaaSB
import Derived.Test.YtmcjfdognplgmaaAmC
namespace Go.Proofs.Ytmcjfdognplgmaa.Am
open Go.Am
set_option linter.unusedSimpArgs false
set_option linter.unusedVariables false

/-! ### The symbol of a number -/
def lastLe (tb : List Int) (n : Int) : Nat → Option Nat
  | 0 => none
  | i + 1 => if tb.getD i 0 ≤ n then some i else lastLe tb n i

theorem lastLe_some {tb : List Int} {n : Int} : ∀ {i j : Nat}, lastLe tb n i = some j → j < i ∧ tb.getD j 0 ≤ n ∧ ∀ k, j < k → k < i → n < tb.getD k 0
  | 0, j, h => by cases h
  | i + 1, j, h => by
    unfold lastLe at h
    split at h
    · cases h
      exact ⟨by omega, by assumption, fun k h1 h2 => by omega⟩
    · obtain ⟨h1, h2, h3⟩ := lastLe_some h
      refine ⟨by omega, h2, fun k k1 k2 => ?_⟩
      by_cases hk : k = i
      · subst hk; omega
      · exact h3 k k1 (by omega)

theorem lastLe_none {tb : List Int} {n : Int} : ∀ {i : Nat}, lastLe tb n i = none → ∀ k, k < i → n < tb.getD k 0
  | 0, h, k, hk => by omega
  | i + 1, h, k, hk => by
    unfold lastLe at h
    split at h
    · cases h
    · by_cases e : k = i
      · subst e; omega
      · exact lastLe_none h k (by omega)

/-- Both loops that look for a symbol, with what a symbol stands for left open. -/
def findL (G : Int → Option (Int × Int)) : Nat → (Int × Int × Int) → Option ((Int × Int × Int) ⊕ Unit)
  | 0, _ => none
  | k + 1, (x0, x1, x2) =>
    if (decide (x1 ≥ x0)) = true then
      Option.bind (G x1) fun y0 =>
      if (decide (Prod.fst y0 ≤ x2)) = true then
        some (.inl ((x1, IntKind.wrap IntKind.i64 (x2 - Prod.fst y0), Prod.snd y0)))
      else
        Option.bind (findL G k (x0, IntKind.wrap IntKind.i64 (x1 - (1 : Int)), x2)) fun r => match r with | .inl (y) => some (.inl (y)) | .inr (y) => some (.inr (y))
    else
      some (.inr (()))

theorem find_a (N : Nat) : ∀ k x, F36a_26 N k x = findL (F15 N) k x
  | 0, _ => rfl
  | k + 1, (x0, x1, x2) => by
    simp only [F36a_26, B36a_26, findL, find_a N k]
    rfl
theorem find_b (N : Nat) : ∀ k x, F36b_26 N k x = findL (F17 N) k x
  | 0, _ => rfl
  | k + 1, (x0, x1, x2) => by
    simp only [F36b_26, B36b_26, findL, find_b N k]
    rfl

def foundT (lb lx : List Int) (from_ n : Int) : Option Nat → (Int × Int × Int) ⊕ Unit
  | some j => .inl (from_ + j, n - lb.getD j 0, lx.getD j 0)
  | none => .inr ()

theorem findL_spec {G : Int → Option (Int × Int)} {lb lx : List Int} {from_ n : Int} (hf : 0 ≤ from_ ∧ from_ ≤ 1000) (hn : -9223372036854775808 ≤ n ∧ n ≤ 9223372036854775807) : ∀ (i f : Nat), i ≤ 1000 → (∀ j, j < i → G (from_ + j) = some (lb.getD j 0, lx.getD j 0) ∧ 0 ≤ lb.getD j 0 ∧ lb.getD j 0 ≤ 100000) → i < f →
    findL G f (from_, from_ + i - 1, n) = some (foundT lb lx from_ n (lastLe lb n i))
  | 0, 0, _, _, h => by omega
  | i + 1, 0, _, _, h => by omega
  | 0, f + 1, _, hG, h => by
    simp only [findL]
    rw [if_neg (by simp only [decide_eq_true_eq]; omega)]
    rfl
  | i + 1, f + 1, hi, hG, h => by
    obtain ⟨g1, g2, g3⟩ := hG i (by omega)
    simp only [findL]
    have e : from_ + ((i + 1 : Nat) : Int) - 1 = from_ + i := by omega
    rw [e, if_pos (by simp only [decide_eq_true_eq]; omega), g1, Option.bind_some]
    simp only [lastLe]
    by_cases hl : lb.getD i 0 ≤ n
    · rw [if_pos (by simpa using hl), if_pos hl, wrap_i64 (by omega) (by omega)]
      rfl
    · rw [if_neg (by simpa using hl), if_neg hl, wrap_i64 (by omega) (by omega), findL_spec hf hn i f (by omega) (fun j hj => hG j (by omega)) (by omega), Option.bind_some]
      cases lastLe lb n i <;> rfl

/-- The document's loop. -/
theorem doc_loop (N : Nat) (lb lx : List Int) (first n : Int) (hl : lb.length ≤ 1000) : ∀ (d k f : Nat), k + d = lb.length → d < f →
    F37_122 N f ((((lastLe lb n k).getD 0 : Nat) : Int), (k : Int), lx, first, lb, n) = some (first, n, lb, lx, (((lastLe lb n lb.length).getD 0 : Nat) : Int)) := by
  intro d
  induction d with
  | zero =>
    intro k f hk hf
    cases f with
    | zero => omega
    | succ f =>
      simp only [F37_122, B37_122]
      rw [if_neg (by simp only [decide_eq_true_eq]; omega), show k = lb.length by omega]
  | succ d ih =>
    intro k f hk hf
    cases f with
    | zero => omega
    | succ f =>
      simp only [F37_122, B37_122]
      have hw : IntKind.wrap .i64 ((k : Int) + 1) = ((k + 1 : Nat) : Int) := by rw [wrap_i64 (by omega) (by omega)]; omega
      have hg : lb.getD k 0 = lb[k] := by rw [List.getD, List.getElem?_eq_getElem (by omega)]; rfl
      have ih' := ih (k + 1) f (by omega) (by omega)
      simp only [lastLe] at ih'
      rw [hg] at ih'
      rw [if_pos (by simp only [decide_eq_true_eq]; omega), if_pos (by unfold within; simp only [decide_eq_true_eq]; omega), Int.toNat_natCast, List.getElem?_eq_getElem (by omega), Option.bind_some, hw]
      by_cases hle : lb[k] ≤ n
      · rw [if_pos (by simpa using hle)]
        rw [if_pos hle] at ih'
        rw [show ((k : Nat) : Int) = (((some k).getD 0 : Nat) : Int) from rfl] at *
        rw [ih', Option.bind_some]
      · rw [if_neg (by simpa using hle)]
        rw [if_neg hle] at ih'
        rw [ih', Option.bind_some]

def lenB : List Int := [3, 4, 5, 6, 7, 8, 9, 10, 11, 13, 15, 17, 19, 23, 27, 31, 35, 43, 51, 59, 67, 83, 99, 115, 131, 163, 195, 227, 258]
def lenX : List Int := [0, 0, 0, 0, 0, 0, 0, 0, 1, 1, 1, 1, 2, 2, 2, 2, 3, 3, 3, 3, 4, 4, 4, 4, 5, 5, 5, 5, 0]
def disB : List Int := [1, 2, 3, 4, 5, 7, 9, 13, 17, 25, 33, 49, 65, 97, 129, 193, 257, 385, 513, 769, 1025, 1537, 2049, 3073, 4097, 6145, 8193, 12289, 16385, 24577]
def disX : List Int := [0, 0, 0, 0, 1, 1, 2, 2, 3, 3, 4, 4, 5, 5, 6, 6, 7, 7, 8, 8, 9, 9, 10, 10, 11, 11, 12, 12, 13, 13]

theorem len_all : (List.range 29).all (fun i => F15 100000 (257 + (i : Int)) == some (lenB.getD i 0, lenX.getD i 0)) = true := by kernel_rfl
theorem dis_all : (List.range 30).all (fun i => F17 100000 (0 + (i : Int)) == some (disB.getD i 0, disX.getD i 0)) = true := by kernel_rfl

theorem len_at (i : Nat) (h : i < 29) : F15 100000 (257 + (i : Int)) = some (lenB.getD i 0, lenX.getD i 0) := by
  have := List.all_eq_true.1 len_all i (List.mem_range.2 h)
  simpa using this
theorem dis_at (i : Nat) (h : i < 30) : F17 100000 (0 + (i : Int)) = some (disB.getD i 0, disX.getD i 0) := by
  have := List.all_eq_true.1 dis_all i (List.mem_range.2 h)
  simpa using this

theorem len_bnd : ∀ i, i < 29 → 0 ≤ lenB.getD i 0 ∧ lenB.getD i 0 ≤ 100000 ∧ 3 ≤ lenB.getD i 0 := by decide +kernel
theorem dis_bnd : ∀ i, i < 30 → 0 ≤ disB.getD i 0 ∧ disB.getD i 0 ≤ 100000 ∧ 1 ≤ disB.getD i 0 := by decide +kernel

/-- A length's symbol. -/
def lenOf (n : Int) : Int × Int × Int := if n > 258 then (0, 0, 0) else match lastLe lenB n 29 with
  | some j => (257 + j, n - lenB.getD j 0, lenX.getD j 0)
  | none => (0, 0, 0)
def disOf (n : Int) : Int × Int × Int := if n > 32768 then (0, 0, 0) else match lastLe disB n 30 with
  | some j => (0 + j, n - disB.getD j 0, disX.getD j 0)
  | none => (0, 0, 0)

theorem F9_len (n : Int) (hn : -9223372036854775808 ≤ n ∧ n ≤ 9223372036854775807) : F9 100000 n = some (lenOf n) := by
  unfold lenOf
  simp only [F9]
  by_cases h : n > 258
  · rw [if_pos (by simpa using h), if_pos h]
  · rw [if_neg (by simpa using h), if_neg h]
    simp only [F36a, find_a]
    have := findL_spec (G := F15 100000) (lb := lenB) (lx := lenX) (from_ := 257) (n := n) (by omega) hn 29 100000 (by omega) (fun j hj => ⟨len_at j hj, (len_bnd j hj).1, (len_bnd j hj).2.1⟩) (by omega)
    rw [show (257 : Int) + ((29 : Nat) : Int) - 1 = 285 from rfl] at this
    rw [this, Option.bind_some]
    cases lastLe lenB n 29 <;> rfl

theorem F11_dis (n : Int) (hn : -9223372036854775808 ≤ n ∧ n ≤ 9223372036854775807) : F11 100000 n = some (disOf n) := by
  unfold disOf
  simp only [F11]
  by_cases h : n > 32768
  · rw [if_pos (by simpa using h), if_pos h]
  · rw [if_neg (by simpa using h), if_neg h]
    simp only [F36b, find_b]
    have := findL_spec (G := F17 100000) (lb := disB) (lx := disX) (from_ := 0) (n := n) (by omega) hn 30 100000 (by omega) (fun j hj => ⟨dis_at j hj, (dis_bnd j hj).1, (dis_bnd j hj).2.1⟩) (by omega)
    rw [show (0 : Int) + ((30 : Nat) : Int) - 1 = 29 from rfl] at this
    rw [this, Option.bind_some]
    cases lastLe disB n 30 <;> rfl

theorem doc_find {lb lx : List Int} {first n most b0 : Int} (hl : lb.length ≤ 1000) (hlx : lx.length = lb.length) (h0 : lb[0]? = some b0) (hge : ∀ k, k < lb.length → b0 ≤ lb.getD k 0) (hf : 0 ≤ first ∧ first ≤ 1000) (hm : most ≤ 100000) (hb : ∀ k, k < lb.length → 0 ≤ lb.getD k 0) :
    F37 100000 (lb, lx, first, n, most) = some (if n > most then (0, 0, 0) else match lastLe lb n lb.length with
      | some j => (first + j, n - lb.getD j 0, lx.getD j 0)
      | none => (0, 0, 0)) := by
  have hpos : 0 < lb.length := (List.getElem?_eq_some_iff.1 h0).1
  have hb0 : lb.getD 0 0 = b0 := by rw [List.getD, h0]; rfl
  simp only [F37]
  rw [if_pos (by unfold within; simp only [decide_eq_true_eq]; omega), h0, Option.bind_some]
  by_cases hlt : n < b0
  · rw [if_pos (by simpa using hlt)]
    cases hc : lastLe lb n lb.length with
    | none => split <;> rfl
    | some j =>
      obtain ⟨j1, j2, _⟩ := lastLe_some hc
      have := hge j j1
      omega
  · rw [if_neg (by simpa using hlt)]
    by_cases hgt : n > most
    · rw [if_pos (by simpa using hgt), if_pos hgt]
    · rw [if_neg (by simpa using hgt), if_neg hgt]
      have hd := doc_loop 100000 lb lx first n hl lb.length 0 100000 (by omega) (by omega)
      rw [show (((lastLe lb n 0).getD 0 : Nat) : Int) = 0 from rfl, show ((0 : Nat) : Int) = 0 from rfl] at hd
      rw [hd, Option.bind_some]
      cases hc : lastLe lb n lb.length with
      | none =>
        have := lastLe_none hc 0 hpos
        omega
      | some j =>
        obtain ⟨j1, j2, _⟩ := lastLe_some hc
        have hb1 := hb j j1
        have hg : lb[j]? = some (lb.getD j 0) := by rw [List.getD, List.getElem?_eq_getElem j1]; rfl
        have hg2 : lx[j]? = some (lx.getD j 0) := by rw [List.getD, List.getElem?_eq_getElem (by omega)]; rfl
        simp only [Option.getD_some]
        rw [if_pos (by unfold within; simp only [decide_eq_true_eq]; omega), Int.toNat_natCast, hg, Option.bind_some, if_pos (by unfold within; simp only [decide_eq_true_eq]; omega), hg2, Option.bind_some, wrap_i64 (by omega) (by omega), wrap_i64 (by omega) (by omega)]

theorem F10_len (n : Int) : F10 100000 n = some (lenOf n) := by
  simp only [F10, F13, Option.bind_some]
  have := doc_find (lb := lenB) (lx := lenX) (first := 257) (n := n) (most := 258) (b0 := 3) (by decide) rfl rfl (by decide +kernel) (by decide) (by decide) (by decide +kernel)
  have h2 : F37 100000 (lenB, lenX, 257, n, 258) = some (lenOf n) := this
  unfold lenB lenX at h2
  rw [h2, Option.bind_some]

theorem F12_dis (n : Int) : F12 100000 n = some (disOf n) := by
  simp only [F12, F14, Option.bind_some]
  have := doc_find (lb := disB) (lx := disX) (first := 0) (n := n) (most := 32768) (b0 := 1) (by decide) rfl rfl (by decide +kernel) (by decide) (by decide) (by decide +kernel)
  have h2 : F37 100000 (disB, disX, 0, n, 32768) = some (disOf n) := this
  unfold disB disX at h2
  rw [h2, Option.bind_some]

/-- What a symbol stands for. -/
def ofT (lb lx : List Int) (sym first : Int) : Int × Int := if sym < first ∨ sym - first ≥ lb.length then (0, 0) else (lb.getD (sym - first).toNat 0, lx.getD (sym - first).toNat 0)

theorem F16_of {lb lx : List Int} {sym first : Int} (hlx : lx.length = lb.length) (hf : 0 ≤ first ∧ first ≤ 1000) (hs : -9223372036854775808 ≤ sym ∧ sym ≤ 9223372036854775807) : F16 100000 (lb, lx, sym, first) = some (ofT lb lx sym first) := by
  unfold ofT
  simp only [F16]
  by_cases h : sym < first
  · rw [if_pos (by simpa using h), if_pos (.inl h)]
  · rw [if_neg (by simpa using h), wrap_i64 (by omega) (by omega)]
    by_cases h2 : sym - first ≥ lb.length
    · rw [if_pos (by simpa using h2), if_pos (.inr h2)]
    · rw [if_neg (by simpa using h2), if_neg (show ¬ (sym < first ∨ sym - first ≥ (lb.length : Int)) by omega)]
      obtain ⟨i, hi⟩ := Int.eq_ofNat_of_zero_le (show 0 ≤ sym - first by omega)
      rw [hi] at h2 ⊢
      have hg : lb[i]? = some (lb.getD i 0) := by rw [List.getD, List.getElem?_eq_getElem (by omega)]; rfl
      have hg2 : lx[i]? = some (lx.getD i 0) := by rw [List.getD, List.getElem?_eq_getElem (by omega)]; rfl
      rw [if_pos (by unfold within; simp only [decide_eq_true_eq]; omega), Int.toNat_natCast, hg, Option.bind_some, if_pos (by unfold within; simp only [decide_eq_true_eq]; omega), hg2, Option.bind_some]

theorem F15_of (sym : Int) (hs : -9223372036854775808 ≤ sym ∧ sym ≤ 9223372036854775807) : F15 100000 sym = some (ofT lenB lenX sym 257) := by
  unfold ofT
  have hl : lenB.length = 29 := rfl
  by_cases h : sym < 257
  · rw [if_pos (.inl h)]
    simp only [F15]
    rw [if_neg (by simp; omega), if_pos (by simpa using h)]
  · by_cases h2 : sym - 257 ≥ lenB.length
    · rw [if_pos (.inr h2)]
      simp only [F15]
      rw [if_neg (by simp; omega), if_neg (by simpa using h), if_pos (by simp; omega)]
    · rw [if_neg (by omega)]
      obtain ⟨i, hi⟩ := Int.eq_ofNat_of_zero_le (show 0 ≤ sym - 257 by omega)
      rw [hi, Int.toNat_natCast, show sym = 257 + (i : Int) by omega]
      exact len_at i (by omega)

theorem F17_of (sym : Int) (hs : -9223372036854775808 ≤ sym ∧ sym ≤ 9223372036854775807) : F17 100000 sym = some (ofT disB disX sym 0) := by
  unfold ofT
  have hl : disB.length = 30 := rfl
  by_cases h : sym < 0
  · rw [if_pos (.inl h)]
    simp only [F17]
    rw [if_pos (by simpa using h)]
  · by_cases h2 : sym - 0 ≥ disB.length
    · rw [if_pos (.inr h2)]
      simp only [F17]
      rw [if_neg (by simpa using h), if_pos (by simp; omega)]
    · rw [if_neg (by omega)]
      obtain ⟨i, hi⟩ := Int.eq_ofNat_of_zero_le (show 0 ≤ sym - 0 by omega)
      rw [hi, Int.toNat_natCast, show sym = 0 + (i : Int) by omega]
      exact dis_at i (by omega)

theorem law3 (hw : F8 100000 () = some true) (n sym : Int) (hn : -9223372036854775808 ≤ n ∧ n ≤ 9223372036854775807) (hs : -9223372036854775808 ≤ sym ∧ sym ≤ 9223372036854775807) : F3 100000 (n, sym) = some true := by
  simp only [F3]
  have e1 : F16 100000 (lenB, lenX, sym, 257) = _ := F16_of (lb := lenB) (lx := lenX) rfl (by decide) hs
  have e2 : F16 100000 (disB, disX, sym, 0) = _ := F16_of (lb := disB) (lx := disX) rfl (by decide) hs
  have e3 : F13 100000 () = some (lenB, lenX) := rfl
  have e4 : F14 100000 () = some (disB, disX) := rfl
  rw [hw, Option.bind_some, if_neg (by decide), F9_len n hn, Option.bind_some, F10_len, Option.bind_some, F11_dis n hn, Option.bind_some, F12_dis, Option.bind_some, e3, Option.bind_some, e4, Option.bind_some, F15_of sym hs, Option.bind_some, e1, Option.bind_some, F17_of sym hs, Option.bind_some, e2, Option.bind_some]
  simp
end Go.Proofs.Ytmcjfdognplgmaa.Am

namespace Go.Proofs.Ytmcjfdognplgmaa.Am
open Go.Am
theorem works8 : F8 100000 () = some true := by kernel_rfl
end Go.Proofs.Ytmcjfdognplgmaa.Am
