/- Tokens written and read, and what they make: the Lean function that DeflateCoded comes to answers true at every input. -/
import Derived.Test.YteddgkplkjldcaaGreatSB
import Derived.Test.YteddgkplkjldcaaGreatAmC
import Derived.Test.YteddgkplkjldcaaGreatPA
import Derived.Test.YteddgkplkjldcaaGreatPB
namespace Go.Proofs.YteddgkplkjldcaaGreat.Am
open Go.Am
set_option linter.unusedSimpArgs false
set_option linter.unusedVariables false
def lastLe (tb : List Int) (n : Int) : Nat → Option Nat
  | 0 => none
  | i + 1 => if tb.getD i 0 ≤ n then some i else lastLe tb n i
theorem lastLe_some {tb : List Int} {n : Int} : ∀ {i j : Nat}, lastLe tb n i = some j → j < i ∧ tb.getD j 0 ≤ n ∧ ∀ k, j < k → k < i → n < tb.getD k 0
  | 0, j, h => by cases h
  | i + 1, j, h => by
    unfold lastLe at h
    split at h
    · cases h
      exact ⟨by omega, by assumption, fun k h1 h2 => by omega⟩
    · obtain ⟨h1, h2, h3⟩ := lastLe_some h
      refine ⟨by omega, h2, fun k k1 k2 => ?_⟩
      by_cases hk : k = i
      · subst hk; omega
      · exact h3 k k1 (by omega)
theorem lastLe_none {tb : List Int} {n : Int} : ∀ {i : Nat}, lastLe tb n i = none → ∀ k, k < i → n < tb.getD k 0
  | 0, h, k, hk => by omega
  | i + 1, h, k, hk => by
    unfold lastLe at h
    split at h
    · cases h
    · by_cases e : k = i
      · subst e; omega
      · exact lastLe_none h k (by omega)
def findL (G : Int → Option (Int × Int)) : Nat → (Int × Int × Int) → Option ((Int × Int × Int) ⊕ Unit)
  | 0, _ => none
  | k + 1, (x0, x1, x2) =>
    if (decide (x1 ≥ x0)) = true then
      Option.bind (G x1) fun y0 =>
      if (decide (Prod.fst y0 ≤ x2)) = true then
        some (.inl ((x1, IntKind.wrap IntKind.i64 (x2 - Prod.fst y0), Prod.snd y0)))
      else
        Option.bind (findL G k (x0, IntKind.wrap IntKind.i64 (x1 - (1 : Int)), x2)) fun r => match r with | .inl (y) => some (.inl (y)) | .inr (y) => some (.inr (y))
    else
      some (.inr (()))
theorem find_a (N : Nat) : ∀ k x, F130a_26 N k x = findL (F131 N) k x
  | 0, _ => rfl
  | k + 1, (x0, x1, x2) => by
    simp only [F130a_26, B130a_26, findL, find_a N k, iteP_eq]
    rfl
theorem find_b (N : Nat) : ∀ k x, F130b_26 N k x = findL (F132 N) k x
  | 0, _ => rfl
  | k + 1, (x0, x1, x2) => by
    simp only [F130b_26, B130b_26, findL, find_b N k, iteP_eq]
    rfl
def foundT (lb lx : List Int) (from_ n : Int) : Option Nat → (Int × Int × Int) ⊕ Unit
  | some j => .inl (from_ + j, n - lb.getD j 0, lx.getD j 0)
  | none => .inr ()
theorem findL_spec {G : Int → Option (Int × Int)} {lb lx : List Int} {from_ n : Int} (hf : 0 ≤ from_ ∧ from_ ≤ 1000) (hn : -9223372036854775808 ≤ n ∧ n ≤ 9223372036854775807) : ∀ (i f : Nat), i ≤ 1000 → (∀ j, j < i → G (from_ + j) = some (lb.getD j 0, lx.getD j 0) ∧ 0 ≤ lb.getD j 0 ∧ lb.getD j 0 ≤ 200000) → i < f →
    findL G f (from_, from_ + i - 1, n) = some (foundT lb lx from_ n (lastLe lb n i))
  | 0, 0, _, _, h => by omega
  | i + 1, 0, _, _, h => by omega
  | 0, f + 1, _, hG, h => by
    simp only [findL]
    rw [ifF (by omega)]
    rfl
  | i + 1, f + 1, hi, hG, h => by
    obtain ⟨g1, g2, g3⟩ := hG i (by omega)
    simp only [findL]
    have e : from_ + ((i + 1 : Nat) : Int) - 1 = from_ + i := by omega
    rw [e, ifT (by omega), g1, Option.bind_some]
    simp only [lastLe]
    by_cases hl : lb.getD i 0 ≤ n
    · rw [if_pos (by simpa using hl), if_pos hl, wrap_i64 (by omega) (by omega)]
      rfl
    · rw [if_neg (by simpa using hl), if_neg hl, wrap_i64 (by omega) (by omega), findL_spec hf hn i f (by omega) (fun j hj => hG j (by omega)) (by omega), Option.bind_some]
      cases lastLe lb n i <;> rfl
def lenB : List Int := [3, 4, 5, 6, 7, 8, 9, 10, 11, 13, 15, 17, 19, 23, 27, 31, 35, 43, 51, 59, 67, 83, 99, 115, 131, 163, 195, 227, 258]
def lenX : List Int := [0, 0, 0, 0, 0, 0, 0, 0, 1, 1, 1, 1, 2, 2, 2, 2, 3, 3, 3, 3, 4, 4, 4, 4, 5, 5, 5, 5, 0]
def disB : List Int := [1, 2, 3, 4, 5, 7, 9, 13, 17, 25, 33, 49, 65, 97, 129, 193, 257, 385, 513, 769, 1025, 1537, 2049, 3073, 4097, 6145, 8193, 12289, 16385, 24577]
def disX : List Int := [0, 0, 0, 0, 1, 1, 2, 2, 3, 3, 4, 4, 5, 5, 6, 6, 7, 7, 8, 8, 9, 9, 10, 10, 11, 11, 12, 12, 13, 13]
theorem len_all : (List.range 29).all (fun i => F131 200000 (257 + (i : Int)) == some (lenB.getD i 0, lenX.getD i 0)) = true := by kernel_rfl
theorem dis_all : (List.range 30).all (fun i => F132 200000 (0 + (i : Int)) == some (disB.getD i 0, disX.getD i 0)) = true := by kernel_rfl
theorem len_at (i : Nat) (h : i < 29) : F131 200000 (257 + (i : Int)) = some (lenB.getD i 0, lenX.getD i 0) := by
  have := List.all_eq_true.1 len_all i (List.mem_range.2 h)
  simpa using this
theorem dis_at (i : Nat) (h : i < 30) : F132 200000 (0 + (i : Int)) = some (disB.getD i 0, disX.getD i 0) := by
  have := List.all_eq_true.1 dis_all i (List.mem_range.2 h)
  simpa using this
theorem len_bnd : ∀ i, i < 29 → 0 ≤ lenB.getD i 0 ∧ lenB.getD i 0 ≤ 200000 ∧ 3 ≤ lenB.getD i 0 := by decide +kernel
theorem dis_bnd : ∀ i, i < 30 → 0 ≤ disB.getD i 0 ∧ disB.getD i 0 ≤ 200000 ∧ 1 ≤ disB.getD i 0 := by decide +kernel
def lenOf (n : Int) : Int × Int × Int := if n > 258 then (0, 0, 0) else match lastLe lenB n 29 with
  | some j => (257 + j, n - lenB.getD j 0, lenX.getD j 0)
  | none => (0, 0, 0)
def disOf (n : Int) : Int × Int × Int := if n > 32768 then (0, 0, 0) else match lastLe disB n 30 with
  | some j => (0 + j, n - disB.getD j 0, disX.getD j 0)
  | none => (0, 0, 0)
theorem F103_len (n : Int) (hn : -9223372036854775808 ≤ n ∧ n ≤ 9223372036854775807) : F103 200000 n = some (lenOf n) := by
  unfold lenOf
  simp only [F103, iteP_eq]
  by_cases h : n > 258
  · rw [if_pos (by simpa using h), if_pos h]
  · rw [if_neg (by simpa using h), if_neg h]
    simp only [F130a, find_a, iteP_eq]
    have := findL_spec (G := F131 200000) (lb := lenB) (lx := lenX) (from_ := 257) (n := n) (by omega) hn 29 200000 (by omega) (fun j hj => ⟨len_at j hj, (len_bnd j hj).1, (len_bnd j hj).2.1⟩) (by omega)
    rw [show (257 : Int) + ((29 : Nat) : Int) - 1 = 285 from rfl] at this
    rw [this, Option.bind_some]
    cases lastLe lenB n 29 <;> rfl
theorem F104_dis (n : Int) (hn : -9223372036854775808 ≤ n ∧ n ≤ 9223372036854775807) : F104 200000 n = some (disOf n) := by
  unfold disOf
  simp only [F104, iteP_eq]
  by_cases h : n > 32768
  · rw [if_pos (by simpa using h), if_pos h]
  · rw [if_neg (by simpa using h), if_neg h]
    simp only [F130b, find_b, iteP_eq]
    have := findL_spec (G := F132 200000) (lb := disB) (lx := disX) (from_ := 0) (n := n) (by omega) hn 30 200000 (by omega) (fun j hj => ⟨dis_at j hj, (dis_bnd j hj).1, (dis_bnd j hj).2.1⟩) (by omega)
    rw [show (0 : Int) + ((30 : Nat) : Int) - 1 = 29 from rfl] at this
    rw [this, Option.bind_some]
    cases lastLe disB n 30 <;> rfl
def ofT (lb lx : List Int) (sym first : Int) : Int × Int := if sym < first ∨ sym - first ≥ lb.length then (0, 0) else (lb.getD (sym - first).toNat 0, lx.getD (sym - first).toNat 0)
abbrev Tok := Int × (Int × (Int × Unit))
def inT (n a b : Int) : Bool := decide (a ≤ n) && decide (n ≤ b)
def validT (b l d : Int) : Bool := if l = 0 then (decide (d = 0) && inT b 0 255) else (decide (b = 0) && (inT l 3 258 && inT d 1 32768))
theorem F69_in (N : Nat) (n a b : Int) : F69 N (n, a, b) = some (inT n a b) := by
  unfold inT
  simp only [F69, iteP_eq]
  by_cases h : a ≤ n <;> simp [h]
theorem F27_valid (N : Nat) (b l d : Int) : F27 N (b, l, d) = some (validT b l d) := by
  unfold validT
  simp only [F27, F69_in, Option.bind_some, iteP_eq]
  by_cases h : l = 0
  · by_cases h2 : d = 0 <;> simp [h, h2]
  · by_cases h2 : b = 0
    · cases h3 : inT l 3 258 <;> simp [h, h2, h3]
    · simp [h, h2]
theorem validT_spec {b l d : Int} (h : validT b l d = true) : (l = 0 ∧ 0 ≤ b ∧ b ≤ 255) ∨ (l ≠ 0 ∧ 3 ≤ l ∧ l ≤ 258 ∧ 1 ≤ d ∧ d ≤ 32768) := by
  unfold validT inT at h
  by_cases hl : l = 0
  · rw [if_pos hl] at h
    simp only [Bool.and_eq_true, decide_eq_true_eq] at h
    exact .inl ⟨hl, h.2⟩
  · rw [if_neg hl] at h
    simp only [Bool.and_eq_true, decide_eq_true_eq] at h
    exact .inr ⟨hl, h.2.1.1, h.2.1.2, h.2.2⟩
theorem lenOf_at {n : Int} (h1 : 3 ≤ n) (h2 : n ≤ 258) : ∃ j : Nat, j < 29 ∧ lenOf n = (((257 : Int) + (j : Int), n - lenB.getD j 0, lenX.getD j 0) : Int × Int × Int) ∧ lastLe lenB n 29 = some j := by
  unfold lenOf
  rw [if_neg (by omega)]
  cases h : lastLe lenB n 29 with
  | none =>
    have := lastLe_none h 0 (by omega)
    have e : lenB.getD 0 0 = 3 := rfl
    omega
  | some j => exact ⟨j, (lastLe_some h).1, rfl, rfl⟩
theorem disOf_at {n : Int} (h1 : 1 ≤ n) (h2 : n ≤ 32768) : ∃ j : Nat, j < 30 ∧ disOf n = (((0 : Int) + (j : Int), n - disB.getD j 0, disX.getD j 0) : Int × Int × Int) ∧ lastLe disB n 30 = some j := by
  unfold disOf
  rw [if_neg (by omega)]
  cases h : lastLe disB n 30 with
  | none =>
    have := lastLe_none h 0 (by omega)
    have e : disB.getD 0 0 = 1 := rfl
    omega
  | some j => exact ⟨j, (lastLe_some h).1, rfl, rfl⟩
def lits0 : List Int := (List.replicate 286 0).set 256 1
def dists0 : List Int := List.replicate 30 0
theorem lits0_len : lits0.length = 286 := by unfold lits0; rw [List.length_set, List.length_replicate]
theorem dists0_len : dists0.length = 30 := by unfold dists0; rw [List.length_replicate]
theorem F66_def (l : List Tok) : F66 200000 l = Option.bind (F66_122 200000 200000 (0, (l.length : Int), l, lits0, dists0)) fun y0 => some (y0.1, y0.2) := by kernel_rfl
structure CntAt (a : List Int) (n k : Nat) (S : Nat → Prop) : Prop where
  len : a.length = n
  nn : ∀ s, s < n → 0 ≤ a.getD s 0 ∧ a.getD s 0 ≤ (k : Int)
  iff : ∀ s, s < n → (0 < a.getD s 0 ↔ S s)
theorem CntAt.inc {a : List Int} {n k : Nat} {S : Nat → Prop} (h : CntAt a n k S) (hk : k ≤ 20000) {s : Nat} (hs : s < n) : CntAt (a.set s (IntKind.wrap .i64 (a.getD s 0 + 1))) n (k + 1) (fun x => S x ∨ x = s) := by
  have hb := h.nn s hs
  have hl := h.len
  have hg : ∀ t, t < n → (a.set s (IntKind.wrap .i64 (a.getD s 0 + 1))).getD t 0 = if t = s then a.getD s 0 + 1 else a.getD t 0 := by
    intro t ht
    by_cases e : t = s
    · subst e
      rw [if_pos rfl, List.getD, List.getElem?_set_self (by omega), Option.getD_some, wrap_i64 (by omega) (by omega)]
    · rw [if_neg e, List.getD, List.getElem?_set_ne (by omega)]; rfl
  refine ⟨by simpa using hl, fun t ht => ?_, fun t ht => ?_⟩
  · rw [hg t ht]
    have := h.nn t ht
    split <;> omega
  · rw [hg t ht]
    by_cases e : t = s
    · subst e
      rw [if_pos rfl]
      exact ⟨fun _ => .inr rfl, fun _ => by omega⟩
    · rw [if_neg e, h.iff t ht]
      exact ⟨.inl, fun q => q.resolve_right e⟩
theorem CntAt.mono {a : List Int} {n k k' : Nat} {S S' : Nat → Prop} (h : CntAt a n k S) (hk : k ≤ k') (hS : ∀ s, s < n → (S s ↔ S' s)) : CntAt a n k' S' :=
  ⟨h.len, fun s hs => by have := h.nn s hs; omega, fun s hs => (h.iff s hs).trans (hS s hs)⟩
def litS (t : Tok) : Nat := if t.2.1 = 0 then t.1.toNat else (lenOf t.2.1).1.toNat
def dstS (t : Tok) : Option Nat := if t.2.1 = 0 then none else some (disOf t.2.2.1).1.toNat
def validAll (l : List Tok) : Bool := l.all fun t => validT t.1 t.2.1 t.2.2.1
theorem valid_at {l : List Tok} (h : validAll l = true) {i : Nat} (hi : i < l.length) : validT l[i].1 l[i].2.1 l[i].2.2.1 = true :=
  List.all_eq_true.1 h _ (List.getElem_mem hi)
theorem counts_loop (l : List Tok) (hl : l.length ≤ 10000) (hv : validAll l = true) : ∀ (d i f : Nat) (a b : List Int), i + d = l.length → d < f →
    CntAt a 286 (i + 1) (fun s => s = 256 ∨ ∃ j, ∃ h : j < l.length, j < i ∧ litS l[j] = s) → CntAt b 30 (i + 1) (fun s => ∃ j, ∃ h : j < l.length, j < i ∧ dstS l[j] = some s) →
    ∃ r : List Int × List Int, F66_122 200000 f ((i : Int), (l.length : Int), l, a, b) = some r ∧
      CntAt r.1 286 10001 (fun s => s = 256 ∨ ∃ j, ∃ h : j < l.length, litS l[j] = s) ∧ CntAt r.2 30 10001 (fun s => ∃ j, ∃ h : j < l.length, dstS l[j] = some s) := by
  intro d
  induction d with
  | zero =>
    intro i f a b hi hf ha hb
    cases f with
    | zero => omega
    | succ f =>
      have hc : decide ((i : Int) < (l.length : Int)) = false := by simp only [decide_eq_false_iff_not]; omega
      simp only [F66_122, B66_122, hc, Bool.false_eq_true, if_false, iteP_eq]
      refine ⟨(a, b), rfl, ha.mono (by omega) fun s _ => ?_, hb.mono (by omega) fun s _ => ?_⟩
      · exact ⟨fun h => h.imp id fun ⟨j, h, _, e⟩ => ⟨j, h, e⟩, fun h => h.imp id fun ⟨j, h, e⟩ => ⟨j, h, by omega, e⟩⟩
      · exact ⟨fun ⟨j, h, _, e⟩ => ⟨j, h, e⟩, fun ⟨j, h, e⟩ => ⟨j, h, by omega, e⟩⟩
  | succ d ih =>
    intro i f a b hi hf ha hb
    cases f with
    | zero => omega
    | succ f =>
      have hil : i < l.length := by omega
      have hli : l[i]? = some l[i] := List.getElem?_eq_getElem hil
      have hw : IntKind.wrap .i64 ((i : Int) + 1) = ((i + 1 : Nat) : Int) := by rw [wrap_i64 (by omega) (by omega)]; omega
      have hwi : within (i : Int) l.length = true := by unfold within; simp only [decide_eq_true_eq]; omega
      have hc : decide ((i : Int) < (l.length : Int)) = true := by simp only [decide_eq_true_eq]; omega
      have hva := valid_at hv hil
      have hla := ha.len
      have hlb := hb.len
      simp only [F66_122, B66_122, hc, hwi, if_true, Int.toNat_natCast, hli, Option.bind_some, hw, F27_valid, hva, Bool.not_true, Bool.false_eq_true, if_false, iteP_eq]
      -- what came till then, and this one
      have stepL : ∀ (s0 : Nat) (S : Nat → Prop), litS l[i] = s0 → ∀ s, ((s = 256 ∨ ∃ j, ∃ h : j < l.length, j < i ∧ litS l[j] = s) ∨ s = s0) ↔ (s = 256 ∨ ∃ j, ∃ h : j < l.length, j < i + 1 ∧ litS l[j] = s) := by
        intro s0 _ e s
        constructor
        · rintro ((h | ⟨j, h1, h2, h3⟩) | h)
          · exact .inl h
          · exact .inr ⟨j, h1, by omega, h3⟩
          · exact .inr ⟨i, hil, by omega, by rw [e, h]⟩
        · rintro (h | ⟨j, h1, h2, h3⟩)
          · exact .inl (.inl h)
          · by_cases hj : j = i
            · subst hj; exact .inr (h3.symm.trans e)
            · exact .inl (.inr ⟨j, h1, by omega, h3⟩)
      rcases validT_spec hva with ⟨h0, h1, h2⟩ | ⟨h0, h1, h2, h3, h4⟩
      · have e0 : (l[i].2.1 == (0 : Int)) = true := by simpa using h0
        have wB : within l[i].1 a.length = true := by unfold within; simp only [decide_eq_true_eq]; omega
        have gB : a[Int.toNat l[i].1]? = some (a.getD (Int.toNat l[i].1) 0) := get_at (by omega)
        have eS : litS l[i] = Int.toNat l[i].1 := by unfold litS; rw [if_pos h0]
        have eD : dstS l[i] = none := by unfold dstS; rw [if_pos h0]
        simp only [e0, if_true, wB, gB, Option.bind_some]
        obtain ⟨r, r1, r2⟩ := ih (i + 1) f (a.set (Int.toNat l[i].1) (IntKind.wrap .i64 (a.getD (Int.toNat l[i].1) 0 + 1))) b (by omega) (by omega)
          ((ha.inc (by omega) (by omega)).mono (Nat.le_refl _) fun s _ => stepL _ (fun _ => True) eS s)
          (hb.mono (by omega) fun s _ => ⟨fun ⟨j, h1, h2, h3⟩ => ⟨j, h1, by omega, h3⟩, fun ⟨j, h1, h2, h3⟩ => by
            by_cases hj : j = i
            · subst hj; rw [eD] at h3; cases h3
            · exact ⟨j, h1, by omega, h3⟩⟩)
        exact ⟨r, by rw [r1]; rfl, r2⟩
      · have e0 : ¬ (l[i].2.1 == (0 : Int)) = true := by simpa using h0
        obtain ⟨j, hj, ej, _⟩ := lenOf_at h1 h2
        obtain ⟨k, hk, ek, _⟩ := disOf_at h3 h4
        have wJ : within (257 + (j : Int)) a.length = true := by unfold within; simp only [decide_eq_true_eq]; omega
        have wK : within (0 + (k : Int)) b.length = true := by unfold within; simp only [decide_eq_true_eq]; omega
        have gJ : a[Int.toNat (257 + (j : Int))]? = some (a.getD (Int.toNat (257 + (j : Int))) 0) := get_at (by omega)
        have gK : b[Int.toNat (0 + (k : Int))]? = some (b.getD (Int.toNat (0 + (k : Int))) 0) := get_at (by omega)
        have eS : litS l[i] = Int.toNat (257 + (j : Int)) := by unfold litS; rw [if_neg h0, ej]
        have eD : dstS l[i] = some (Int.toNat (0 + (k : Int))) := by unfold dstS; rw [if_neg h0, ek]
        simp only [if_neg e0, F103_len l[i].2.1 (by omega), F104_dis l[i].2.2.1 (by omega), Option.bind_some, ej, ek, wJ, wK, gJ, gK, if_true]
        obtain ⟨r, r1, r2⟩ := ih (i + 1) f (a.set (Int.toNat (257 + (j : Int))) (IntKind.wrap .i64 (a.getD (Int.toNat (257 + (j : Int))) 0 + 1))) (b.set (Int.toNat (0 + (k : Int))) (IntKind.wrap .i64 (b.getD (Int.toNat (0 + (k : Int))) 0 + 1))) (by omega) (by omega)
          ((ha.inc (by omega) (by omega)).mono (Nat.le_refl _) fun s _ => stepL _ (fun _ => True) eS s)
          ((hb.inc (by omega) (by omega)).mono (Nat.le_refl _) fun s _ => by
            constructor
            · rintro (⟨j, h1, h2, h3⟩ | h)
              · exact ⟨j, h1, by omega, h3⟩
              · exact ⟨i, hil, by omega, by rw [eD, h]⟩
            · rintro ⟨q, g1, g2, g3⟩
              by_cases hq : q = i
              · subst hq; rw [eD] at g3; exact .inr (Option.some.inj g3).symm
              · exact .inl ⟨q, g1, by omega, g3⟩)
        exact ⟨r, by rw [r1]; rfl, r2⟩
theorem F66_counts (l : List Tok) (hl : l.length ≤ 10000) (hv : validAll l = true) : ∃ r : List Int × List Int, F66 200000 l = some r ∧
    CntAt r.1 286 10001 (fun s => s = 256 ∨ ∃ j, ∃ h : j < l.length, litS l[j] = s) ∧ CntAt r.2 30 10001 (fun s => ∃ j, ∃ h : j < l.length, dstS l[j] = some s) := by
  have hL : ∀ s, s < 286 → lits0.getD s 0 = if s = 256 then 1 else 0 := by decide +kernel
  have hD : ∀ s, s < 30 → dists0.getD s 0 = 0 := by decide +kernel
  obtain ⟨r, r1, r2⟩ := counts_loop l hl hv l.length 0 200000 lits0 dists0 (by omega) (by omega)
    ⟨lits0_len, fun s hs => by rw [hL s hs]; split <;> omega, fun s hs => by
      rw [hL s hs]
      by_cases e : s = 256
      · rw [if_pos e]; exact ⟨fun _ => .inl e, fun _ => by decide⟩
      · rw [if_neg e]; exact ⟨fun h => by omega, fun h => by rcases h with h | ⟨j, h1, h2, _⟩ <;> omega⟩⟩
    ⟨dists0_len, fun s hs => by rw [hD s hs]; omega, fun s hs => by
      rw [hD s hs]; exact ⟨fun h => by omega, fun ⟨j, h1, h2, _⟩ => by omega⟩⟩
  rw [show ((0 : Nat) : Int) = 0 from rfl] at r1
  exact ⟨r, by rw [F66_def, r1]; rfl, r2⟩
def hasC (C : List Cod) (s : Nat) : Bool := decide (s < C.length) && !((C.getD s (0, 0, ())).2.1 == 0)
theorem F102_loop (N : Nat) (C : List Cod) (x : List Int) (hx : x.length ≤ 1000) : ∀ (d i f : Nat), i + d = x.length → d < f →
    ((∀ s, i ≤ s → s < x.length → 0 < x.getD s 0 → hasC C s = true) → F102_26 N f ((x.length : Int), x, C, (i : Int)) = some (.inr ())) ∧
    ((∃ s, i ≤ s ∧ s < x.length ∧ 0 < x.getD s 0 ∧ hasC C s = false) → F102_26 N f ((x.length : Int), x, C, (i : Int)) = some (.inl false)) := by
  intro d
  induction d with
  | zero =>
    intro i f hi hf
    cases f with
    | zero => omega
    | succ f =>
      simp only [F102_26, B102_26, iteP_eq]
      rw [ifF (by omega)]
      exact ⟨fun _ => rfl, fun ⟨s, h1, h2, _⟩ => by omega⟩
  | succ d ih =>
    intro i f hi hf
    cases f with
    | zero => omega
    | succ f =>
      obtain ⟨ih1, ih2⟩ := ih (i + 1) f (by omega) (by omega)
      have hil : i < x.length := by omega
      have hw : IntKind.wrap .i64 ((i : Int) + 1) = ((i + 1 : Nat) : Int) := by rw [wrap_i64 (by omega) (by omega)]; omega
      have hwi : within (i : Int) x.length = true := by unfold within; simp only [decide_eq_true_eq]; omega
      have hc : decide ((i : Int) < (x.length : Int)) = true := by simp only [decide_eq_true_eq]; omega
      have hg := get_at hil
      simp only [F102_26, B102_26, hc, hwi, hg, hw, Int.toNat_natCast, if_true, Option.bind_some, iteP_eq]
      by_cases h0 : 0 < x.getD i 0
      · rw [if_pos (by simpa using h0)]
        by_cases hlen : C.length ≤ i
        · rw [ifT (by omega)]
          have hh : hasC C i = false := by unfold hasC; rw [decide_eq_false (by omega)]; rfl
          exact ⟨fun h => (by rw [h i (Nat.le_refl _) hil h0] at hh; cases hh), fun _ => rfl⟩
        · have hcg : C[i]? = some (C.getD i (0, 0, ())) := by rw [List.getD, List.getElem?_eq_getElem (by omega)]; rfl
          have hwc : within (i : Int) C.length = true := by unfold within; simp only [decide_eq_true_eq]; omega
          rw [ifF (by omega)]
          simp only [hwc, hcg, if_true, Option.bind_some]
          by_cases hz : ((C.getD i (0, 0, ())).2.1 == 0) = true
          · rw [if_pos hz]
            have hh : hasC C i = false := by unfold hasC; rw [hz, decide_eq_true (by omega)]; rfl
            exact ⟨fun h => (by rw [h i (Nat.le_refl _) hil h0] at hh; cases hh), fun _ => rfl⟩
          · rw [if_neg hz]
            have hh : hasC C i = true := by unfold hasC; rw [decide_eq_true (by omega)]; simpa using hz
            refine ⟨fun h => ?_, fun ⟨s, h1, h2, h3, h4⟩ => ?_⟩
            · rw [ih1 fun s h1 h2 h3 => h s (by omega) h2 h3]; rfl
            · rw [ih2 ⟨s, by
                by_cases e : s = i
                · subst e; rw [hh] at h4; cases h4
                · omega, h2, h3, h4⟩]; rfl
      · rw [if_neg (by simpa using h0)]
        refine ⟨fun h => ?_, fun ⟨s, h1, h2, h3, h4⟩ => ?_⟩
        · rw [ih1 fun s h1 h2 h3 => h s (by omega) h2 h3]; rfl
        · rw [ih2 ⟨s, by
            by_cases e : s = i
            · subst e; exact absurd h3 h0
            · omega, h2, h3, h4⟩]; rfl
theorem F102_has (C : List Cod) (x : List Int) (hx : x.length ≤ 1000) : ∃ b, F102 200000 (C, x) = some b ∧ (b = true ↔ ∀ s, s < x.length → 0 < x.getD s 0 → hasC C s = true) := by
  simp only [F102, iteP_eq]
  obtain ⟨h1, h2⟩ := F102_loop 200000 C x hx x.length 0 200000 (by omega) (by omega)
  rw [show ((0 : Nat) : Int) = 0 from rfl] at h1 h2
  by_cases h : ∀ s, s < x.length → 0 < x.getD s 0 → hasC C s = true
  · rw [h1 fun s _ => h s, Option.bind_some]
    exact ⟨true, rfl, fun _ => h, fun _ => rfl⟩
  · have : ∃ s, 0 ≤ s ∧ s < x.length ∧ 0 < x.getD s 0 ∧ hasC C s = false := by
      refine Classical.byContradiction fun hn => h fun s a b => ?_
      cases hh : hasC C s with
      | true => rfl
      | false => exact absurd ⟨s, Nat.zero_le _, a, b, hh⟩ hn
    rw [h2 this, Option.bind_some]
    exact ⟨false, rfl, ⟨fun e => (by cases e), fun e => absurd e h⟩⟩
def at_ (C : List Cod) (s : Nat) : Cod := C.getD s (0, 0, ())
def tokB (A B : List Cod) (t : Tok) : List Bool :=
  if t.2.1 = 0 then codeBits (at_ A (litS t)) else
    codeBits (at_ A (litS t)) ++ putB (lenOf t.2.1).2.2 (lenOf t.2.1).2.1 ++ codeBits (at_ B (disOf t.2.2.1).1.toNat) ++ putB (disOf t.2.2.1).2.2 (disOf t.2.2.1).2.1
def tokOk (A B : List Cod) (t : Tok) : Bool := hasC A (litS t) && (decide (t.2.1 = 0) || hasC B (disOf t.2.2.1).1.toNat)
theorem tokB_len (A B : List Cod) (t : Tok) : (tokB A B t).length ≤ 128 := by
  have h1 := codeBits_len (at_ A (litS t))
  have h2 := codeBits_len (at_ B (disOf t.2.2.1).1.toNat)
  have h3 := putB_length (lenOf t.2.1).2.2 (lenOf t.2.1).2.1
  have h4 := putB_length (disOf t.2.2.1).2.2 (disOf t.2.2.1).2.1
  have h5 := clampN_le (lenOf t.2.1).2.2
  have h6 := clampN_le (disOf t.2.2.1).2.2
  unfold tokB
  split
  · omega
  · simp only [List.length_append]; omega
def bitsTo (A B : List Cod) (l : List Tok) (i : Nat) : List Bool := (l.take i).flatMap (tokB A B)
theorem bitsTo_succ (A B : List Cod) (l : List Tok) {i : Nat} (h : i < l.length) : bitsTo A B l (i + 1) = bitsTo A B l i ++ tokB A B l[i] := by
  unfold bitsTo
  rw [List.take_add_one, List.getElem?_eq_getElem h, List.flatMap_append]
  simp
theorem bitsTo_len (A B : List Cod) (l : List Tok) : ∀ i, i ≤ l.length → (bitsTo A B l i).length ≤ 128 * i
  | 0, _ => by simp [bitsTo]
  | i + 1, h => by
    have h1 := bitsTo_len A B l i (by omega)
    have h2 := tokB_len A B l[i]
    rw [bitsTo_succ A B l (by omega), List.length_append]
    omega
theorem code_loop (A B : List Cod) (hA : A.length ≤ 1000) (hB : B.length ≤ 1000) (l : List Tok) (hl : l.length ≤ 10000) (hv : validAll l = true) (ho : ∀ i (h : i < l.length), tokOk A B l[i] = true) (m : List Bool) (hm : m.length ≤ 100000000) :
    ∀ (d i f : Nat), i + d = l.length → d < f →
    F65_1018 200000 f ((i : Int), (l.length : Int), l, lastF (m ++ bitsTo A B l i), nF (m ++ bitsTo A B l i), B, A, bF (m ++ bitsTo A B l i)) =
      some (lastF (m ++ bitsTo A B l l.length), nF (m ++ bitsTo A B l l.length), A, bF (m ++ bitsTo A B l l.length)) := by
  intro d
  induction d with
  | zero =>
    intro i f hi hf
    cases f with
    | zero => omega
    | succ f =>
      simp only [F65_1018, B65_1018, iteP_eq]
      rw [ifF (by omega), show i = l.length by omega]
  | succ d ih =>
    intro i f hi hf
    cases f with
    | zero => omega
    | succ f =>
      have hil : i < l.length := by omega
      have ih' := ih (i + 1) f (by omega) (by omega)
      have hli : l[i]? = some l[i] := List.getElem?_eq_getElem hil
      have hw : IntKind.wrap .i64 ((i : Int) + 1) = ((i + 1 : Nat) : Int) := by rw [wrap_i64 (by omega) (by omega)]; omega
      have hwi : within (i : Int) l.length = true := by unfold within; simp only [decide_eq_true_eq]; omega
      have hc : decide ((i : Int) < (l.length : Int)) = true := by simp only [decide_eq_true_eq]; omega
      have hva := valid_at hv hil
      have hok := ho i hil
      have hbl := bitsTo_len A B l i (by omega)
      have hbt : (m ++ bitsTo A B l i).length ≤ 200000000 := by rw [List.length_append]; omega
      rw [bitsTo_succ A B l hil, ← List.append_assoc] at ih'
      simp only [F65_1018, B65_1018, hc, hwi, if_true, Int.toNat_natCast, hli, Option.bind_some, hw, iteP_eq]
      generalize m ++ bitsTo A B l i = q at *
      generalize l[i] = t at *
      obtain ⟨b, L, D, u⟩ := t
      unfold tokOk at hok
      simp only [Bool.and_eq_true, Bool.or_eq_true, decide_eq_true_eq] at hok
      obtain ⟨ok1, ok2⟩ := hok
      have gA : ∀ s, hasC A s = true → within (s : Int) A.length = true ∧ A[s]? = some (at_ A s) := fun s h => by
        unfold hasC at h
        simp only [Bool.and_eq_true, decide_eq_true_eq] at h
        exact ⟨by unfold within; simp only [decide_eq_true_eq]; omega, by unfold at_; rw [List.getD, List.getElem?_eq_getElem h.1]; rfl⟩
      have gB : ∀ s, hasC B s = true → within (s : Int) B.length = true ∧ B[s]? = some (at_ B s) := fun s h => by
        unfold hasC at h
        simp only [Bool.and_eq_true, decide_eq_true_eq] at h
        exact ⟨by unfold within; simp only [decide_eq_true_eq]; omega, by unfold at_; rw [List.getD, List.getElem?_eq_getElem h.1]; rfl⟩
      obtain ⟨a1, a2⟩ := gA _ ok1
      have cl1 := codeBits_len (at_ A (litS (b, L, D, u)))
      rcases validT_spec hva with ⟨h0, h1, h2⟩ | ⟨h0, h1, h2, h3, h4⟩
      · have h0 : L = 0 := h0
        have h1 : 0 ≤ b := h1
        have e0 : (L == (0 : Int)) = true := by simpa using h0
        have eS : litS (b, L, D, u) = b.toNat := by unfold litS; rw [if_pos h0]
        have eb : ((b.toNat : Nat) : Int) = b := by omega
        have et : tokB A B (b, L, D, u) = codeBits (at_ A b.toNat) := by unfold tokB; rw [if_pos h0, eS]
        rw [eS, eb] at a1
        rw [eS] at a2 cl1
        rw [et] at ih'
        simp only [e0, if_true, a1, a2, Option.bind_some]
        rw [F59_code (by decide) q (by omega), Option.bind_some, ih', Option.bind_some]
      · have h0 : L ≠ 0 := h0
        have h1 : 3 ≤ L := h1
        have h2 : L ≤ 258 := h2
        have h3 : 1 ≤ D := h3
        have h4 : D ≤ 32768 := h4
        have e0 : ¬ (L == (0 : Int)) = true := by simpa using h0
        obtain ⟨j, hj, ej, _⟩ := lenOf_at h1 h2
        obtain ⟨k, hk, ek, _⟩ := disOf_at h3 h4
        have eS : litS (b, L, D, u) = (lenOf L).1.toNat := by unfold litS; rw [if_neg h0]
        have ok2' : hasC B (disOf D).1.toNat = true := ok2.resolve_left h0
        obtain ⟨b1, b2⟩ := gB _ ok2'
        have eb : (((lenOf L).1.toNat : Nat) : Int) = (lenOf L).1 := by rw [ej]; simp only; omega
        have ed : (((disOf D).1.toNat : Nat) : Int) = (disOf D).1 := by rw [ek]; simp only; omega
        have cl2 := codeBits_len (at_ B (disOf D).1.toNat)
        have p1 := putB_length (lenOf L).2.2 (lenOf L).2.1
        have p2 := putB_length (disOf D).2.2 (disOf D).2.1
        have p3 := clampN_le (lenOf L).2.2
        have p4 := clampN_le (disOf D).2.2
        rw [eS, eb] at a1
        rw [eS] at a2 cl1
        rw [ed] at b1
        have et : tokB A B (b, L, D, u) = codeBits (at_ A (lenOf L).1.toNat) ++ putB (lenOf L).2.2 (lenOf L).2.1 ++ codeBits (at_ B (disOf D).1.toNat) ++ putB (disOf D).2.2 (disOf D).2.1 := by unfold tokB; rw [if_neg h0, eS]
        rw [et, ← List.append_assoc, ← List.append_assoc, ← List.append_assoc] at ih'
        simp only [if_neg e0, F103_len L (by omega), F104_dis D (by omega), Option.bind_some, a1, a2, b1, b2, if_true]
        rw [F59_code (by decide) q (by omega), Option.bind_some, F14_bits (by decide) _ (by rw [List.length_append]; omega), Option.bind_some, F59_code (by decide) _ (by simp only [List.length_append]; omega), Option.bind_some, F14_bits (by decide) _ (by simp only [List.length_append]; omega), Option.bind_some, ih', Option.bind_some]
theorem valid_loop1 (l : List Tok) (hl : l.length ≤ 10000) (x2 x3 : List Int) (x6 x7 : Int) (x8 : List Int) : ∀ (d i f : Nat), i + d = l.length → d < f →
    ((∀ j (h : j < l.length), i ≤ j → validT l[j].1 l[j].2.1 l[j].2.2.1 = true) → F65_26 200000 f ((l.length : Int), l, x2, x3, l, (i : Int), x6, x7, x8) = some (.inr (x3, x2, l, x6, x7, x8))) ∧
    ((∃ j, ∃ h : j < l.length, i ≤ j ∧ validT l[j].1 l[j].2.1 l[j].2.2.1 = false) → F65_26 200000 f ((l.length : Int), l, x2, x3, l, (i : Int), x6, x7, x8) = some (.inl (1, x6, x7, x8))) := by
  intro d
  induction d with
  | zero =>
    intro i f hi hf
    cases f with
    | zero => omega
    | succ f =>
      simp only [F65_26, B65_26, iteP_eq]
      rw [ifF (by omega)]
      exact ⟨fun _ => rfl, fun ⟨j, h1, h2, _⟩ => by omega⟩
  | succ d ih =>
    intro i f hi hf
    cases f with
    | zero => omega
    | succ f =>
      have hil : i < l.length := by omega
      obtain ⟨ih1, ih2⟩ := ih (i + 1) f (by omega) (by omega)
      have hli : l[i]? = some l[i] := List.getElem?_eq_getElem hil
      have hw : IntKind.wrap .i64 ((i : Int) + 1) = ((i + 1 : Nat) : Int) := by rw [wrap_i64 (by omega) (by omega)]; omega
      have hwi : within (i : Int) l.length = true := by unfold within; simp only [decide_eq_true_eq]; omega
      have hc : decide ((i : Int) < (l.length : Int)) = true := by simp only [decide_eq_true_eq]; omega
      simp only [F65_26, B65_26, hc, hwi, if_true, Int.toNat_natCast, hli, Option.bind_some, hw, F27_valid, iteP_eq]
      cases hv : validT l[i].1 l[i].2.1 l[i].2.2.1 with
      | false =>
        simp only [Bool.not_false, if_true]
        exact ⟨fun h => (by have := h i hil (Nat.le_refl _); rw [hv] at this; cases this), fun _ => by first | rfl | trivial⟩
      | true =>
        simp only [Bool.not_true, Bool.false_eq_true, if_false]
        refine ⟨fun h => by rw [ih1 fun j h1 h2 => h j h1 (by omega)]; rfl, fun ⟨j, h1, h2, h3⟩ => ?_⟩
        rw [ih2 ⟨j, h1, by
          by_cases e : j = i
          · subst e; rw [hv] at h3; cases h3
          · omega, h3⟩]
        rfl
def allOk (A B : List Cod) (l : List Tok) : Bool := hasC A 256 && l.all (tokOk A B)
def docW (lits dists : List Int) (l : List Tok) : Int × List Bool :=
  bif !validAll l then (1, []) else
  bif (chk lits).2 != 0 || (chk dists).2 != 0 then (50, []) else
  bif allOk (codesOf lits) (codesOf dists) l then (0, bitsTo (codesOf lits) (codesOf dists) l l.length ++ codeBits (at_ (codesOf lits) 256)) else (50, [])
theorem validAll_all {l : List Tok} (h : validAll l = true) : ∀ j (h : j < l.length), 0 ≤ j → validT l[j].1 l[j].2.1 l[j].2.2.1 = true := fun j hj _ => valid_at h hj
theorem all_bad {α : Type} {p : α → Bool} {l : List α} (h : l.all p = false) : ∃ j, ∃ h : j < l.length, 0 ≤ j ∧ p l[j] = false := by
  refine Classical.byContradiction fun hn => ?_
  have : l.all p = true := List.all_eq_true.2 fun x hx => by
    obtain ⟨j, hj, rfl⟩ := List.getElem_of_mem hx
    cases hp : p l[j] with
    | true => rfl
    | false => exact absurd ⟨j, hj, Nat.zero_le _, hp⟩ hn
  rw [h] at this; cases this
theorem F65_code (lits dists : List Int) (l : List Tok) (hl : l.length ≤ 10000) (m : List Bool) (hm : m.length ≤ 100000000) :
    F65 200000 (lits, dists, l, lastF m, nF m, bF m) = some ((docW lits dists l).1, lastF (m ++ (docW lits dists l).2), nF (m ++ (docW lits dists l).2), bF (m ++ (docW lits dists l).2)) := by
  obtain ⟨v1, v2⟩ := valid_loop1 l hl dists lits (lastF m) (nF m) (bF m) l.length 0 200000 (by omega) (by omega)
  rw [show ((0 : Nat) : Int) = 0 from rfl] at v1 v2
  unfold docW
  simp only [F65, iteP_eq]
  cases hv : validAll l with
  | false =>
    rw [v2 (all_bad hv), Option.bind_some]
    simp only [Bool.not_false, cond_true, List.append_nil]
  | true =>
    rw [v1 (validAll_all hv), Option.bind_some]
    simp only [Bool.not_true, cond_false]
    obtain ⟨r, r1, c1, c2⟩ := F66_counts l hl hv
    rw [F57_codes (by decide), Option.bind_some, F57_codes (by decide), Option.bind_some, r1, Option.bind_some]
    by_cases e1 : (chk lits).2 = 0
    · by_cases e2 : (chk dists).2 = 0
      · obtain ⟨a1, a2⟩ := chk_ok e1
        obtain ⟨b1, b2⟩ := chk_ok e2
        have hA := codesOf_len lits
        have hB := codesOf_len dists
        have ee : ((chk lits).2 != 0 || (chk dists).2 != 0) = false := by rw [e1, e2]; rfl
        rw [ee, if_pos e1, if_pos e2]
        simp only [cond_false]
        obtain ⟨p, p1, p2⟩ := F102_has (codesOf lits) r.1 (by have := c1.len; omega)
        obtain ⟨q, q1, q2⟩ := F102_has (codesOf dists) r.2 (by have := c2.len; omega)
        have l1 := c1.len
        have l2 := c2.len
        -- codes of all that come
        have hp : p = true ↔ (hasC (codesOf lits) 256 = true ∧ ∀ j (h : j < l.length), hasC (codesOf lits) (litS l[j]) = true) := by
          rw [p2]
          constructor
          · intro h
            refine ⟨h 256 (by omega) ((c1.iff 256 (by omega)).2 (.inl rfl)), fun j hj => ?_⟩
            have hva := valid_at hv hj
            have hs : litS l[j] < 286 := by
              unfold litS
              rcases validT_spec hva with ⟨h0, h1, h2⟩ | ⟨h0, h1, h2, h3, h4⟩
              · rw [if_pos h0]; omega
              · obtain ⟨k, hk, ek, _⟩ := lenOf_at h1 h2
                rw [if_neg h0, ek]; simp only; omega
            exact h _ (by omega) ((c1.iff _ hs).2 (.inr ⟨j, hj, rfl⟩))
          · rintro ⟨g1, g2⟩ s hs hp
            rcases (c1.iff s (by omega)).1 hp with h | ⟨j, hj, h⟩
            · rw [h]; exact g1
            · rw [← h]; exact g2 j hj
        have hq : q = true ↔ ∀ j (h : j < l.length), l[j].2.1 = 0 ∨ hasC (codesOf dists) (disOf l[j].2.2.1).1.toNat = true := by
          rw [q2]
          constructor
          · intro h j hj
            have hva := valid_at hv hj
            rcases validT_spec hva with ⟨h0, h1, h2⟩ | ⟨h0, h1, h2, h3, h4⟩
            · exact .inl h0
            · obtain ⟨k, hk, ek, _⟩ := disOf_at h3 h4
              have hs : (disOf l[j].2.2.1).1.toNat < 30 := by rw [ek]; simp only; omega
              exact .inr (h _ (by omega) ((c2.iff _ hs).2 ⟨j, hj, by unfold dstS; rw [if_neg h0]⟩))
          · intro g s hs hp
            obtain ⟨j, hj, h⟩ := (c2.iff s (by omega)).1 hp
            unfold dstS at h
            split at h
            · cases h
            · rename_i h0
              cases h
              exact (g j hj).resolve_left h0
        have hall : (p && q) = allOk (codesOf lits) (codesOf dists) l := by
          have key : (p && q) = true ↔ allOk (codesOf lits) (codesOf dists) l = true := by
            unfold allOk
            rw [Bool.and_eq_true, Bool.and_eq_true, hp, hq, List.all_eq_true]
            constructor
            · rintro ⟨⟨g1, g2⟩, g3⟩
              refine ⟨g1, fun x hx => ?_⟩
              obtain ⟨j, hj, rfl⟩ := List.getElem_of_mem hx
              unfold tokOk
              rw [g2 j hj, Bool.true_and, Bool.or_eq_true, decide_eq_true_eq]
              exact g3 j hj
            · rintro ⟨g1, g2⟩
              refine ⟨⟨g1, fun j hj => ?_⟩, fun j hj => ?_⟩ <;> have := g2 _ (List.getElem_mem hj) <;> unfold tokOk at this <;> rw [Bool.and_eq_true, Bool.or_eq_true, decide_eq_true_eq] at this
              · exact this.1
              · exact this.2
          cases h1 : (p && q) <;> cases h2 : allOk (codesOf lits) (codesOf dists) l <;> simp_all
        rw [← hall]
        rw [if_neg (by decide), if_neg (by decide), p1, Option.bind_some]
        cases p with
        | false =>
          simp only [Bool.not_false, if_true, Bool.false_and, cond_false, List.append_nil]
        | true =>
          simp only [Bool.not_true, Bool.false_eq_true, if_false, Bool.true_and]
          rw [q1, Option.bind_some]
          cases q with
          | false =>
            simp only [Bool.not_false, if_true, cond_false, List.append_nil]
          | true =>
            simp only [Bool.not_true, Bool.false_eq_true, if_false, cond_true]
            have ho : ∀ i (h : i < l.length), tokOk (codesOf lits) (codesOf dists) l[i] = true := fun i hi => by
              unfold tokOk
              rw [(hp.1 rfl).2 i hi, Bool.true_and, Bool.or_eq_true, decide_eq_true_eq]
              exact hq.1 rfl i hi
            have hcl := code_loop (codesOf lits) (codesOf dists) (by omega) (by omega) l hl hv ho m hm l.length 0 200000 (by omega) (by omega)
            rw [show ((0 : Nat) : Int) = 0 from rfl, show bitsTo (codesOf lits) (codesOf dists) l 0 = [] from rfl, List.append_nil] at hcl
            rw [hcl, Option.bind_some]
            have g256 := (hp.1 rfl).1
            unfold hasC at g256
            simp only [Bool.and_eq_true, decide_eq_true_eq] at g256
            have hw : within (256 : Int) (codesOf lits).length = true := by unfold within; simp only [decide_eq_true_eq]; omega
            have hg : (codesOf lits)[256]? = some (at_ (codesOf lits) 256) := by unfold at_; rw [List.getD, List.getElem?_eq_getElem g256.1]; rfl
            have hbl := bitsTo_len (codesOf lits) (codesOf dists) l l.length (Nat.le_refl _)
            simp only [hw, if_true, hg, Option.bind_some]
            rw [F59_code (by decide) _ (by rw [List.length_append]; omega), Option.bind_some, List.append_assoc]
      · have ee : ((chk lits).2 != 0 || (chk dists).2 != 0) = true := by simp [e2]
        rw [ee, if_pos e1, if_neg e2]
        simp only [cond_true, List.append_nil]
        rw [if_neg (by decide), if_pos (by simpa using e2)]
    · have ee : ((chk lits).2 != 0 || (chk dists).2 != 0) = true := by simp [e1]
      rw [ee, if_neg e1]
      simp only [cond_true, List.append_nil]
      rw [if_pos (by simpa using e1)]
theorem docW_len (lits dists : List Int) (l : List Tok) (hl : l.length ≤ 10000) : (docW lits dists l).2.length ≤ 1280032 := by
  have hbl := bitsTo_len (codesOf lits) (codesOf dists) l l.length (Nat.le_refl _)
  have cl := codeBits_len (at_ (codesOf lits) 256)
  unfold docW
  cases validAll l <;> cases ((chk lits).2 != 0 || (chk dists).2 != 0) <;> cases allOk (codesOf lits) (codesOf dists) l <;> simp only [Bool.not_true, Bool.not_false, cond_true, cond_false, List.length_nil, List.length_append] <;> omega
theorem F108_loop {N : Nat} (hN : 2000 < N) {lens : List Int} (h : (chk lens).2 = 0) {j : Nat} (hj : j < lens.length) (h0 : 0 < lens.getD j 0) (a r : List Bool) (hL : (a ++ (codeBits (codeAt lens j) ++ r)).length ≤ 1000000000) :
    ∀ (d k f : Nat), k + d = (lens.getD j 0).toNat → d < f → F108_14 N f (codesOf lens, ((a.length + k : Nat) : Int), 0, (codeBits (codeAt lens j)).take k, a ++ (codeBits (codeAt lens j) ++ r)) =
      some ((j : Int), 0, ((a.length + (lens.getD j 0).toNat : Nat) : Int), 0, a ++ (codeBits (codeAt lens j) ++ r)) := by
  obtain ⟨c1, c2⟩ := code_bits_at h hj h0
  obtain ⟨a1, a2⟩ := chk_ok h
  obtain ⟨b1, b2⟩ := okB_at a2 hj
  rw [← getD_at hj] at b1 b2
  intro d
  induction d with
  | zero =>
    intro k f hk hf
    cases f with
    | zero => omega
    | succ f =>
      have e : (codeBits (codeAt lens j)).take k = codeBits (codeAt lens j) := List.take_of_length_le (by omega)
      simp only [F108_14, B108_14, iteP_eq]
      rw [e, find_code hN h hj h0, Option.bind_some, ifT (by omega), show k = (lens.getD j 0).toNat by omega]
  | succ d ih =>
    intro k f hk hf
    cases f with
    | zero => omega
    | succ f =>
      have hb : (a ++ (codeBits (codeAt lens j) ++ r))[a.length + k]? = some ((codeBits (codeAt lens j)).getD k false) := by
        rw [List.getElem?_append_right (by omega), show a.length + k - a.length = k by omega, List.getElem?_append_left (by omega), List.getD, List.getElem?_eq_getElem (show k < (codeBits (codeAt lens j)).length by omega), Option.getD_some]
      have ht : (codeBits (codeAt lens j)).take (k + 1) = (codeBits (codeAt lens j)).take k ++ [(codeBits (codeAt lens j)).getD k false] := by
        rw [List.take_add_one, List.getD, List.getElem?_eq_getElem (show k < (codeBits (codeAt lens j)).length by omega)]
        rfl
      have hbit : ((((codeBits (codeAt lens j)).getD k false).toNat : Int) == 1) = (codeBits (codeAt lens j)).getD k false := by
        cases (codeBits (codeAt lens j)).getD k false <;> rfl
      have hln : ((codeBits (codeAt lens j)).take k).length = k := by rw [List.length_take]; omega
      have hI := ih (k + 1) f (by omega) (by omega)
      simp only [F108_14, B108_14, iteP_eq]
      rw [find_way hN h hj h0 k (by omega), Option.bind_some, if_neg (by decide), if_neg (by decide), rd_bit (by omega) _ _ hL _ hb, Option.bind_some, if_neg (by simp), if_pos (by simp only [decide_eq_true_eq, List.length_singleton, hln]; omega), hbit, ← ht, Nat.add_assoc, hI]
      rfl
theorem F108_symbol {N : Nat} (hN : 2000 < N) {lens : List Int} (h : (chk lens).2 = 0) {j : Nat} (hj : j < lens.length) (h0 : 0 < lens.getD j 0) (a r : List Bool) (hL : (a ++ (codeBits (codeAt lens j) ++ r)).length ≤ 1000000000) :
    F108 N (codesOf lens, (a.length : Int), 0, a ++ (codeBits (codeAt lens j) ++ r)) = some ((j : Int), 0, ((a.length + (codeBits (codeAt lens j)).length : Nat) : Int), 0, a ++ (codeBits (codeAt lens j) ++ r)) := by
  obtain ⟨c1, c2⟩ := code_bits_at h hj h0
  obtain ⟨a1, a2⟩ := chk_ok h
  obtain ⟨b1, b2⟩ := okB_at a2 hj
  rw [← getD_at hj] at b1 b2
  have := F108_loop hN h hj h0 a r hL (lens.getD j 0).toNat 0 N (by omega) (by omega)
  rw [List.take_zero, Nat.add_zero] at this
  simp only [F108]
  rw [this, Option.bind_some, c1]
theorem F106_len : F106 200000 () = some (lenB, lenX) := by kernel_rfl
theorem F107_dis : F107 200000 () = some (disB, disX) := by kernel_rfl
theorem F109_of (N : Nat) (b x : List Int) (hbx : x.length = b.length) (hb : b.length ≤ 1000) (first j : Nat) (hf : first ≤ 1000) (hj : j < b.length) : F109 N (b, x, (first : Int) + (j : Int), (first : Int)) = some (b.getD j 0, x.getD j 0) := by
  have w : IntKind.wrap .i64 ((first : Int) + (j : Int) - (first : Int)) = (j : Int) := by rw [wrap_i64 (by omega) (by omega)]; omega
  simp only [F109, iteP_eq]
  rw [ifF (by omega), w, ifF (by omega), if_pos (within_nat hj), Int.toNat_natCast, get_int hj, Option.bind_some, if_pos (within_nat (by omega)), get_int (by omega), Option.bind_some]
theorem lenX_bnd : ∀ j, j < 29 → 0 ≤ lenX.getD j 0 ∧ lenX.getD j 0 ≤ 5 := by decide
theorem disX_bnd : ∀ j, j < 30 → 0 ≤ disX.getD j 0 ∧ disX.getD j 0 ≤ 13 := by decide
theorem len_next : ∀ j, j < 28 → lenB.getD (j + 1) 0 ≤ lenB.getD j 0 + 2 ^ (lenX.getD j 0).toNat := by decide
theorem dis_next : ∀ j, j < 29 → disB.getD (j + 1) 0 ≤ disB.getD j 0 + 2 ^ (disX.getD j 0).toNat := by decide
theorem len_extra {n : Int} (h1 : 3 ≤ n) (h2 : n ≤ 258) : ∃ j : Nat, j < 29 ∧ lenOf n = (((257 : Int) + (j : Int), n - lenB.getD j 0, lenX.getD j 0) : Int × Int × Int) ∧ 0 ≤ n - lenB.getD j 0 ∧ n - lenB.getD j 0 < 2 ^ (lenX.getD j 0).toNat := by
  obtain ⟨j, hj, e, l⟩ := lenOf_at h1 h2
  obtain ⟨a, b, c⟩ := lastLe_some l
  refine ⟨j, hj, e, by omega, ?_⟩
  by_cases h : j < 28
  · have := c (j + 1) (by omega) (by omega)
    have := len_next j h
    omega
  · have : j = 28 := by omega
    subst this
    have e1 : lenB.getD 28 0 = 258 := rfl
    have e2 : (lenX.getD 28 0).toNat = 0 := rfl
    rw [e1] at b ⊢
    rw [e2]
    omega
theorem dis_extra {n : Int} (h1 : 1 ≤ n) (h2 : n ≤ 32768) : ∃ j : Nat, j < 30 ∧ disOf n = (((0 : Int) + (j : Int), n - disB.getD j 0, disX.getD j 0) : Int × Int × Int) ∧ 0 ≤ n - disB.getD j 0 ∧ n - disB.getD j 0 < 2 ^ (disX.getD j 0).toNat := by
  obtain ⟨j, hj, e, l⟩ := disOf_at h1 h2
  obtain ⟨a, b, c⟩ := lastLe_some l
  refine ⟨j, hj, e, by omega, ?_⟩
  by_cases h : j < 29
  · have := c (j + 1) (by omega) (by omega)
    have := dis_next j h
    omega
  · have : j = 29 := by omega
    subst this
    have e1 : disB.getD 29 0 = 24577 := rfl
    have e2 : (disX.getD 29 0).toNat = 13 := rfl
    rw [e1] at b ⊢
    rw [e2]
    omega
def madeT (t : Tok) : Nat := if t.2.1 = 0 then 1 else t.2.1.toNat
def made (l : List Tok) : Nat := (l.map madeT).sum
theorem low_of {n v : Int} (hn : 0 ≤ n) (hn2 : n ≤ 32) (h0 : 0 ≤ v) (h : v < 2 ^ n.toNat) : (lowN (clampN n) v : Int) = v := by
  have hc : clampN n = n.toNat := by unfold clampN; omega
  obtain ⟨k, hk⟩ := Int.eq_ofNat_of_zero_le h0
  rw [hc, hk]
  rw [hk] at h
  rw [lowN_nat (by omega) (by
    have : ((k : Nat) : Int) < ((2 ^ n.toNat : Nat) : Int) := by rw [Int.natCast_pow]; exact h
    omega)]
theorem hasC_iff {lens : List Int} {s : Nat} (h : hasC (codesOf lens) s = true) (hk : okB lens = true) : s < lens.length ∧ 0 < lens.getD s 0 ∧ at_ (codesOf lens) s = codeAt lens s := by
  unfold hasC at h
  rw [Bool.and_eq_true, decide_eq_true_eq, codesOf_len] at h
  obtain ⟨h1, h2⟩ := h
  have e : at_ (codesOf lens) s = codeAt lens s := by unfold at_; rw [List.getD, codesOf_at lens h1]; rfl
  unfold at_ at e
  rw [e, codeAt_eq] at h2
  obtain ⟨g1, g2⟩ := okB_get hk h1
  refine ⟨h1, ?_, e⟩
  refine Classical.byContradiction fun hn => ?_
  rw [if_neg hn] at h2
  exact absurd h2 (by decide)
theorem madeT_le {t : Tok} (h : validT t.1 t.2.1 t.2.2.1 = true) : 1 ≤ madeT t ∧ madeT t ≤ 258 := by
  unfold madeT
  rcases validT_spec h with ⟨e, _⟩ | ⟨e, a, b, _⟩
  · rw [if_pos e]; omega
  · rw [if_neg e]; omega
theorem F74_toks {A B : List Int} (hA : (chk A).2 = 0) (hB : (chk B).2 = 0) (h256 : hasC (codesOf A) 256 = true) (most : Int) (hm0 : most ≤ 2000000000) (r : List Bool) : ∀ (l out : List Tok) (n : Nat) (a : List Bool) (f : Nat), l.length < f → out.length + l.length ≤ 20000 →
    (∀ t ∈ l, validT t.1 t.2.1 t.2.2.1 = true) → (∀ t ∈ l, tokOk (codesOf A) (codesOf B) t = true) → ((n + made l : Nat) : Int) ≤ most → (a ++ (l.flatMap (tokB (codesOf A) (codesOf B)) ++ (codeBits (at_ (codesOf A) 256) ++ r))).length ≤ 1000000000 →
    F74_4094 200000 f (most, (n : Int), (a.length : Int), 0, out, codesOf A, codesOf B, disB, disX, lenX, lenB, a ++ (l.flatMap (tokB (codesOf A) (codesOf B)) ++ (codeBits (at_ (codesOf A) 256) ++ r))) =
      some (0, ((a.length + ((l.flatMap (tokB (codesOf A) (codesOf B))).length + (codeBits (at_ (codesOf A) 256)).length) : Nat) : Int), 0, out ++ l, a ++ (l.flatMap (tokB (codesOf A) (codesOf B)) ++ (codeBits (at_ (codesOf A) 256) ++ r))) := by
  obtain ⟨s1, s2, s3⟩ := hasC_iff h256 (chk_ok hA).2
  intro l
  induction l with
  | nil =>
    intro out n a f hf _ _ _ _ hL
    cases f with
    | zero => cases hf
    | succ f =>
      simp only [List.flatMap_nil, List.nil_append, List.length_nil, Nat.zero_add, List.append_nil] at hL ⊢
      rw [s3] at hL ⊢
      simp only [F74_4094, B74_4094, iteP_eq]
      rw [F108_symbol (N := 200000) (by decide) hA s1 s2 a r hL, Option.bind_some]
      simp only
      rw [if_neg (by simp), if_pos (by rfl)]
  | cons t l ih =>
    intro out n a f hf ho hv hk hm hL
    cases f with
    | zero => cases hf
    | succ f =>
      rw [List.length_cons] at hf ho
      have hvt := hv t (List.mem_cons_self ..)
      have hkt := hk t (List.mem_cons_self ..)
      have hmade : made (t :: l) = madeT t + made l := by unfold made; rw [List.map_cons, List.sum_cons]
      rw [hmade] at hm
      obtain ⟨q1, q2⟩ := madeT_le hvt
      have hflat : (t :: l).flatMap (tokB (codesOf A) (codesOf B)) = tokB (codesOf A) (codesOf B) t ++ l.flatMap (tokB (codesOf A) (codesOf B)) := List.flatMap_cons
      rw [hflat] at hL ⊢
      generalize hS : l.flatMap (tokB (codesOf A) (codesOf B)) ++ (codeBits (at_ (codesOf A) 256) ++ r) = S at *
      have hLL : a ++ (tokB (codesOf A) (codesOf B) t ++ l.flatMap (tokB (codesOf A) (codesOf B)) ++ (codeBits (at_ (codesOf A) 256) ++ r)) = a ++ (tokB (codesOf A) (codesOf B) t ++ S) := by rw [List.append_assoc, hS]
      have hLa : a ++ (tokB (codesOf A) (codesOf B) t ++ S) = (a ++ tokB (codesOf A) (codesOf B) t) ++ S := by rw [List.append_assoc]
      rw [hLL] at hL ⊢
      have hI := ih (out ++ [t]) (n + madeT t) (a ++ tokB (codesOf A) (codesOf B) t) f (by omega) (by rw [List.length_append, List.length_singleton]; omega) (fun u hu => hv u (List.mem_cons_of_mem _ hu)) (fun u hu => hk u (List.mem_cons_of_mem _ hu)) (by omega) (by rw [← hLa]; exact hL)
      rw [← hLa, List.append_assoc, List.length_append] at hI
      have hfin : a.length + ((tokB (codesOf A) (codesOf B) t ++ l.flatMap (tokB (codesOf A) (codesOf B))).length + (codeBits (at_ (codesOf A) 256)).length) = a.length + (tokB (codesOf A) (codesOf B) t).length + ((l.flatMap (tokB (codesOf A) (codesOf B))).length + (codeBits (at_ (codesOf A) 256)).length) := by rw [List.length_append]; omega
      rw [hfin]
      generalize a.length + (tokB (codesOf A) (codesOf B) t).length + ((l.flatMap (tokB (codesOf A) (codesOf B))).length + (codeBits (at_ (codesOf A) 256)).length) = E at *
      have happ : decide ((out.length + [t].length) * 24 ≤ 140737488355328 ∧ out.length + [t].length ≤ 140737488355328) = true := by
        rw [decide_eq_true_eq, List.length_singleton]; omega
      obtain ⟨b, Ln, D, u⟩ := t
      unfold tokOk at hkt
      rw [Bool.and_eq_true, Bool.or_eq_true, decide_eq_true_eq] at hkt
      obtain ⟨ok1, ok2⟩ := hkt
      rcases validT_spec hvt with ⟨e1, e3, e4⟩ | ⟨e1, e3, e4, e5, e6⟩
      · -- a byte
        have e1 : Ln = 0 := e1
        have hD : D = 0 := by
          have := hvt
          unfold validT at this
          simp only [e1, if_true, Bool.and_eq_true, decide_eq_true_eq] at this
          exact this.1
        subst e1; subst hD
        have hs : litS (b, 0, 0, u) = b.toNat := by unfold litS; rw [if_pos rfl]
        have hT : tokB (codesOf A) (codesOf B) (b, 0, 0, u) = codeBits (at_ (codesOf A) b.toNat) := by unfold tokB; rw [if_pos rfl, hs]
        have hmt : madeT (b, 0, 0, u) = 1 := rfl
        rw [hs] at ok1
        obtain ⟨p1, p2, p3⟩ := hasC_iff ok1 (chk_ok hA).2
        rw [hT, p3] at hL hI ⊢
        rw [hmt] at hI hm
        have e3 : 0 ≤ b := e3
        have e4 : b ≤ 255 := e4
        have w : IntKind.wrap .i64 ((n : Int) + 1) = ((n + 1 : Nat) : Int) := by rw [wrap_i64 (by omega) (by omega)]; omega
        simp only [F74_4094, B74_4094, iteP_eq]
        rw [F108_symbol (N := 200000) (by decide) hA p1 p2 a S hL, Option.bind_some, Int.toNat_of_nonneg e3]
        simp only
        rw [if_neg (by simp), if_neg (by simp only [beq_iff_eq]; omega), ifF (by omega), ifF (by omega), w, ifF (by omega)]
        rw [if_pos happ, ← List.length_append, List.length_append]
        cases u
        rw [hI]
        rfl
      · -- a piece
        have e1 : Ln ≠ 0 := e1
        have e3 : 3 ≤ Ln := e3
        have e4 : Ln ≤ 258 := e4
        have e5 : 1 ≤ D := e5
        have e6 : D ≤ 32768 := e6
        have hb0 : b = 0 := by
          have := hvt
          unfold validT at this
          simp only [if_neg e1, Bool.and_eq_true, decide_eq_true_eq] at this
          exact this.1
        subst hb0
        obtain ⟨j, hj, ej, j0, j1⟩ := len_extra e3 e4
        obtain ⟨k, hkk, ek, k0, k1⟩ := dis_extra e5 e6
        obtain ⟨jx0, jx1⟩ := lenX_bnd j hj
        obtain ⟨kx0, kx1⟩ := disX_bnd k hkk
        have hs : litS (0, Ln, D, u) = 257 + j := by unfold litS; rw [if_neg e1]; simp only [ej]; omega
        have hdN : (disOf D).1.toNat = k := by rw [ek]; simp only; omega
        have hT : tokB (codesOf A) (codesOf B) (0, Ln, D, u) = codeBits (at_ (codesOf A) (257 + j)) ++ putB (lenX.getD j 0) (Ln - lenB.getD j 0) ++ codeBits (at_ (codesOf B) k) ++ putB (disX.getD k 0) (D - disB.getD k 0) := by
          unfold tokB; rw [if_neg e1, hs, hdN, ej, ek]
        have hmt : madeT (0, Ln, D, u) = Ln.toNat := by unfold madeT; rw [if_neg e1]
        rw [hs] at ok1
        have ok2 : hasC (codesOf B) k = true := by
          rcases ok2 with h | h
          · exact absurd h e1
          · rwa [hdN] at h
        obtain ⟨p1, p2, p3⟩ := hasC_iff ok1 (chk_ok hA).2
        obtain ⟨o1, o2, o3⟩ := hasC_iff ok2 (chk_ok hB).2
        rw [p3, o3] at hT
        rw [hT] at hL hI ⊢
        rw [hmt] at hI hm
        have l1 := low_of jx0 (by omega) j0 j1
        have l2 := low_of kx0 (by omega) k0 k1
        generalize hc1 : codeBits (codeAt A (257 + j)) = c1 at *
        generalize hc2 : codeBits (codeAt B k) = c2 at *
        generalize hd1 : putB (lenX.getD j 0) (Ln - lenB.getD j 0) = d1 at *
        generalize hd2 : putB (disX.getD k 0) (D - disB.getD k 0) = d2 at *
        have z1 : d1.length = clampN (lenX.getD j 0) := by rw [← hd1, putB_length]
        have z2 : d2.length = clampN (disX.getD k 0) := by rw [← hd2, putB_length]
        generalize hQ : a ++ (c1 ++ d1 ++ c2 ++ d2 ++ S) = Q at *
        have q1 : Q = a ++ (c1 ++ (d1 ++ (c2 ++ (d2 ++ S)))) := by rw [← hQ]; simp only [List.append_assoc]
        have q2 : Q = (a ++ c1) ++ (d1 ++ (c2 ++ (d2 ++ S))) := by rw [← hQ]; simp only [List.append_assoc]
        have q3 : Q = (a ++ c1 ++ d1) ++ (c2 ++ (d2 ++ S)) := by rw [← hQ]; simp only [List.append_assoc]
        have q4 : Q = (a ++ c1 ++ d1 ++ c2) ++ (d2 ++ S) := by rw [← hQ]; simp only [List.append_assoc]
        have r1 := F108_symbol (N := 200000) (by decide) hA p1 p2 a (d1 ++ (c2 ++ (d2 ++ S))) (by rw [hc1, ← q1]; exact hL)
        rw [hc1, ← q1] at r1
        have r2 := rd_put (N := 200000) (by decide) (a ++ c1) (c2 ++ (d2 ++ S)) (lenX.getD j 0) (Ln - lenB.getD j 0) (by rw [hd1, ← q2]; exact hL)
        rw [hd1, ← q2, l1, List.length_append, ← z1] at r2
        have r3 := F108_symbol (N := 200000) (by decide) hB o1 o2 (a ++ c1 ++ d1) (d2 ++ S) (by rw [hc2, ← q3]; exact hL)
        rw [hc2, ← q3, List.length_append, List.length_append] at r3
        have r4 := rd_put (N := 200000) (by decide) (a ++ c1 ++ d1 ++ c2) S (disX.getD k 0) (D - disB.getD k 0) (by rw [hd2, ← q4]; exact hL)
        rw [hd2, ← q4, l2, List.length_append, List.length_append, List.length_append, ← z2] at r4
        have t1 : F109 200000 (lenB, lenX, ((257 + j : Nat) : Int), 257) = some (lenB.getD j 0, lenX.getD j 0) := by
          have := F109_of 200000 lenB lenX rfl (by decide) 257 j (by decide) hj
          rw [show ((257 + j : Nat) : Int) = ((257 : Nat) : Int) + (j : Int) by omega]
          exact this
        have t2 : F109 200000 (disB, disX, (k : Int), 0) = some (disB.getD k 0, disX.getD k 0) := by
          have := F109_of 200000 disB disX rfl (by decide) 0 k (by decide) hkk
          rw [show ((0 : Nat) : Int) = 0 from rfl, Int.zero_add] at this
          exact this
        have w1 : IntKind.wrap .i64 (lenB.getD j 0 + (Ln - lenB.getD j 0)) = Ln := by rw [wrap_i64 (by omega) (by omega)]; omega
        have w2 : IntKind.wrap .i64 (disB.getD k 0 + (D - disB.getD k 0)) = D := by rw [wrap_i64 (by omega) (by omega)]; omega
        have w3 : (if (1 : Int) > Ln then (1 : Int) else Ln) = Ln := if_neg (by omega)
        have w4 : IntKind.wrap .i64 ((n : Int) + Ln) = ((n + Ln.toNat : Nat) : Int) := by rw [wrap_i64 (by omega) (by omega)]; omega
        simp only [F74_4094, B74_4094, iteP_eq]
        rw [r1, Option.bind_some]
        simp only
        rw [if_neg (by simp), if_neg (by simp only [beq_iff_eq]; omega), ifF (by omega), ifT (by omega), t1, Option.bind_some]
        simp only
        rw [r2, Option.bind_some]
        simp only
        rw [if_neg (by simp), r3, Option.bind_some]
        simp only
        rw [if_neg (by simp), ifF (by omega), t2, Option.bind_some]
        simp only
        rw [r4, Option.bind_some]
        simp only
        rw [if_neg (by simp), w1, w2, w3, w4, ifF (by omega), if_pos happ]
        simp only [List.length_append] at hI
        rw [show a.length + (c1.length + d1.length + c2.length + d2.length) = a.length + c1.length + d1.length + c2.length + d2.length by omega] at hI
        cases u
        rw [hI]
        rfl
theorem F74_read {A B : List Int} (hA : (chk A).2 = 0) (hB : (chk B).2 = 0) (l : List Tok) (hl : l.length ≤ 10000) (hv : validAll l = true) (ho : allOk (codesOf A) (codesOf B) l = true) (most : Int) (hm : (made l : Int) ≤ most) (hm0 : most ≤ 2000000000) (a r : List Bool)
    (hL : (a ++ ((docW A B l).2 ++ r)).length ≤ 1000000000) :
    F74 200000 (A, B, most, (a.length : Int), 0, a ++ ((docW A B l).2 ++ r)) = some (0, ((a.length + (docW A B l).2.length : Nat) : Int), 0, l, a ++ ((docW A B l).2 ++ r)) := by
  have hd : (docW A B l).2 = l.flatMap (tokB (codesOf A) (codesOf B)) ++ codeBits (at_ (codesOf A) 256) := by
    unfold docW
    rw [hv, ho, hA, hB]
    simp only [Bool.not_true, bne_self_eq_false, Bool.or_self, cond_false, cond_true]
    unfold bitsTo
    rw [List.take_length]
  unfold allOk at ho
  rw [Bool.and_eq_true, List.all_eq_true] at ho
  have hv2 : ∀ t ∈ l, validT t.1 t.2.1 t.2.2.1 = true := by
    unfold validAll at hv
    exact List.all_eq_true.1 hv
  have e : a ++ ((docW A B l).2 ++ r) = a ++ (l.flatMap (tokB (codesOf A) (codesOf B)) ++ (codeBits (at_ (codesOf A) 256) ++ r)) := by rw [hd, List.append_assoc]
  have h := F74_toks hA hB ho.1 most hm0 r l [] 0 a 200000 (by omega) (by simpa using (by omega : l.length ≤ 20000)) hv2 ho.2 (by omega) (by rw [← e]; exact hL)
  rw [← e, List.nil_append, show ((0 : Nat) : Int) = 0 from rfl, ← List.length_append, ← hd] at h
  simp only [F74, iteP_eq]
  rw [F61_chk (by decide), Option.bind_some, F61_chk (by decide), Option.bind_some, hA, hB, if_neg (by simp), if_neg (by simp), F62_codes (by decide) _ (chk_ok hA).1 (chk_ok hA).2, Option.bind_some, F62_codes (by decide) _ (chk_ok hB).1 (chk_ok hB).2, Option.bind_some, F106_len, Option.bind_some, F107_dis, Option.bind_some]
  simp only
  rw [h, Option.bind_some]
def fixL : List Int := List.replicate 144 8 ++ List.replicate 112 9 ++ List.replicate 24 7 ++ List.replicate 8 8
def fixD : List Int := List.replicate 30 5
theorem F64_fix : F64 200000 () = some (fixL, fixD) := by kernel_rfl
theorem F73_fix : F73 200000 () = some (fixL, fixD) := by kernel_rfl
theorem fixL_chk : (chk fixL).2 = 0 := by decide +kernel
theorem fixD_chk : (chk fixD).2 = 0 := by decide +kernel
theorem fixL_len : fixL.length = 288 := by decide +kernel
theorem fixD_len : fixD.length = 30 := by decide +kernel
theorem fixL_pos : ∀ s, s < 286 → 0 < fixL.getD s 0 := by decide +kernel
theorem fixD_pos : ∀ s, s < 30 → 0 < fixD.getD s 0 := by decide +kernel
theorem hasC_of {lens : List Int} {s : Nat} (h : s < lens.length) (h0 : 0 < lens.getD s 0) : hasC (codesOf lens) s = true := by
  unfold hasC
  rw [Bool.and_eq_true, decide_eq_true_eq, codesOf_len]
  refine ⟨h, ?_⟩
  rw [List.getD, codesOf_at lens h, codeAt_eq, if_pos h0]
  simp only [Option.getD_some, Bool.not_eq_true', beq_eq_false_iff_ne]
  omega
theorem allOk_of {A B : List Cod} {l : List Tok} (hv : validAll l = true) (hA : ∀ s, s < 286 → (s = 256 ∨ ∃ j, ∃ h : j < l.length, litS l[j] = s) → hasC A s = true)
    (hB : ∀ s, s < 30 → (∃ j, ∃ h : j < l.length, dstS l[j] = some s) → hasC B s = true) : allOk A B l = true := by
  unfold allOk
  rw [Bool.and_eq_true, List.all_eq_true]
  refine ⟨hA 256 (by omega) (.inl rfl), fun t ht => ?_⟩
  obtain ⟨j, hj, rfl⟩ := List.getElem_of_mem ht
  have hva := valid_at hv hj
  have eA : litS l[j] < 286 → hasC A (litS l[j]) = true := fun h => hA _ h (.inr ⟨j, hj, rfl⟩)
  have eB : ∀ s, s < 30 → dstS l[j] = some s → hasC B s = true := fun s h e => hB s h ⟨j, hj, e⟩
  generalize l[j] = t at *
  obtain ⟨b, L, D, u⟩ := t
  unfold tokOk
  rw [Bool.and_eq_true, Bool.or_eq_true, decide_eq_true_eq]
  rcases validT_spec hva with ⟨e1, e3, e4⟩ | ⟨e1, e3, e4, e5, e6⟩
  · have e1 : L = 0 := e1
    have e3 : 0 ≤ b := e3
    have e4 : b ≤ 255 := e4
    exact ⟨eA (by unfold litS; rw [if_pos e1]; simp only; omega), .inl e1⟩
  · have e1 : L ≠ 0 := e1
    have e3 : 3 ≤ L := e3
    have e4 : L ≤ 258 := e4
    have e5 : 1 ≤ D := e5
    have e6 : D ≤ 32768 := e6
    obtain ⟨j, hj, ej, lj⟩ := lenOf_at e3 e4
    obtain ⟨k, hk, ek, lk⟩ := disOf_at e5 e6
    exact ⟨eA (by unfold litS; rw [if_neg e1]; simp only [ej]; omega), .inr (eB _ (by simp only [ek]; omega) (by unfold dstS; rw [if_neg e1]))⟩
theorem fix_ok {l : List Tok} (hv : validAll l = true) : allOk (codesOf fixL) (codesOf fixD) l = true :=
  allOk_of hv (fun s h _ => hasC_of (by rw [fixL_len]; omega) (fixL_pos s h)) (fun s h _ => hasC_of (by rw [fixD_len]; omega) (fixD_pos s h))
def trimN (l : List Int) (least : Nat) : Nat → Nat
  | 0 => 0
  | n + 1 => if n + 1 > least then (if l.getD n 0 = 0 then trimN l least n else n + 1) else n + 1
theorem trimN_le (l : List Int) (least : Nat) : ∀ n, trimN l least n ≤ n
  | 0 => Nat.le_refl _
  | n + 1 => by
    unfold trimN
    have := trimN_le l least n
    split
    · split <;> omega
    · omega
theorem trimN_ge (l : List Int) (least : Nat) : ∀ n, least ≤ n → least ≤ trimN l least n
  | 0, h => h
  | n + 1, h => by
    unfold trimN
    split
    · split
      · exact trimN_ge l least n (by omega)
      · omega
    · omega
theorem trimN_zero (l : List Int) (least : Nat) : ∀ n i, trimN l least n ≤ i → i < n → l.getD i 0 = 0
  | 0, i, _, h => by omega
  | n + 1, i, h1, h2 => by
    unfold trimN at h1
    split at h1
    · split at h1
      · by_cases e : i = n
        · subst e; assumption
        · exact trimN_zero l least n i h1 (by omega)
      · omega
    · omega
theorem F67_loop (N : Nat) (l : List Int) (hl : l.length ≤ 1000) (least : Nat) (hle : least ≤ 1000) : ∀ (n f : Nat), n ≤ l.length → n < f → F67_28 N f ((n : Int), (least : Int), l) = some (l, ((trimN l least n : Nat) : Int)) := by
  intro n
  induction n with
  | zero =>
    intro f h1 h2
    cases f with
    | zero => omega
    | succ f =>
      simp only [F67_28, B67_28, iteP_eq]
      rw [ifF (by omega)]
      rfl
  | succ n ih =>
    intro f h1 h2
    cases f with
    | zero => omega
    | succ f =>
      have w : IntKind.wrap .i64 (((n + 1 : Nat) : Int) - 1) = (n : Int) := by rw [wrap_i64 (by omega) (by omega)]; omega
      simp only [F67_28, B67_28, iteP_eq]
      unfold trimN
      rw [w]
      by_cases h4 : n + 1 > least
      · rw [ifT (by omega), if_pos h4, if_pos (within_nat (by omega)), Int.toNat_natCast, get_int (by omega), Option.bind_some]
        by_cases hz : l.getD n 0 = 0
        · rw [if_pos (by rw [hz]; rfl), if_pos hz, ih f (by omega) (by omega)]
          rfl
        · rw [if_neg (by simpa using hz), if_neg hz]
      · rw [ifF (by omega), if_neg h4]
def trimL (l : List Int) (least : Nat) : List Int := l.take (trimN l least l.length)
theorem F67_trim (l : List Int) (hl : l.length ≤ 1000) (least : Nat) (hle : least ≤ 1000) : F67 200000 (l, (least : Int)) = some (trimL l least) := by
  have := trimN_le l least l.length
  simp only [F67, iteP_eq]
  rw [F67_loop 200000 l hl least hle l.length 200000 (Nat.le_refl _) (by omega), Option.bind_some]
  simp only
  rw [ifT (by omega), Int.toNat_natCast, Nat.sub_zero, List.drop_zero]
  rfl
theorem trimL_len (l : List Int) (least : Nat) (h : least ≤ l.length) : least ≤ (trimL l least).length ∧ (trimL l least).length ≤ l.length := by
  have h1 := trimN_le l least l.length
  have h2 := trimN_ge l least l.length h
  unfold trimL
  rw [List.length_take]
  omega
theorem trimL_split (l : List Int) (least : Nat) : ∃ k, l = trimL l least ++ List.replicate k 0 := by
  refine ⟨l.length - trimN l least l.length, ?_⟩
  have h1 := trimN_le l least l.length
  have h := take_more (L := l) (v := 0) (i := trimN l least l.length) (l.length - trimN l least l.length) (by omega) fun k hk => trimN_zero l least l.length _ (by omega) (by omega)
  rw [show trimN l least l.length + (l.length - trimN l least l.length) = l.length by omega, List.take_length] at h
  exact h
theorem trimL_get (l : List Int) (least : Nat) {s : Nat} (h : 0 < l.getD s 0) : s < (trimL l least).length ∧ (trimL l least).getD s 0 = l.getD s 0 := by
  obtain ⟨k, hk⟩ := trimL_split l least
  have hs : s < (trimL l least).length := by
    refine Classical.byContradiction fun hn => ?_
    rw [hk, List.getD, List.getElem?_append_right (by omega)] at h
    by_cases hr : s - (trimL l least).length < k
    · rw [List.getElem?_replicate, if_pos hr] at h
      exact absurd h (by decide)
    · rw [List.getElem?_replicate, if_neg hr] at h
      exact absurd h (by decide)
  refine ⟨hs, ?_⟩
  have e : (trimL l least ++ List.replicate k 0).getD s 0 = (trimL l least).getD s 0 := by
    rw [List.getD, List.getElem?_append_left hs]
    rfl
  rw [← hk] at e
  exact e.symm
theorem chk_zero_iff (lens : List Int) : (chk lens).2 = 0 ↔ okL lens = true ∧ 0 ≤ lf lens 15 := by
  unfold chk
  constructor
  · intro h
    by_cases hc : okL lens = true ∧ 0 ≤ lf lens 15
    · exact hc
    · rw [if_neg hc] at h
      exact absurd h (by decide)
  · intro h
    rw [if_pos h]
theorem chk_trim {l : List Int} (h : (chk l).2 = 0) (least : Nat) : (chk (trimL l least)).2 = 0 := by
  obtain ⟨k, hk⟩ := trimL_split l least
  obtain ⟨h1, h2⟩ := (chk_zero_iff l).1 h
  obtain ⟨g1, g2⟩ := chk_ok h
  have hok : okB (trimL l least) = true := by
    have := g2
    rw [hk, okB_append, Bool.and_eq_true] at this
    exact this.1
  have hlen : (trimL l least).length ≤ 320 := by
    have := congrArg List.length hk
    rw [List.length_append] at this
    omega
  have e1 := lf_took l 15 (Nat.le_refl _)
  have e2 := lf_took (trimL l least) 15 (Nat.le_refl _)
  rw [tookTo_all _ g2] at e1
  rw [tookTo_all _ hok] at e2
  have et : took l = took (trimL l least) := by
    have : took (List.replicate k 0) = 0 := by
      clear hk
      induction k with
      | zero => rfl
      | succ k ih => rw [List.replicate_succ, took, ih]; rfl
    rw [congrArg took hk, took_append, this, Int.add_zero]
  refine (chk_zero_iff _).2 ⟨?_, ?_⟩
  · unfold okL
    rw [hok, decide_eq_true hlen]
    rfl
  · rw [show (15 : Nat) - 15 = 0 from rfl] at e1 e2
    omega
theorem cnt_okF {a : List Int} {n : Nat} {S : Nat → Prop} (h : CntAt a n 10001 S) : okF a = true := by
  obtain ⟨h1, h2, h3⟩ := h
  unfold okF
  rw [List.all_eq_true]
  intro x hx
  obtain ⟨j, hj, rfl⟩ := List.getElem_of_mem hx
  have := h2 j (by omega)
  rw [getD_at hj] at this
  rw [Bool.and_eq_true, decide_eq_true_eq, decide_eq_true_eq]
  omega
noncomputable def ownLits (l : List Tok) : List Int := match F66 200000 l with
  | some r => trimL (lensR r.1 15).2 257
  | none => []
noncomputable def ownDists (l : List Tok) : List Int := match F66 200000 l with
  | some r => trimL (lensR r.2 15).2 1
  | none => []
structure OwnOk (l : List Tok) : Prop where
  hd : HdOk (ownLits l) (ownDists l)
  a : (chk (ownLits l)).2 = 0
  b : (chk (ownDists l)).2 = 0
  ok : allOk (codesOf (ownLits l)) (codesOf (ownDists l)) l = true
  run : ∃ r, F66 200000 l = some r ∧ ∃ x y, F68 200000 r.1 = some x ∧ F67 200000 (x, 257) = some (ownLits l) ∧ F68 200000 r.2 = some y ∧ F67 200000 (y, 1) = some (ownDists l)
theorem own_ok {l : List Tok} (hl : l.length ≤ 10000) (hv : validAll l = true) : OwnOk l := by
  obtain ⟨r, r1, r2, r3⟩ := F66_counts l hl hv
  have z1 : r.1.length = 286 := r2.len
  have z2 : r.2.length = 30 := r3.len
  obtain ⟨x, x1, x2, x3, x4⟩ := best_lens (fr := r.1) (m := 15) (by omega) (by decide) (by decide) (by rw [z1]; decide) (cnt_okF r2)
  obtain ⟨y, y1, y2, y3, y4⟩ := best_lens (fr := r.2) (m := 15) (by omega) (by decide) (by decide) (by rw [z2]; decide) (cnt_okF r3)
  have x1 : lensR r.1 15 = (0, x) := x1
  have y1 : lensR r.2 15 = (0, y) := y1
  have eX : ownLits l = trimL x 257 := by unfold ownLits; rw [r1]; simp only [x1]
  have eY : ownDists l = trimL y 1 := by unfold ownDists; rw [r1]; simp only [y1]
  have cX := chk_trim x3 257
  have cY := chk_trim y3 1
  have lX := trimL_len x 257 (by omega)
  have lY := trimL_len y 1 (by omega)
  refine ⟨?_, ?_, ?_, ?_, r, r1, x, y, ?_, ?_, ?_, ?_⟩
  · rw [eX, eY]
    exact ⟨lX.1, by omega, lY.1, by omega, (chk_ok cX).2, (chk_ok cY).2⟩
  · rw [eX]; exact cX
  · rw [eY]; exact cY
  · rw [eX, eY]
    refine allOk_of hv (fun s hs hS => ?_) (fun s hs hS => ?_)
    · have := (x4 s (by omega)).1 ((r2.iff s hs).2 hS)
      obtain ⟨g1, g2⟩ := trimL_get x 257 (s := s) (by omega)
      exact hasC_of g1 (by omega)
    · have := (y4 s (by omega)).1 ((r3.iff s hs).2 hS)
      obtain ⟨g1, g2⟩ := trimL_get y 1 (s := s) (by omega)
      exact hasC_of g1 (by omega)
  · simp only [F68]; rw [F56_lens, x1, Option.bind_some]
  · rw [eX]; exact F67_trim x (by omega) 257 (by decide)
  · simp only [F68]; rw [F56_lens, y1, Option.bind_some]
  · rw [eY]; exact F67_trim y (by omega) 1 (by decide)
noncomputable def codedB (l : List Tok) (own last : Bool) : List Bool :=
  [last] ++ putB 2 (if own = true then 2 else 1) ++ (if own = true then hdB (ownLits l) (ownDists l) ++ (docW (ownLits l) (ownDists l) l).2 else (docW fixL fixD l).2)
theorem head_bits2 (b : Bool) (m : List Bool) (hm : m.length ≤ 100000000) (k : Int) : F46 200000 (b, k, lastF m, nF m, bF m) = some (lastF (m ++ ([b] ++ putB 2 k)), nF (m ++ ([b] ++ putB 2 k)), bF (m ++ ([b] ++ putB 2 k))) := by
  simp only [F46, iteP_eq]
  have h2 : (putB 2 k).length = 2 := by rw [putB_length]; rfl
  cases b with
  | true =>
    rw [if_pos rfl, F14_bits (by decide) m (by omega), Option.bind_some, show putB 1 1 = [true] from rfl, F14_bits (by decide) _ (by simp; omega), Option.bind_some, List.append_assoc]
  | false =>
    rw [if_neg (by decide), F14_bits (by decide) m (by omega), Option.bind_some, show putB 1 0 = [false] from rfl, F14_bits (by decide) _ (by simp; omega), Option.bind_some, List.append_assoc]
theorem docW_ok {A B : List Int} {l : List Tok} (hv : validAll l = true) (hA : (chk A).2 = 0) (hB : (chk B).2 = 0) (ho : allOk (codesOf A) (codesOf B) l = true) : (docW A B l).1 = 0 := by
  unfold docW
  rw [hv, ho, hA, hB]
  rfl
theorem valid_loopC (l : List Tok) (hl : l.length ≤ 10000) (x2 x3 : Bool) (x6 x7 : Int) (x8 : List Int) : ∀ (d i f : Nat), i + d = l.length → d < f →
    ((∀ j (h : j < l.length), i ≤ j → validT l[j].1 l[j].2.1 l[j].2.2.1 = true) → F26_26 200000 f ((l.length : Int), l, x2, x3, l, (i : Int), x6, x7, x8) = some (.inr (x3, x2, l, x6, x7, x8))) ∧
    ((∃ j, ∃ h : j < l.length, i ≤ j ∧ validT l[j].1 l[j].2.1 l[j].2.2.1 = false) → F26_26 200000 f ((l.length : Int), l, x2, x3, l, (i : Int), x6, x7, x8) = some (.inl (1, x6, x7, x8))) := by
  intro d
  induction d with
  | zero =>
    intro i f hi hf
    cases f with
    | zero => omega
    | succ f =>
      simp only [F26_26, B26_26, iteP_eq]
      rw [ifF (by omega)]
      exact ⟨fun _ => rfl, fun ⟨j, h1, h2, _⟩ => by omega⟩
  | succ d ih =>
    intro i f hi hf
    cases f with
    | zero => omega
    | succ f =>
      have hil : i < l.length := by omega
      obtain ⟨ih1, ih2⟩ := ih (i + 1) f (by omega) (by omega)
      have hli : l[i]? = some l[i] := List.getElem?_eq_getElem hil
      have hw : IntKind.wrap .i64 ((i : Int) + 1) = ((i + 1 : Nat) : Int) := by rw [wrap_i64 (by omega) (by omega)]; omega
      have hwi : within (i : Int) l.length = true := within_nat hil
      have hc : decide ((i : Int) < (l.length : Int)) = true := by simp only [decide_eq_true_eq]; omega
      simp only [F26_26, B26_26, hc, hwi, if_true, Int.toNat_natCast, hli, Option.bind_some, hw, F27_valid, iteP_eq]
      cases hv : validT l[i].1 l[i].2.1 l[i].2.2.1 with
      | false =>
        simp only [Bool.not_false, if_true]
        exact ⟨fun h => (by have := h i hil (Nat.le_refl _); rw [hv] at this; cases this), fun _ => by first | rfl | trivial⟩
      | true =>
        simp only [Bool.not_true, Bool.false_eq_true, if_false]
        refine ⟨fun h => by rw [ih1 fun j h1 h2 => h j h1 (by omega)]; rfl, fun ⟨j, h1, h2, h3⟩ => ?_⟩
        rw [ih2 ⟨j, h1, by
          by_cases e : j = i
          · subst e; rw [hv] at h3; cases h3
          · omega, h3⟩]
        rfl
theorem F26_coded {l : List Tok} (hl : l.length ≤ 10000) (hv : validAll l = true) (own last : Bool) (m : List Bool) (hm : m.length ≤ 90000000) :
    F26 200000 (l, own, last, lastF m, nF m, bF m) = some (0, lastF (m ++ codedB l own last), nF (m ++ codedB l own last), bF (m ++ codedB l own last)) := by
  have h := (valid_loopC l hl last own (lastF m) (nF m) (bF m) l.length 0 200000 (by omega) (by omega)).1 (validAll_all hv)
  rw [show ((0 : Nat) : Int) = 0 from rfl] at h
  have h2 : ∀ k, (putB 2 k).length = 2 := fun k => by rw [putB_length]; rfl
  simp only [F26, iteP_eq]
  rw [h, Option.bind_some]
  simp only
  cases own with
  | false =>
    rw [if_pos (show (!false) = true from rfl), head_bits2 last m (by omega) 1, Option.bind_some, F64_fix, Option.bind_some]
    simp only
    rw [F65_code fixL fixD l hl (m ++ ([last] ++ putB 2 1)) (by simp only [List.length_append, h2]; simp; omega), Option.bind_some, docW_ok hv fixL_chk fixD_chk (fix_ok hv)]
    unfold codedB
    simp only [Bool.false_eq_true, if_false, List.append_assoc]
  | true =>
    obtain ⟨o1, o2, o3, o4, r, g1, x, y, g2, g3, g4, g5⟩ := own_ok hl hv
    have hbl := hdB_len o1
    rw [if_neg (by decide), g1, Option.bind_some, g2, Option.bind_some, g3, Option.bind_some, g4, Option.bind_some, g5, Option.bind_some, head_bits2 last m (by omega) 2, Option.bind_some]
    simp only
    rw [F21_ok o1 _ (by simp only [List.length_append, h2]; simp; omega), Option.bind_some]
    simp only
    rw [if_neg (by simp), F65_code (ownLits l) (ownDists l) l hl _ (by simp only [List.length_append, h2]; simp; omega), Option.bind_some, docW_ok hv o2 o3 o4]
    unfold codedB
    simp only [if_true, List.append_assoc]
theorem codedB_len {l : List Tok} (hl : l.length ≤ 10000) (hv : validAll l = true) (own last : Bool) : (codedB l own last).length ≤ 1400000 := by
  have h2 : ∀ k, (putB 2 k).length = 2 := fun k => by rw [putB_length]; rfl
  unfold codedB
  have d1 := docW_len fixL fixD l hl
  have d2 := docW_len (ownLits l) (ownDists l) l hl
  have hbl := hdB_len (own_ok hl hv).hd
  cases own with
  | false =>
    simp only [Bool.false_eq_true, if_false, List.length_append, h2, List.length_singleton]
    omega
  | true =>
    simp only [if_true, List.length_append, h2, List.length_singleton]
    omega
def copyN (D : Nat) : Nat → List Int → List Int
  | 0, o => o
  | k + 1, o => copyN D k (o ++ [o.getD (o.length - D) 0])
theorem copyN_len (D : Nat) : ∀ k o, (copyN D k o).length = o.length + k
  | 0, _ => rfl
  | k + 1, o => by unfold copyN; rw [copyN_len D k, List.length_append, List.length_singleton]; omega
def expT (o : List Int) (t : Tok) : Option (List Int) :=
  if t.2.1 = 0 then some (o ++ [t.1]) else if (o.length : Int) < t.2.2.1 then none else some (copyN t.2.2.1.toNat t.2.1.toNat o)
def expL : List Int → List Tok → Option (List Int)
  | o, [] => some o
  | o, t :: l => match expT o t with
    | some p => expL p l
    | none => none
theorem expT_len {o p : List Int} {t : Tok} (h : expT o t = some p) : p.length = o.length + madeT t := by
  unfold expT at h
  unfold madeT
  split at h
  · rename_i e
    cases h
    rw [if_pos e, List.length_append, List.length_singleton]
  · rename_i e
    split at h
    · cases h
    · cases h
      rw [if_neg e, copyN_len]
theorem made_cons (t : Tok) (l : List Tok) : made (t :: l) = madeT t + made l := by unfold made; rw [List.map_cons, List.sum_cons]
theorem expL_len : ∀ {l : List Tok} {o p : List Int}, expL o l = some p → p.length = o.length + made l
  | [], o, p, h => by cases h; rfl
  | t :: l, o, p, h => by
    unfold expL at h
    cases ht : expT o t with
    | none => rw [ht] at h; cases h
    | some q =>
      rw [ht] at h
      have := expL_len h
      rw [this, expT_len ht, made_cons]
      omega
theorem F71_valid (N : Nat) (b l d : Int) : F71 N (b, l, d) = some (validT b l d) := by
  simp only [F71, iteP_eq]
  unfold validT inT
  by_cases h : l = 0
  · subst h
    rw [if_pos (by rfl), if_pos rfl]
    by_cases hd : d = 0
    · subst hd
      rw [if_pos (by rfl)]
      by_cases h0 : 0 ≤ b
      · rw [if_pos (by simpa using h0), decide_eq_true h0]; simp
      · rw [if_neg (by simpa using h0), decide_eq_false h0]; simp
    · rw [if_neg (by simpa using hd), decide_eq_false hd]; rfl
  · rw [if_neg (by simpa using h), if_neg h]
    by_cases hb : b = 0
    · subst hb
      rw [if_pos (by rfl)]
      by_cases h1 : 3 ≤ l
      · rw [if_pos (by simpa using h1), decide_eq_true h1]
        by_cases h2 : l ≤ 258
        · rw [if_pos (by simpa using h2), decide_eq_true h2]
          by_cases h3 : 1 ≤ d
          · rw [if_pos (by simpa using h3), decide_eq_true h3]; simp
          · rw [if_neg (by simpa using h3), decide_eq_false h3]; simp
        · rw [if_neg (by simpa using h2), decide_eq_false h2]; simp
      · rw [if_neg (by simpa using h1), decide_eq_false h1]; simp
    · rw [if_neg (by simpa using hb), decide_eq_false hb]; rfl
theorem F28_copy (N : Nat) (x1 : Int) (l : List Tok) {i : Nat} (hi : i < l.length) {b Ln D : Int} {u : Unit} (hli : l[i] = (b, Ln, D, u)) (hD : 1 ≤ D) (hD2 : D ≤ 32768) (hL0 : 0 ≤ Ln) (hL : Ln ≤ 258) : ∀ (d k f : Nat) (o : List Int), k + d = Ln.toNat → d < f → D ≤ (o.length : Int) → o.length + d ≤ 10000000 →
    F28_256318 N f ((k : Int), x1, l, (i : Int), o) = some ((i : Int), x1, l, copyN D.toNat d o) := by
  have hlg : l[i]? = some (b, Ln, D, u) := by rw [List.getElem?_eq_getElem hi, hli]
  intro d
  induction d with
  | zero =>
    intro k f o hk hf ho ho2
    cases f with
    | zero => omega
    | succ f =>
      simp only [F28_256318, B28_256318, iteP_eq]
      rw [if_pos (within_nat hi), Int.toNat_natCast, hlg, Option.bind_some]
      simp only
      rw [ifF (by omega)]
      rfl
  | succ d ih =>
    intro k f o hk hf ho ho2
    cases f with
    | zero => omega
    | succ f =>
      have w : IntKind.wrap .i64 ((k : Int) + 1) = ((k + 1 : Nat) : Int) := by rw [wrap_i64 (by omega) (by omega)]; omega
      have w2 : IntKind.wrap .i64 ((o.length : Int) - D) = ((o.length - D.toNat : Nat) : Int) := by rw [wrap_i64 (by omega) (by omega)]; omega
      simp only [F28_256318, B28_256318, iteP_eq]
      rw [if_pos (within_nat hi), Int.toNat_natCast, hlg, Option.bind_some]
      simp only
      rw [ifT (by omega), if_pos (within_nat hi), Option.bind_some]
      simp only
      rw [w2, if_pos (within_nat (by omega)), Int.toNat_natCast, get_int (by omega), Option.bind_some, if_pos (by rw [decide_eq_true_eq, List.length_singleton]; omega), w, ih (k + 1) f _ (by omega) (by omega) (by rw [List.length_append, List.length_singleton]; omega) (by rw [List.length_append, List.length_singleton]; omega)]
      rfl
theorem wrap_u8_id {b : Int} (h0 : 0 ≤ b) (h1 : b ≤ 255) : IntKind.wrap .u8 b = b := by rw [wrap_u8]; omega
theorem F28_loop (x0 : Int) (l : List Tok) (hl : l.length ≤ 20000) (hv : validAll l = true) : ∀ (d i f : Nat) (o : List Int), i + d = l.length → d < f → o.length + made (l.drop i) ≤ 9000000 →
    F28_250 200000 f (x0, l, (i : Int), o) = some (match expL o (l.drop i) with | some p => .inr (x0, p) | none => .inl (ByteArray.mk #[], 60)) := by
  intro d
  induction d with
  | zero =>
    intro i f o hi hf ho
    cases f with
    | zero => omega
    | succ f =>
      simp only [F28_250, B28_250, iteP_eq]
      rw [ifF (by omega), List.drop_eq_nil_of_le (by omega)]
      rfl
  | succ d ih =>
    intro i f o hi hf ho
    cases f with
    | zero => omega
    | succ f =>
      have hil : i < l.length := by omega
      have hd : l.drop i = l[i] :: l.drop (i + 1) := List.drop_eq_getElem_cons hil
      have hva := valid_at hv hil
      rw [hd, made_cons] at ho
      have hw : IntKind.wrap .i64 ((i : Int) + 1) = ((i + 1 : Nat) : Int) := by rw [wrap_i64 (by omega) (by omega)]; omega
      have hli : l[i]? = some l[i] := List.getElem?_eq_getElem hil
      obtain ⟨mm1, mm2⟩ := madeT_le hva
      simp only [F28_250, B28_250, iteP_eq]
      rw [hd]
      rw [ifT (by omega), if_pos (within_nat hil), Int.toNat_natCast, hli, Option.bind_some, F71_valid, Option.bind_some, hva, if_neg (by simp), if_pos (within_nat hil), Option.bind_some, hw]
      unfold expL
      have hge : ∀ {b Ln D : Int} {u : Unit}, l[i] = (b, Ln, D, u) → l[i] = (b, Ln, D, u) := fun h => h
      generalize hte : l[i] = t at *
      obtain ⟨b, Ln, D, u⟩ := t
      rcases validT_spec hva with ⟨e1, e3, e4⟩ | ⟨e1, e3, e4, e5, e6⟩
      · have e1 : Ln = 0 := e1
        have e3 : 0 ≤ b := e3
        have e4 : b ≤ 255 := e4
        subst e1
        have hm1 : madeT (b, 0, D, u) = 1 := rfl
        have hx : expT o (b, 0, D, u) = some (o ++ [b]) := by unfold expT; rw [if_pos rfl]
        rw [hm1] at ho
        simp only
        rw [if_pos (by rfl), if_pos (within_nat hil), Option.bind_some]
        simp only
        rw [wrap_u8_id e3 e4, if_pos (by rw [decide_eq_true_eq, List.length_singleton]; omega), hx, ih (i + 1) f (o ++ [b]) (by omega) (by omega) (by rw [List.length_append, List.length_singleton]; omega), Option.bind_some]
        simp only
        cases expL (o ++ [b]) (l.drop (i + 1)) <;> rfl
      · have e1 : Ln ≠ 0 := e1
        have e3 : 3 ≤ Ln := e3
        have e4 : Ln ≤ 258 := e4
        have e5 : 1 ≤ D := e5
        have e6 : D ≤ 32768 := e6
        have hm1 : madeT (b, Ln, D, u) = Ln.toNat := by unfold madeT; rw [if_neg e1]
        rw [hm1] at ho
        simp only
        rw [if_neg (by simpa using e1), if_pos (within_nat hil), Option.bind_some]
        simp only
        by_cases hD : (o.length : Int) < D
        · have hx : expT o (b, Ln, D, u) = none := by unfold expT; rw [if_neg e1, if_pos hD]
          rw [if_pos (by simpa using hD), hx]
        · have hx : expT o (b, Ln, D, u) = some (copyN D.toNat Ln.toNat o) := by unfold expT; rw [if_neg e1, if_neg hD]
          have hc := F28_copy 200000 x0 l hil hte e5 e6 (by omega) e4 Ln.toNat 0 200000 o (by omega) (by omega) (by omega) (by omega)
          rw [show ((0 : Nat) : Int) = 0 from rfl] at hc
          rw [if_neg (by simpa using hD), hc, Option.bind_some, hx]
          simp only
          rw [hw, ih (i + 1) f _ (by omega) (by omega) (by rw [copyN_len]; omega), Option.bind_some]
          cases expL (copyN D.toNat Ln.toNat o) (l.drop (i + 1)) <;> rfl
def tailB (w : ByteArray) : ByteArray := if 32768 < w.size then w.extract (w.size - 32768) w.size else w
theorem tailB_size (w : ByteArray) : (tailB w).size = min w.size 32768 := by
  unfold tailB
  split
  · rw [ByteArray.size_extract]; omega
  · omega
theorem F70_tail (N : Nat) (w : ByteArray) (hw : w.size ≤ 1000000) : F70 N w = some (tailB w) := by
  simp only [F70, iteP_eq]
  unfold tailB
  by_cases h : 32768 < w.size
  · have e : IntKind.wrap .i64 ((w.size : Int) - 32768) = ((w.size - 32768 : Nat) : Int) := by rw [wrap_i64 (by omega) (by omega)]; omega
    rw [ifT (by omega), e, ifT (by omega), if_pos h, Int.toNat_natCast]
  · rw [ifF (by omega), if_neg h]
theorem bytesOf_len (s : ByteArray) : (bytesOf s).length = s.size := by rw [bytesOf_eq, List.length_map]; simp
def expD (w : ByteArray) (l : List Tok) : ByteArray × Int := match expL (bytesOf (tailB w)) l with
  | some p => (stringOf (p.drop (tailB w).size), 0)
  | none => (ByteArray.mk #[], 60)
theorem F28_expand (w : ByteArray) (hw : w.size ≤ 1000000) (l : List Tok) (hl : l.length ≤ 20000) (hv : validAll l = true) (hm : made l ≤ 8000000) : F28 200000 (w, l) = some (expD w l) := by
  have hs := tailB_size w
  have hb := bytesOf_len (tailB w)
  have h := F28_loop ((bytesOf (tailB w)).length : Int) l hl hv l.length 0 200000 (bytesOf (tailB w)) (by omega) (by omega) (by rw [List.drop_zero]; omega)
  rw [show ((0 : Nat) : Int) = 0 from rfl, List.drop_zero] at h
  simp only [F28, iteP_eq]
  rw [F70_tail _ w hw, Option.bind_some, if_pos (by rw [decide_eq_true_eq]; omega), List.nil_append, h, Option.bind_some]
  unfold expD
  cases hx : expL (bytesOf (tailB w)) l with
  | none => rfl
  | some p =>
    have hlen := expL_len hx
    simp only
    rw [ifT (by omega), Int.toNat_natCast, List.take_of_length_le (by rw [List.length_drop]; omega), hb]
theorem rd_last {a r : List Bool} (b : Bool) (hL : (a ++ ([b] ++ r)).length ≤ 1000000000) : F23 200000 (1, (a.length : Int), 0, a ++ ([b] ++ r)) = some ((b.toNat : Int), ((a.length + 1 : Nat) : Int), 0, a ++ ([b] ++ r)) :=
  rd_bit (by decide) _ _ hL b (by rw [List.getElem?_append_right (by omega), Nat.sub_self]; rfl)
theorem made_le {l : List Tok} (hv : validAll l = true) : made l ≤ 258 * l.length := by
  induction l with
  | nil => exact Nat.le_refl _
  | cons t l ih =>
    unfold validAll at hv ih
    rw [List.all_cons, Bool.and_eq_true] at hv
    have := ih hv.2
    have := madeT_le hv.1
    rw [made_cons, List.length_cons]
    omega
theorem F29_coded {l : List Tok} (hl : l.length ≤ 10000) (hv : validAll l = true) (own last : Bool) (w : ByteArray) (hw : w.size ≤ 1000000) (most : Int) (hm : (made l : Int) ≤ most) (hm0 : most ≤ 2000000000) (a r : List Bool)
    (hL : (a ++ (codedB l own last ++ r)).length ≤ 1000000000) :
    F29 200000 (w, most, (a.length : Int), 0, a ++ (codedB l own last ++ r)) =
      some (if (expD w l).2 = 0 then ((expD w l).1, last, (if own = true then 2 else 1), 0, ((a.length + (codedB l own last).length : Nat) : Int), 0, a ++ (codedB l own last ++ r)) else (ByteArray.mk #[], false, 0, (expD w l).2, ((a.length + (codedB l own last).length : Nat) : Int), 0, a ++ (codedB l own last ++ r))) := by
  have hmade := made_le hv
  have hE := F28_expand w hw l (by omega) hv (by omega)
  generalize expD w l = E at *
  generalize hQ : a ++ (codedB l own last ++ r) = Q at *
  have h2 : ∀ k, (putB 2 k).length = 2 := fun k => by rw [putB_length]; rfl
  have c2 : clampN 2 = 2 := rfl
  have hlast : ((last.toNat : Int) == 1) = last := by cases last <;> rfl
  cases own with
  | false =>
    have hC : codedB l false last = [last] ++ putB 2 1 ++ (docW fixL fixD l).2 := by unfold codedB; simp only [Bool.false_eq_true, if_false]
    have b1 : Q = a ++ ([last] ++ (putB 2 1 ++ ((docW fixL fixD l).2 ++ r))) := by rw [← hQ, hC]; simp only [List.append_assoc]
    have b2 : Q = (a ++ [last]) ++ (putB 2 1 ++ ((docW fixL fixD l).2 ++ r)) := by rw [b1]; simp only [List.append_assoc]
    have b3 : Q = (a ++ [last] ++ putB 2 1) ++ ((docW fixL fixD l).2 ++ r) := by rw [b1]; simp only [List.append_assoc]
    have r1 := rd_last (a := a) (r := putB 2 1 ++ ((docW fixL fixD l).2 ++ r)) last (by rw [← b1]; exact hL)
    rw [← b1] at r1
    have r2 := rd_put (N := 200000) (by decide) (a ++ [last]) ((docW fixL fixD l).2 ++ r) 2 1 (by rw [← b2]; exact hL)
    rw [← b2, c2, List.length_append, List.length_singleton] at r2
    have r3 := F74_read fixL_chk fixD_chk l hl hv (fix_ok hv) most hm hm0 (a ++ [last] ++ putB 2 1) r (by rw [← b3]; exact hL)
    rw [← b3, List.length_append, List.length_append, List.length_singleton, h2] at r3
    have hlen : a.length + 1 + 2 + (docW fixL fixD l).2.length = a.length + (codedB l false last).length := by rw [hC]; simp only [List.length_append, List.length_singleton, h2]; omega
    rw [hlen] at r3
    simp only [F29, F29_511, iteP_eq]
    rw [r1, Option.bind_some]
    simp only
    rw [r2, Option.bind_some, show (lowN 2 1 : Int) = 1 from rfl, hlast]
    simp only
    rw [if_neg (by simp), if_neg (by simp), if_neg (by simp), F73_fix, Option.bind_some, if_neg (by simp), r3, Option.bind_some]
    simp only
    rw [if_neg (by simp), if_neg (by simp), if_neg (by simp), hE, Option.bind_some]
    by_cases h0 : E.2 = 0
    · rw [if_neg (by simpa using h0), Option.bind_some, if_pos h0]
      rfl
    · rw [if_pos (by simpa using h0), Option.bind_some, if_neg h0]
  | true =>
    obtain ⟨o1, o2, o3, o4, _⟩ := own_ok hl hv
    have hC : codedB l true last = [last] ++ putB 2 2 ++ (hdB (ownLits l) (ownDists l) ++ (docW (ownLits l) (ownDists l) l).2) := by unfold codedB; simp only [if_true]
    have b1 : Q = a ++ ([last] ++ (putB 2 2 ++ (hdB (ownLits l) (ownDists l) ++ ((docW (ownLits l) (ownDists l) l).2 ++ r)))) := by rw [← hQ, hC]; simp only [List.append_assoc]
    have b2 : Q = (a ++ [last]) ++ (putB 2 2 ++ (hdB (ownLits l) (ownDists l) ++ ((docW (ownLits l) (ownDists l) l).2 ++ r))) := by rw [b1]; simp only [List.append_assoc]
    have b3 : Q = (a ++ [last] ++ putB 2 2) ++ (hdB (ownLits l) (ownDists l) ++ ((docW (ownLits l) (ownDists l) l).2 ++ r)) := by rw [b1]; simp only [List.append_assoc]
    have b4 : Q = (a ++ [last] ++ putB 2 2 ++ hdB (ownLits l) (ownDists l)) ++ ((docW (ownLits l) (ownDists l) l).2 ++ r) := by rw [b1]; simp only [List.append_assoc]
    have r1 := rd_last (a := a) (r := putB 2 2 ++ (hdB (ownLits l) (ownDists l) ++ ((docW (ownLits l) (ownDists l) l).2 ++ r))) last (by rw [← b1]; exact hL)
    rw [← b1] at r1
    have r2 := rd_put (N := 200000) (by decide) (a ++ [last]) (hdB (ownLits l) (ownDists l) ++ ((docW (ownLits l) (ownDists l) l).2 ++ r)) 2 2 (by rw [← b2]; exact hL)
    rw [← b2, c2, List.length_append, List.length_singleton] at r2
    have r3 := F24_header o1 (a ++ [last] ++ putB 2 2) ((docW (ownLits l) (ownDists l) l).2 ++ r) (by rw [← b3]; exact hL)
    rw [← b3, List.length_append, List.length_append, List.length_singleton, h2] at r3
    have r4 := F74_read o2 o3 l hl hv o4 most hm hm0 (a ++ [last] ++ putB 2 2 ++ hdB (ownLits l) (ownDists l)) r (by rw [← b4]; exact hL)
    rw [← b4, List.length_append, List.length_append, List.length_append, List.length_singleton, h2] at r4
    have hlen : a.length + 1 + 2 + (hdB (ownLits l) (ownDists l)).length + (docW (ownLits l) (ownDists l) l).2.length = a.length + (codedB l true last).length := by rw [hC]; simp only [List.length_append, List.length_singleton, h2]; omega
    rw [hlen] at r4
    have ht1 : List.take (ownLits l).length (ownLits l ++ ownDists l) = ownLits l := List.take_left
    have ht2 : List.take (ownDists l).length (List.drop (ownLits l).length (ownLits l ++ ownDists l)) = ownDists l := by rw [List.drop_left, List.take_length]
    simp only [F29, F29_511b, iteP_eq]
    rw [r1, Option.bind_some]
    simp only
    rw [r2, Option.bind_some, show (lowN 2 2 : Int) = 2 from rfl, hlast]
    simp only
    rw [if_neg (by simp), if_neg (by simp), if_neg (by simp), F73_fix, Option.bind_some, if_pos (by rfl), r3, Option.bind_some]
    simp only
    rw [if_neg (by simp), ht1, ht2, r4, Option.bind_some]
    simp only
    rw [if_neg (by simp), if_neg (by simp), if_neg (by simp), hE, Option.bind_some]
    by_cases h0 : E.2 = 0
    · rw [if_neg (by simpa using h0), Option.bind_some, if_pos h0]
      rfl
    · rw [if_pos (by simpa using h0), Option.bind_some, if_neg h0]
end Go.Proofs.YteddgkplkjldcaaGreat.Am
