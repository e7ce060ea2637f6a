/- Tokens written and read, and what they make: the Lean function that DeflateCoded comes to answers true at every input. -/
import Derived.Test.YteddgkplkjldcaaGreatSB
import Derived.Test.YteddgkplkjldcaaGreatAmC
import Derived.Test.YteddgkplkjldcaaGreatPA
import Derived.Test.YteddgkplkjldcaaGreatPB
set_option linter.unusedSimpArgs false
set_option linter.unusedVariables false
namespace Go.Proofs.YteddgkplkjldcaaGreat.Am
open Go.Am
def cM (tb : List Int) (n : Int) : Nat → Option Nat
  | 0 => none
  | i + 1 => if tb.getD i 0 ≤ n then some i else cM tb n i
theorem fc {tb : List Int} {n : Int} : ∀ {i j : Nat}, cM tb n i = some j → j < i ∧ tb.getD j 0 ≤ n ∧ ∀ k, j < k → k < i → n < tb.getD k 0
  | 0, j, h => by cases h
  | i + 1, j, h => by
    unfold cM at h
    split at h
    · cases h
      exact ⟨by omega, by assumption, fun k h1 h2 => by omega⟩
    · obtain ⟨h1, h2, h3⟩ := fc h
      refine ⟨by omega, h2, fun k k1 k2 => ?_⟩
      by_cases hk : k = i
      · subst hk; omega
      · exact h3 k k1 (by omega)
theorem kR {tb : List Int} {n : Int} : ∀ {i : Nat}, cM tb n i = none → ∀ k, k < i → n < tb.getD k 0
  | 0, h, k, hk => by omega
  | i + 1, h, k, hk => by
    unfold cM at h
    split at h
    · cases h
    · by_cases e : k = i
      · subst e; omega
      · exact kR h k (by omega)
def rk (G : Int → Option (Int × Int)) : Nat → (Int × Int × Int) → Option ((Int × Int × Int) ⊕ Unit)
  | 0, _ => none
  | k + 1, (x0, x1, x2) =>
    if (decide (x1 ≥ x0)) = true then
      Option.bind (G x1) fun y0 =>
      if (decide (Prod.fst y0 ≤ x2)) = true then
        some (.inl ((x1, IntKind.wrap IntKind.i64 (x2 - Prod.fst y0), Prod.snd y0)))
      else
        Option.bind (rk G k (x0, IntKind.wrap IntKind.i64 (x1 - (1 : Int)), x2)) fun r => match r with | .inl (y) => some (.inl (y)) | .inr (y) => some (.inr (y))
    else
      some (.inr (()))
theorem MA (N : Nat) : ∀ k x, gL N k x = rk (vW N) k x
  | 0, _ => rfl
  | k + 1, (x0, x1, x2) => by
    simp only [gL, wj, rk, MA N k, ae]
    rfl
theorem Mz (N : Nat) : ∀ k x, gI N k x = rk (vV N) k x
  | 0, _ => rfl
  | k + 1, (x0, x1, x2) => by
    simp only [gI, wh, rk, Mz N k, ae]
    rfl
def Tm (lb lx : List Int) (from_ n : Int) : Option Nat → (Int × Int × Int) ⊕ Unit
  | some j => .inl (from_ + j, n - lb.getD j 0, lx.getD j 0)
  | none => .inr ()
theorem nj {G : Int → Option (Int × Int)} {lb lx : List Int} {from_ n : Int} (hf : 0 ≤ from_ ∧ from_ ≤ 1000) (hn : -9223372036854775808 ≤ n ∧ n ≤ 9223372036854775807) : ∀ (i f : Nat), i ≤ 1000 → (∀ j, j < i → G (from_ + j) = some (lb.getD j 0, lx.getD j 0) ∧ 0 ≤ lb.getD j 0 ∧ lb.getD j 0 ≤ 200000) → i < f →
    rk G f (from_, from_ + i - 1, n) = some (Tm lb lx from_ n (cM lb n i))
  | 0, 0, _, _, h => by omega
  | i + 1, 0, _, _, h => by omega
  | 0, f + 1, _, hG, h => by
    simp only [rk]
    rw [aV (by omega)]
    rfl
  | i + 1, f + 1, hi, hG, h => by
    obtain ⟨g1, g2, g3⟩ := hG i (by omega)
    simp only [rk]
    have e : from_ + ((i + 1 : Nat) : Int) - 1 = from_ + i := by omega
    rw [e, aY (by omega), g1, Option.bind_some]
    simp only [cM]
    by_cases hl : lb.getD i 0 ≤ n
    · rw [if_pos (by simpa using hl), if_pos hl, wrap_i64 (by omega) (by omega)]
      rfl
    · rw [if_neg (by simpa using hl), if_neg hl, wrap_i64 (by omega) (by omega), nj hf hn i f (by omega) (fun j hj => hG j (by omega)) (by omega), Option.bind_some]
      cases cM lb n i <;> rfl
def cL : List Int := [3, 4, 5, 6, 7, 8, 9, 10, 11, 13, 15, 17, 19, 23, 27, 31, 35, 43, 51, 59, 67, 83, 99, 115, 131, 163, 195, 227, 258]
def iu : List Int := [0, 0, 0, 0, 0, 0, 0, 0, 1, 1, 1, 1, 2, 2, 2, 2, 3, 3, 3, 3, 4, 4, 4, 4, 5, 5, 5, 5, 0]
def cO : List Int := [1, 2, 3, 4, 5, 7, 9, 13, 17, 25, 33, 49, 65, 97, 129, 193, 257, 385, 513, 769, 1025, 1537, 2049, 3073, 4097, 6145, 8193, 12289, 16385, 24577]
def iw : List Int := [0, 0, 0, 0, 1, 1, 2, 2, 3, 3, 4, 4, 5, 5, 6, 6, 7, 7, 8, 8, 9, 9, 10, 10, 11, 11, 12, 12, 13, 13]
theorem Pm : (List.range 29).all (fun i => vW 200000 (257 + (i : Int)) == some (cL.getD i 0, iu.getD i 0)) = true := by kernel_rfl
theorem Pv : (List.range 30).all (fun i => vV 200000 (0 + (i : Int)) == some (cO.getD i 0, iw.getD i 0)) = true := by kernel_rfl
theorem Ma (i : Nat) (h : i < 29) : vW 200000 (257 + (i : Int)) = some (cL.getD i 0, iu.getD i 0) := by
  have := List.all_eq_true.1 Pm i (List.mem_range.2 h)
  simpa using this
theorem MI (i : Nat) (h : i < 30) : vV 200000 (0 + (i : Int)) = some (cO.getD i 0, iw.getD i 0) := by
  have := List.all_eq_true.1 Pv i (List.mem_range.2 h)
  simpa using this
theorem zh : ∀ i, i < 29 → 0 ≤ cL.getD i 0 ∧ cL.getD i 0 ≤ 200000 ∧ 3 ≤ cL.getD i 0 := by decide +kernel
theorem zt : ∀ i, i < 30 → 0 ≤ cO.getD i 0 ∧ cO.getD i 0 ≤ 200000 ∧ 1 ≤ cO.getD i 0 := by decide +kernel
def lenOf (n : Int) : Int × Int × Int := if n > 258 then (0, 0, 0) else match cM cL n 29 with
  | some j => (257 + j, n - cL.getD j 0, iu.getD j 0)
  | none => (0, 0, 0)
def cf (n : Int) : Int × Int × Int := if n > 32768 then (0, 0, 0) else match cM cO n 30 with
  | some j => (0 + j, n - cO.getD j 0, iw.getD j 0)
  | none => (0, 0, 0)
theorem Dw (n : Int) (hn : -9223372036854775808 ≤ n ∧ n ≤ 9223372036854775807) : J8 200000 n = some (lenOf n) := by
  unfold lenOf
  simp only [J8, ae]
  by_cases h : n > 258
  · rw [if_pos (by simpa using h), if_pos h]
  · rw [if_neg (by simpa using h), if_neg h]
    simp only [HH, MA, ae]
    have := nj (G := vW 200000) (lb := cL) (lx := iu) (from_ := 257) (n := n) (by omega) hn 29 200000 (by omega) (fun j hj => ⟨Ma j hj, (zh j hj).1, (zh j hj).2.1⟩) (by omega)
    rw [show (257 : Int) + ((29 : Nat) : Int) - 1 = 285 from rfl] at this
    rw [this, Option.bind_some]
    cases cM cL n 29 <;> rfl
theorem Dv (n : Int) (hn : -9223372036854775808 ≤ n ∧ n ≤ 9223372036854775807) : J7 200000 n = some (cf n) := by
  unfold cf
  simp only [J7, ae]
  by_cases h : n > 32768
  · rw [if_pos (by simpa using h), if_pos h]
  · rw [if_neg (by simpa using h), if_neg h]
    simp only [HG, Mz, ae]
    have := nj (G := vV 200000) (lb := cO) (lx := iw) (from_ := 0) (n := n) (by omega) hn 30 200000 (by omega) (fun j hj => ⟨MI j hj, (zt j hj).1, (zt j hj).2.1⟩) (by omega)
    rw [show (0 : Int) + ((30 : Nat) : Int) - 1 = 29 from rfl] at this
    rw [this, Option.bind_some]
    cases cM cO n 30 <;> rfl
def tx (lb lx : List Int) (sym first : Int) : Int × Int := if sym < first ∨ sym - first ≥ lb.length then (0, 0) else (lb.getD (sym - first).toNat 0, lx.getD (sym - first).toNat 0)
theorem Q3 (sym : Int) (hs : -9223372036854775808 ≤ sym ∧ sym ≤ 9223372036854775807) : vW 200000 sym = some (tx cL iu sym 257) := by
  unfold tx
  have hl : cL.length = 29 := rfl
  by_cases h : sym < 257
  · rw [if_pos (.inl h)]
    simp only [vW, ae]
    rw [if_neg (by simp; omega), if_pos (by simpa using h)]
  · by_cases h2 : sym - 257 ≥ cL.length
    · rw [if_pos (.inr h2)]
      simp only [vW, ae]
      rw [if_neg (by simp; omega), if_neg (by simpa using h), if_pos (by simp; omega)]
    · rw [if_neg (by omega)]
      obtain ⟨i, hi⟩ := Int.eq_ofNat_of_zero_le (show 0 ≤ sym - 257 by omega)
      rw [hi, Int.toNat_natCast, show sym = 257 + (i : Int) by omega]
      exact Ma i (by omega)
theorem Q2 (sym : Int) (hs : -9223372036854775808 ≤ sym ∧ sym ≤ 9223372036854775807) : vV 200000 sym = some (tx cO iw sym 0) := by
  unfold tx
  have hl : cO.length = 30 := rfl
  by_cases h : sym < 0
  · rw [if_pos (.inl h)]
    simp only [vV, ae]
    rw [if_pos (by simpa using h)]
  · by_cases h2 : sym - 0 ≥ cO.length
    · rw [if_pos (.inr h2)]
      simp only [vV, ae]
      rw [if_neg (by simpa using h), if_pos (by simp; omega)]
    · rw [if_neg (by omega)]
      obtain ⟨i, hi⟩ := Int.eq_ofNat_of_zero_le (show 0 ≤ sym - 0 by omega)
      rw [hi, Int.toNat_natCast, show sym = 0 + (i : Int) by omega]
      exact MI i (by omega)
abbrev Tok := Int × (Int × (Int × Unit))
def inT (n a b : Int) : Bool := decide (a ≤ n) && decide (n ≤ b)
def bo (b l d : Int) : Bool := if l = 0 then (decide (d = 0) && inT b 0 255) else (decide (b = 0) && (inT l 3 258 && inT d 1 32768))
theorem Uo (N : Nat) (n a b : Int) : Up N (n, a, b) = some (inT n a b) := by
  unfold inT
  simp only [Up, ae]
  by_cases h : a ≤ n <;> simp [h]
theorem mn (N : Nat) (b l d : Int) : RN N (b, l, d) = some (bo b l d) := by
  unfold bo
  simp only [RN, Uo, Option.bind_some, ae]
  by_cases h : l = 0
  · by_cases h2 : d = 0 <;> simp [h, h2]
  · by_cases h2 : b = 0
    · cases h3 : inT l 3 258 <;> simp [h, h2, h3]
    · simp [h, h2]
theorem cd {b l d : Int} (h : bo b l d = true) : (l = 0 ∧ 0 ≤ b ∧ b ≤ 255) ∨ (l ≠ 0 ∧ 3 ≤ l ∧ l ≤ 258 ∧ 1 ≤ d ∧ d ≤ 32768) := by
  unfold bo inT at h
  by_cases hl : l = 0
  · rw [if_pos hl] at h
    simp only [Bool.and_eq_true, decide_eq_true_eq] at h
    exact .inl ⟨hl, h.2⟩
  · rw [if_neg hl] at h
    simp only [Bool.and_eq_true, decide_eq_true_eq] at h
    exact .inr ⟨hl, h.2.1.1, h.2.1.2, h.2.2⟩
theorem kQ {n : Int} (h1 : 3 ≤ n) (h2 : n ≤ 258) : ∃ j : Nat, j < 29 ∧ lenOf n = (((257 : Int) + (j : Int), n - cL.getD j 0, iu.getD j 0) : Int × Int × Int) ∧ cM cL n 29 = some j := by
  unfold lenOf
  rw [if_neg (by omega)]
  cases h : cM cL n 29 with
  | none =>
    have := kR h 0 (by omega)
    have e : cL.getD 0 0 = 3 := rfl
    omega
  | some j => exact ⟨j, (fc h).1, rfl, rfl⟩
theorem kY {n : Int} (h1 : 1 ≤ n) (h2 : n ≤ 32768) : ∃ j : Nat, j < 30 ∧ cf n = (((0 : Int) + (j : Int), n - cO.getD j 0, iw.getD j 0) : Int × Int × Int) ∧ cM cO n 30 = some j := by
  unfold cf
  rw [if_neg (by omega)]
  cases h : cM cO n 30 with
  | none =>
    have := kR h 0 (by omega)
    have e : cO.getD 0 0 = 1 := rfl
    omega
  | some j => exact ⟨j, (fc h).1, rfl, rfl⟩
def Cn : List Int := (List.replicate 286 0).set 256 1
def t6 : List Int := List.replicate 30 0
theorem I2 : Cn.length = 286 := by unfold Cn; rw [List.length_set, List.length_replicate]
theorem EL : t6.length = 30 := by unfold t6; rw [List.length_replicate]
theorem QP (l : List Tok) : QQ 200000 l = Option.bind (fQ 200000 200000 (0, (l.length : Int), l, Cn, t6)) fun y0 => some (y0.1, y0.2) := by kernel_rfl
structure CntAt (a : List Int) (n k : Nat) (S : Nat → Prop) : Prop where
  len : a.length = n
  nn : ∀ s, s < n → 0 ≤ a.getD s 0 ∧ a.getD s 0 ≤ (k : Int)
  iff : ∀ s, s < n → (0 < a.getD s 0 ↔ S s)
theorem CntAt.inc {a : List Int} {n k : Nat} {S : Nat → Prop} (h : CntAt a n k S) (hk : k ≤ 20000) {s : Nat} (hs : s < n) : CntAt (a.set s (IntKind.wrap .i64 (a.getD s 0 + 1))) n (k + 1) (fun x => S x ∨ x = s) := by
  have hb := h.nn s hs
  have hl := h.len
  have hg : ∀ t, t < n → (a.set s (IntKind.wrap .i64 (a.getD s 0 + 1))).getD t 0 = if t = s then a.getD s 0 + 1 else a.getD t 0 := by
    intro t ht
    by_cases e : t = s
    · subst e
      rw [if_pos rfl, List.getD, List.getElem?_set_self (by omega), Option.getD_some, wrap_i64 (by omega) (by omega)]
    · rw [if_neg e, List.getD, List.getElem?_set_ne (by omega)]; rfl
  refine ⟨by simpa using hl, fun t ht => ?_, fun t ht => ?_⟩
  · rw [hg t ht]
    have := h.nn t ht
    split <;> omega
  · rw [hg t ht]
    by_cases e : t = s
    · subst e
      rw [if_pos rfl]
      exact ⟨fun _ => .inr rfl, fun _ => by omega⟩
    · rw [if_neg e, h.iff t ht]
      exact ⟨.inl, fun q => q.resolve_right e⟩
theorem CntAt.mono {a : List Int} {n k k' : Nat} {S S' : Nat → Prop} (h : CntAt a n k S) (hk : k ≤ k') (hS : ∀ s, s < n → (S s ↔ S' s)) : CntAt a n k' S' :=
  ⟨h.len, fun s hs => by have := h.nn s hs; omega, fun s hs => (h.iff s hs).trans (hS s hs)⟩
def dQ (t : Tok) : Nat := if t.2.1 = 0 then t.1.toNat else (lenOf t.2.1).1.toNat
def rO (t : Tok) : Option Nat := if t.2.1 = 0 then none else some (cf t.2.2.1).1.toNat
def az (l : List Tok) : Bool := l.all fun t => bo t.1 t.2.1 t.2.2.1
theorem eT {l : List Tok} (h : az l = true) {i : Nat} (hi : i < l.length) : bo l[i].1 l[i].2.1 l[i].2.2.1 = true :=
  List.all_eq_true.1 h _ (List.getElem_mem hi)
theorem CP (l : List Tok) (hl : l.length ≤ 10000) (hv : az l = true) : ∀ (d i f : Nat) (a b : List Int), i + d = l.length → d < f →
    CntAt a 286 (i + 1) (fun s => s = 256 ∨ ∃ j, ∃ h : j < l.length, j < i ∧ dQ l[j] = s) → CntAt b 30 (i + 1) (fun s => ∃ j, ∃ h : j < l.length, j < i ∧ rO l[j] = some s) →
    ∃ r : List Int × List Int, fQ 200000 f ((i : Int), (l.length : Int), l, a, b) = some r ∧
      CntAt r.1 286 10001 (fun s => s = 256 ∨ ∃ j, ∃ h : j < l.length, dQ l[j] = s) ∧ CntAt r.2 30 10001 (fun s => ∃ j, ∃ h : j < l.length, rO l[j] = some s) := by
  intro d
  induction d with
  | zero =>
    intro i f a b hi hf ha hb
    cases f with
    | zero => omega
    | succ f =>
      have hc : decide ((i : Int) < (l.length : Int)) = false := by simp only [decide_eq_false_iff_not]; omega
      simp only [fQ, sf, hc, Bool.false_eq_true, if_false, ae]
      refine ⟨(a, b), rfl, ha.mono (by omega) fun s _ => ?_, hb.mono (by omega) fun s _ => ?_⟩
      · exact ⟨fun h => h.imp id fun ⟨j, h, _, e⟩ => ⟨j, h, e⟩, fun h => h.imp id fun ⟨j, h, e⟩ => ⟨j, h, by omega, e⟩⟩
      · exact ⟨fun ⟨j, h, _, e⟩ => ⟨j, h, e⟩, fun ⟨j, h, e⟩ => ⟨j, h, by omega, e⟩⟩
  | succ d ih =>
    intro i f a b hi hf ha hb
    cases f with
    | zero => omega
    | succ f =>
      have hil : i < l.length := by omega
      have hli : l[i]? = some l[i] := List.getElem?_eq_getElem hil
      have hw : IntKind.wrap .i64 ((i : Int) + 1) = ((i + 1 : Nat) : Int) := by rw [wrap_i64 (by omega) (by omega)]; omega
      have hwi : within (i : Int) l.length = true := by unfold within; simp only [decide_eq_true_eq]; omega
      have hc : decide ((i : Int) < (l.length : Int)) = true := by simp only [decide_eq_true_eq]; omega
      have hva := eT hv hil
      have hla := ha.len
      have hlb := hb.len
      simp only [fQ, sf, hc, hwi, if_true, Int.toNat_natCast, hli, Option.bind_some, hw, mn, hva, Bool.not_true, Bool.false_eq_true, if_false, ae]
      -- what came till then, and this one
      have stepL : ∀ (s0 : Nat) (S : Nat → Prop), dQ l[i] = s0 → ∀ s, ((s = 256 ∨ ∃ j, ∃ h : j < l.length, j < i ∧ dQ l[j] = s) ∨ s = s0) ↔ (s = 256 ∨ ∃ j, ∃ h : j < l.length, j < i + 1 ∧ dQ l[j] = s) := by
        intro s0 _ e s
        constructor
        · rintro ((h | ⟨j, h1, h2, h3⟩) | h)
          · exact .inl h
          · exact .inr ⟨j, h1, by omega, h3⟩
          · exact .inr ⟨i, hil, by omega, by rw [e, h]⟩
        · rintro (h | ⟨j, h1, h2, h3⟩)
          · exact .inl (.inl h)
          · by_cases hj : j = i
            · subst hj; exact .inr (h3.symm.trans e)
            · exact .inl (.inr ⟨j, h1, by omega, h3⟩)
      rcases cd hva with ⟨h0, h1, h2⟩ | ⟨h0, h1, h2, h3, h4⟩
      · have e0 : (l[i].2.1 == (0 : Int)) = true := by simpa using h0
        have wB : within l[i].1 a.length = true := by unfold within; simp only [decide_eq_true_eq]; omega
        have gB : a[Int.toNat l[i].1]? = some (a.getD (Int.toNat l[i].1) 0) := get_at (by omega)
        have eS : dQ l[i] = Int.toNat l[i].1 := by unfold dQ; rw [if_pos h0]
        have eD : rO l[i] = none := by unfold rO; rw [if_pos h0]
        simp only [e0, if_true, wB, gB, Option.bind_some]
        obtain ⟨r, r1, r2⟩ := ih (i + 1) f (a.set (Int.toNat l[i].1) (IntKind.wrap .i64 (a.getD (Int.toNat l[i].1) 0 + 1))) b (by omega) (by omega)
          ((ha.inc (by omega) (by omega)).mono (Nat.le_refl _) fun s _ => stepL _ (fun _ => True) eS s)
          (hb.mono (by omega) fun s _ => ⟨fun ⟨j, h1, h2, h3⟩ => ⟨j, h1, by omega, h3⟩, fun ⟨j, h1, h2, h3⟩ => by
            by_cases hj : j = i
            · subst hj; rw [eD] at h3; cases h3
            · exact ⟨j, h1, by omega, h3⟩⟩)
        exact ⟨r, by rw [r1]; rfl, r2⟩
      · have e0 : ¬ (l[i].2.1 == (0 : Int)) = true := by simpa using h0
        obtain ⟨j, hj, ej, _⟩ := kQ h1 h2
        obtain ⟨k, hk, ek, _⟩ := kY h3 h4
        have wJ : within (257 + (j : Int)) a.length = true := by unfold within; simp only [decide_eq_true_eq]; omega
        have wK : within (0 + (k : Int)) b.length = true := by unfold within; simp only [decide_eq_true_eq]; omega
        have gJ : a[Int.toNat (257 + (j : Int))]? = some (a.getD (Int.toNat (257 + (j : Int))) 0) := get_at (by omega)
        have gK : b[Int.toNat (0 + (k : Int))]? = some (b.getD (Int.toNat (0 + (k : Int))) 0) := get_at (by omega)
        have eS : dQ l[i] = Int.toNat (257 + (j : Int)) := by unfold dQ; rw [if_neg h0, ej]
        have eD : rO l[i] = some (Int.toNat (0 + (k : Int))) := by unfold rO; rw [if_neg h0, ek]
        simp only [if_neg e0, Dw l[i].2.1 (by omega), Dv l[i].2.2.1 (by omega), Option.bind_some, ej, ek, wJ, wK, gJ, gK, if_true]
        obtain ⟨r, r1, r2⟩ := ih (i + 1) f (a.set (Int.toNat (257 + (j : Int))) (IntKind.wrap .i64 (a.getD (Int.toNat (257 + (j : Int))) 0 + 1))) (b.set (Int.toNat (0 + (k : Int))) (IntKind.wrap .i64 (b.getD (Int.toNat (0 + (k : Int))) 0 + 1))) (by omega) (by omega)
          ((ha.inc (by omega) (by omega)).mono (Nat.le_refl _) fun s _ => stepL _ (fun _ => True) eS s)
          ((hb.inc (by omega) (by omega)).mono (Nat.le_refl _) fun s _ => by
            constructor
            · rintro (⟨j, h1, h2, h3⟩ | h)
              · exact ⟨j, h1, by omega, h3⟩
              · exact ⟨i, hil, by omega, by rw [eD, h]⟩
            · rintro ⟨q, g1, g2, g3⟩
              by_cases hq : q = i
              · subst hq; rw [eD] at g3; exact .inr (Option.some.inj g3).symm
              · exact .inl ⟨q, g1, by omega, g3⟩)
        exact ⟨r, by rw [r1]; rfl, r2⟩
theorem vK (l : List Tok) (hl : l.length ≤ 10000) (hv : az l = true) : ∃ r : List Int × List Int, QQ 200000 l = some r ∧
    CntAt r.1 286 10001 (fun s => s = 256 ∨ ∃ j, ∃ h : j < l.length, dQ l[j] = s) ∧ CntAt r.2 30 10001 (fun s => ∃ j, ∃ h : j < l.length, rO l[j] = some s) := by
  have hL : ∀ s, s < 286 → Cn.getD s 0 = if s = 256 then 1 else 0 := by decide +kernel
  have hD : ∀ s, s < 30 → t6.getD s 0 = 0 := by decide +kernel
  obtain ⟨r, r1, r2⟩ := CP l hl hv l.length 0 200000 Cn t6 (by omega) (by omega)
    ⟨I2, fun s hs => by rw [hL s hs]; split <;> omega, fun s hs => by
      rw [hL s hs]
      by_cases e : s = 256
      · rw [if_pos e]; exact ⟨fun _ => .inl e, fun _ => by decide⟩
      · rw [if_neg e]; exact ⟨fun h => by omega, fun h => by rcases h with h | ⟨j, h1, h2, _⟩ <;> omega⟩⟩
    ⟨EL, fun s hs => by rw [hD s hs]; omega, fun s hs => by
      rw [hD s hs]; exact ⟨fun h => by omega, fun ⟨j, h1, h2, _⟩ => by omega⟩⟩
  rw [show ((0 : Nat) : Int) = 0 from rfl] at r1
  exact ⟨r, by rw [QP, r1]; rfl, r2⟩
def cS (C : List sa) (s : Nat) : Bool := decide (s < C.length) && !((C.getD s (0, 0, ())).2.1 == 0)
theorem J9 (N : Nat) (C : List sa) (x : List Int) (hx : x.length ≤ 1000) : ∀ (d i f : Nat), i + d = x.length → d < f →
    ((∀ s, i ≤ s → s < x.length → 0 < x.getD s 0 → cS C s = true) → fU N f ((x.length : Int), x, C, (i : Int)) = some (.inr ())) ∧
    ((∃ s, i ≤ s ∧ s < x.length ∧ 0 < x.getD s 0 ∧ cS C s = false) → fU N f ((x.length : Int), x, C, (i : Int)) = some (.inl false)) := by
  intro d
  induction d with
  | zero =>
    intro i f hi hf
    cases f with
    | zero => omega
    | succ f =>
      simp only [fU, so, ae]
      rw [aV (by omega)]
      exact ⟨fun _ => rfl, fun ⟨s, h1, h2, _⟩ => by omega⟩
  | succ d ih =>
    intro i f hi hf
    cases f with
    | zero => omega
    | succ f =>
      obtain ⟨ih1, ih2⟩ := ih (i + 1) f (by omega) (by omega)
      have hil : i < x.length := by omega
      have hw : IntKind.wrap .i64 ((i : Int) + 1) = ((i + 1 : Nat) : Int) := by rw [wrap_i64 (by omega) (by omega)]; omega
      have hwi : within (i : Int) x.length = true := by unfold within; simp only [decide_eq_true_eq]; omega
      have hc : decide ((i : Int) < (x.length : Int)) = true := by simp only [decide_eq_true_eq]; omega
      have hg := get_at hil
      simp only [fU, so, hc, hwi, hg, hw, Int.toNat_natCast, if_true, Option.bind_some, ae]
      by_cases h0 : 0 < x.getD i 0
      · rw [if_pos (by simpa using h0)]
        by_cases hlen : C.length ≤ i
        · rw [aY (by omega)]
          have hh : cS C i = false := by unfold cS; rw [decide_eq_false (by omega)]; rfl
          exact ⟨fun h => (by rw [h i (Nat.le_refl _) hil h0] at hh; cases hh), fun _ => rfl⟩
        · have hcg : C[i]? = some (C.getD i (0, 0, ())) := by rw [List.getD, List.getElem?_eq_getElem (by omega)]; rfl
          have hwc : within (i : Int) C.length = true := by unfold within; simp only [decide_eq_true_eq]; omega
          rw [aV (by omega)]
          simp only [hwc, hcg, if_true, Option.bind_some]
          by_cases hz : ((C.getD i (0, 0, ())).2.1 == 0) = true
          · rw [if_pos hz]
            have hh : cS C i = false := by unfold cS; rw [hz, decide_eq_true (by omega)]; rfl
            exact ⟨fun h => (by rw [h i (Nat.le_refl _) hil h0] at hh; cases hh), fun _ => rfl⟩
          · rw [if_neg hz]
            have hh : cS C i = true := by unfold cS; rw [decide_eq_true (by omega)]; simpa using hz
            refine ⟨fun h => ?_, fun ⟨s, h1, h2, h3, h4⟩ => ?_⟩
            · rw [ih1 fun s h1 h2 h3 => h s (by omega) h2 h3]; rfl
            · rw [ih2 ⟨s, by
                by_cases e : s = i
                · subst e; rw [hh] at h4; cases h4
                · omega, h2, h3, h4⟩]; rfl
      · rw [if_neg (by simpa using h0)]
        refine ⟨fun h => ?_, fun ⟨s, h1, h2, h3, h4⟩ => ?_⟩
        · rw [ih1 fun s h1 h2 h3 => h s (by omega) h2 h3]; rfl
        · rw [ih2 ⟨s, by
            by_cases e : s = i
            · subst e; exact absurd h3 h0
            · omega, h2, h3, h4⟩]; rfl
theorem Dx (C : List sa) (x : List Int) (hx : x.length ≤ 1000) : ∃ b, Ka 200000 (C, x) = some b ∧ (b = true ↔ ∀ s, s < x.length → 0 < x.getD s 0 → cS C s = true) := by
  simp only [Ka, ae]
  obtain ⟨h1, h2⟩ := J9 200000 C x hx x.length 0 200000 (by omega) (by omega)
  rw [show ((0 : Nat) : Int) = 0 from rfl] at h1 h2
  by_cases h : ∀ s, s < x.length → 0 < x.getD s 0 → cS C s = true
  · rw [h1 fun s _ => h s, Option.bind_some]
    exact ⟨true, rfl, fun _ => h, fun _ => rfl⟩
  · have : ∃ s, 0 ≤ s ∧ s < x.length ∧ 0 < x.getD s 0 ∧ cS C s = false := by
      refine Classical.byContradiction fun hn => h fun s a b => ?_
      cases hh : cS C s with
      | true => rfl
      | false => exact absurd ⟨s, Nat.zero_le _, a, b, hh⟩ hn
    rw [h2 this, Option.bind_some]
    exact ⟨false, rfl, ⟨fun e => (by cases e), fun e => absurd e h⟩⟩
def at_ (C : List sa) (s : Nat) : sa := C.getD s (0, 0, ())
def iB (A B : List sa) (t : Tok) : List Bool :=
  if t.2.1 = 0 then aI (at_ A (dQ t)) else
    aI (at_ A (dQ t)) ++ aG (lenOf t.2.1).2.2 (lenOf t.2.1).2.1 ++ aI (at_ B (cf t.2.2.1).1.toNat) ++ aG (cf t.2.2.1).2.2 (cf t.2.2.1).2.1
def mJ (A B : List sa) (t : Tok) : Bool := cS A (dQ t) && (decide (t.2.1 = 0) || cS B (cf t.2.2.1).1.toNat)
theorem KJ (A B : List sa) (t : Tok) : (iB A B t).length ≤ 128 := by
  have h1 := cp (at_ A (dQ t))
  have h2 := cp (at_ B (cf t.2.2.1).1.toNat)
  have h3 := am (lenOf t.2.1).2.2 (lenOf t.2.1).2.1
  have h4 := am (cf t.2.2.1).2.2 (cf t.2.2.1).2.1
  have h5 := bG (lenOf t.2.1).2.2
  have h6 := bG (cf t.2.2.1).2.2
  unfold iB
  split
  · omega
  · simp only [List.length_append]; omega
def dr (A B : List sa) (l : List Tok) (i : Nat) : List Bool := (l.take i).flatMap (iB A B)
theorem rz (A B : List sa) (l : List Tok) {i : Nat} (h : i < l.length) : dr A B l (i + 1) = dr A B l i ++ iB A B l[i] := by
  unfold dr
  rw [List.take_add_one, List.getElem?_eq_getElem h, List.flatMap_append]
  simp
theorem jH (A B : List sa) (l : List Tok) : ∀ i, i ≤ l.length → (dr A B l i).length ≤ 128 * i
  | 0, _ => by simp [dr]
  | i + 1, h => by
    have h1 := jH A B l i (by omega)
    have h2 := KJ A B l[i]
    rw [rz A B l (by omega), List.length_append]
    omega
theorem Jf (A B : List sa) (hA : A.length ≤ 1000) (hB : B.length ≤ 1000) (l : List Tok) (hl : l.length ≤ 10000) (hv : az l = true) (ho : ∀ i (h : i < l.length), mJ A B l[i] = true) (m : List Bool) (hm : m.length ≤ 100000000) :
    ∀ (d i f : Nat), i + d = l.length → d < f →
    fj 200000 f ((i : Int), (l.length : Int), l, aJ (m ++ dr A B l i), nF (m ++ dr A B l i), B, A, bF (m ++ dr A B l i)) =
      some (aJ (m ++ dr A B l l.length), nF (m ++ dr A B l l.length), A, bF (m ++ dr A B l l.length)) := by
  intro d
  induction d with
  | zero =>
    intro i f hi hf
    cases f with
    | zero => omega
    | succ f =>
      simp only [fj, pj, ae]
      rw [aV (by omega), show i = l.length by omega]
  | succ d ih =>
    intro i f hi hf
    cases f with
    | zero => omega
    | succ f =>
      have hil : i < l.length := by omega
      have ih' := ih (i + 1) f (by omega) (by omega)
      have hli : l[i]? = some l[i] := List.getElem?_eq_getElem hil
      have hw : IntKind.wrap .i64 ((i : Int) + 1) = ((i + 1 : Nat) : Int) := by rw [wrap_i64 (by omega) (by omega)]; omega
      have hwi : within (i : Int) l.length = true := by unfold within; simp only [decide_eq_true_eq]; omega
      have hc : decide ((i : Int) < (l.length : Int)) = true := by simp only [decide_eq_true_eq]; omega
      have hva := eT hv hil
      have hok := ho i hil
      have hbl := jH A B l i (by omega)
      have hbt : (m ++ dr A B l i).length ≤ 200000000 := by rw [List.length_append]; omega
      rw [rz A B l hil, ← List.append_assoc] at ih'
      simp only [fj, pj, hc, hwi, if_true, Int.toNat_natCast, hli, Option.bind_some, hw, ae]
      generalize m ++ dr A B l i = q at *
      generalize l[i] = t at *
      obtain ⟨b, L, D, u⟩ := t
      unfold mJ at hok
      simp only [Bool.and_eq_true, Bool.or_eq_true, decide_eq_true_eq] at hok
      obtain ⟨ok1, ok2⟩ := hok
      have gA : ∀ s, cS A s = true → within (s : Int) A.length = true ∧ A[s]? = some (at_ A s) := fun s h => by
        unfold cS at h
        simp only [Bool.and_eq_true, decide_eq_true_eq] at h
        exact ⟨by unfold within; simp only [decide_eq_true_eq]; omega, by unfold at_; rw [List.getD, List.getElem?_eq_getElem h.1]; rfl⟩
      have gB : ∀ s, cS B s = true → within (s : Int) B.length = true ∧ B[s]? = some (at_ B s) := fun s h => by
        unfold cS at h
        simp only [Bool.and_eq_true, decide_eq_true_eq] at h
        exact ⟨by unfold within; simp only [decide_eq_true_eq]; omega, by unfold at_; rw [List.getD, List.getElem?_eq_getElem h.1]; rfl⟩
      obtain ⟨a1, a2⟩ := gA _ ok1
      have cl1 := cp (at_ A (dQ (b, L, D, u)))
      rcases cd hva with ⟨h0, h1, h2⟩ | ⟨h0, h1, h2, h3, h4⟩
      · have h0 : L = 0 := h0
        have h1 : 0 ≤ b := h1
        have e0 : (L == (0 : Int)) = true := by simpa using h0
        have eS : dQ (b, L, D, u) = b.toNat := by unfold dQ; rw [if_pos h0]
        have eb : ((b.toNat : Nat) : Int) = b := by omega
        have et : iB A B (b, L, D, u) = aI (at_ A b.toNat) := by unfold iB; rw [if_pos h0, eS]
        rw [eS, eb] at a1
        rw [eS] at a2 cl1
        rw [et] at ih'
        simp only [e0, if_true, a1, a2, Option.bind_some]
        rw [lD (by decide) q (by omega), Option.bind_some, ih', Option.bind_some]
      · have h0 : L ≠ 0 := h0
        have h1 : 3 ≤ L := h1
        have h2 : L ≤ 258 := h2
        have h3 : 1 ≤ D := h3
        have h4 : D ≤ 32768 := h4
        have e0 : ¬ (L == (0 : Int)) = true := by simpa using h0
        obtain ⟨j, hj, ej, _⟩ := kQ h1 h2
        obtain ⟨k, hk, ek, _⟩ := kY h3 h4
        have eS : dQ (b, L, D, u) = (lenOf L).1.toNat := by unfold dQ; rw [if_neg h0]
        have ok2' : cS B (cf D).1.toNat = true := ok2.resolve_left h0
        obtain ⟨b1, b2⟩ := gB _ ok2'
        have eb : (((lenOf L).1.toNat : Nat) : Int) = (lenOf L).1 := by rw [ej]; simp only; omega
        have ed : (((cf D).1.toNat : Nat) : Int) = (cf D).1 := by rw [ek]; simp only; omega
        have cl2 := cp (at_ B (cf D).1.toNat)
        have p1 := am (lenOf L).2.2 (lenOf L).2.1
        have p2 := am (cf D).2.2 (cf D).2.1
        have p3 := bG (lenOf L).2.2
        have p4 := bG (cf D).2.2
        rw [eS, eb] at a1
        rw [eS] at a2 cl1
        rw [ed] at b1
        have et : iB A B (b, L, D, u) = aI (at_ A (lenOf L).1.toNat) ++ aG (lenOf L).2.2 (lenOf L).2.1 ++ aI (at_ B (cf D).1.toNat) ++ aG (cf D).2.2 (cf D).2.1 := by unfold iB; rw [if_neg h0, eS]
        rw [et, ← List.append_assoc, ← List.append_assoc, ← List.append_assoc] at ih'
        simp only [if_neg e0, Dw L (by omega), Dv D (by omega), Option.bind_some, a1, a2, b1, b2, if_true]
        rw [lD (by decide) q (by omega), Option.bind_some, bd (by decide) _ (by rw [List.length_append]; omega), Option.bind_some, lD (by decide) _ (by simp only [List.length_append]; omega), Option.bind_some, bd (by decide) _ (by simp only [List.length_append]; omega), Option.bind_some, ih', Option.bind_some]
theorem Bt (l : List Tok) (hl : l.length ≤ 10000) (x2 x3 : List Int) (x6 x7 : Int) (x8 : List Int) : ∀ (d i f : Nat), i + d = l.length → d < f →
    ((∀ j (h : j < l.length), i ≤ j → bo l[j].1 l[j].2.1 l[j].2.2.1 = true) → ix 200000 f ((l.length : Int), l, x2, x3, l, (i : Int), x6, x7, x8) = some (.inr (x3, x2, l, x6, x7, x8))) ∧
    ((∃ j, ∃ h : j < l.length, i ≤ j ∧ bo l[j].1 l[j].2.1 l[j].2.2.1 = false) → ix 200000 f ((l.length : Int), l, x2, x3, l, (i : Int), x6, x7, x8) = some (.inl (1, x6, x7, x8))) := by
  intro d
  induction d with
  | zero =>
    intro i f hi hf
    cases f with
    | zero => omega
    | succ f =>
      simp only [ix, Bg, ae]
      rw [aV (by omega)]
      exact ⟨fun _ => rfl, fun ⟨j, h1, h2, _⟩ => by omega⟩
  | succ d ih =>
    intro i f hi hf
    cases f with
    | zero => omega
    | succ f =>
      have hil : i < l.length := by omega
      obtain ⟨ih1, ih2⟩ := ih (i + 1) f (by omega) (by omega)
      have hli : l[i]? = some l[i] := List.getElem?_eq_getElem hil
      have hw : IntKind.wrap .i64 ((i : Int) + 1) = ((i + 1 : Nat) : Int) := by rw [wrap_i64 (by omega) (by omega)]; omega
      have hwi : within (i : Int) l.length = true := by unfold within; simp only [decide_eq_true_eq]; omega
      have hc : decide ((i : Int) < (l.length : Int)) = true := by simp only [decide_eq_true_eq]; omega
      simp only [ix, Bg, hc, hwi, if_true, Int.toNat_natCast, hli, Option.bind_some, hw, mn, ae]
      cases hv : bo l[i].1 l[i].2.1 l[i].2.2.1 with
      | false =>
        simp only [Bool.not_false, if_true]
        exact ⟨fun h => (by have := h i hil (Nat.le_refl _); rw [hv] at this; cases this), fun _ => by first | rfl | trivial⟩
      | true =>
        simp only [Bool.not_true, Bool.false_eq_true, if_false]
        refine ⟨fun h => by rw [ih1 fun j h1 h2 => h j h1 (by omega)]; rfl, fun ⟨j, h1, h2, h3⟩ => ?_⟩
        rw [ih2 ⟨j, h1, by
          by_cases e : j = i
          · subst e; rw [hv] at h3; cases h3
          · omega, h3⟩]
        rfl
def iZ (A B : List sa) (l : List Tok) : Bool := cS A 256 && l.all (mJ A B)
def gz (lits dists : List Int) (l : List Tok) : Int × List Bool :=
  bif !az l then (1, []) else
  bif (chk lits).2 != 0 || (chk dists).2 != 0 then (50, []) else
  bif iZ (af lits) (af dists) l then (0, dr (af lits) (af dists) l l.length ++ aI (at_ (af lits) 256)) else (50, [])
theorem nO {l : List Tok} (h : az l = true) : ∀ j (h : j < l.length), 0 ≤ j → bo l[j].1 l[j].2.1 l[j].2.2.1 = true := fun j hj _ => eT h hj
theorem PD {α : Type} {p : α → Bool} {l : List α} (h : l.all p = false) : ∃ j, ∃ h : j < l.length, 0 ≤ j ∧ p l[j] = false := by
  refine Classical.byContradiction fun hn => ?_
  have : l.all p = true := List.all_eq_true.2 fun x hx => by
    obtain ⟨j, hj, rfl⟩ := List.getElem_of_mem hx
    cases hp : p l[j] with
    | true => rfl
    | false => exact absurd ⟨j, hj, Nat.zero_le _, hp⟩ hn
  rw [h] at this; cases this
theorem Da (lits dists : List Int) (l : List Tok) (hl : l.length ≤ 10000) (m : List Bool) (hm : m.length ≤ 100000000) :
    UQ 200000 (lits, dists, l, aJ m, nF m, bF m) = some ((gz lits dists l).1, aJ (m ++ (gz lits dists l).2), nF (m ++ (gz lits dists l).2), bF (m ++ (gz lits dists l).2)) := by
  obtain ⟨v1, v2⟩ := Bt l hl dists lits (aJ m) (nF m) (bF m) l.length 0 200000 (by omega) (by omega)
  rw [show ((0 : Nat) : Int) = 0 from rfl] at v1 v2
  unfold gz
  simp only [UQ, ae]
  cases hv : az l with
  | false =>
    rw [v2 (PD hv), Option.bind_some]
    simp only [Bool.not_false, cond_true, List.append_nil]
  | true =>
    rw [v1 (nO hv), Option.bind_some]
    simp only [Bool.not_true, cond_false]
    obtain ⟨r, r1, c1, c2⟩ := vK l hl hv
    rw [qK (by decide), Option.bind_some, qK (by decide), Option.bind_some, r1, Option.bind_some]
    by_cases e1 : (chk lits).2 = 0
    · by_cases e2 : (chk dists).2 = 0
      · obtain ⟨a1, a2⟩ := dq e1
        obtain ⟨b1, b2⟩ := dq e2
        have hA := ci lits
        have hB := ci dists
        have ee : ((chk lits).2 != 0 || (chk dists).2 != 0) = false := by rw [e1, e2]; rfl
        rw [ee, if_pos e1, if_pos e2]
        simp only [cond_false]
        obtain ⟨p, p1, p2⟩ := Dx (af lits) r.1 (by have := c1.len; omega)
        obtain ⟨q, q1, q2⟩ := Dx (af dists) r.2 (by have := c2.len; omega)
        have l1 := c1.len
        have l2 := c2.len
        -- codes of all that come
        have hp : p = true ↔ (cS (af lits) 256 = true ∧ ∀ j (h : j < l.length), cS (af lits) (dQ l[j]) = true) := by
          rw [p2]
          constructor
          · intro h
            refine ⟨h 256 (by omega) ((c1.iff 256 (by omega)).2 (.inl rfl)), fun j hj => ?_⟩
            have hva := eT hv hj
            have hs : dQ l[j] < 286 := by
              unfold dQ
              rcases cd hva with ⟨h0, h1, h2⟩ | ⟨h0, h1, h2, h3, h4⟩
              · rw [if_pos h0]; omega
              · obtain ⟨k, hk, ek, _⟩ := kQ h1 h2
                rw [if_neg h0, ek]; simp only; omega
            exact h _ (by omega) ((c1.iff _ hs).2 (.inr ⟨j, hj, rfl⟩))
          · rintro ⟨g1, g2⟩ s hs hp
            rcases (c1.iff s (by omega)).1 hp with h | ⟨j, hj, h⟩
            · rw [h]; exact g1
            · rw [← h]; exact g2 j hj
        have hq : q = true ↔ ∀ j (h : j < l.length), l[j].2.1 = 0 ∨ cS (af dists) (cf l[j].2.2.1).1.toNat = true := by
          rw [q2]
          constructor
          · intro h j hj
            have hva := eT hv hj
            rcases cd hva with ⟨h0, h1, h2⟩ | ⟨h0, h1, h2, h3, h4⟩
            · exact .inl h0
            · obtain ⟨k, hk, ek, _⟩ := kY h3 h4
              have hs : (cf l[j].2.2.1).1.toNat < 30 := by rw [ek]; simp only; omega
              exact .inr (h _ (by omega) ((c2.iff _ hs).2 ⟨j, hj, by unfold rO; rw [if_neg h0]⟩))
          · intro g s hs hp
            obtain ⟨j, hj, h⟩ := (c2.iff s (by omega)).1 hp
            unfold rO at h
            split at h
            · cases h
            · rename_i h0
              cases h
              exact (g j hj).resolve_left h0
        have hall : (p && q) = iZ (af lits) (af dists) l := by
          have key : (p && q) = true ↔ iZ (af lits) (af dists) l = true := by
            unfold iZ
            rw [Bool.and_eq_true, Bool.and_eq_true, hp, hq, List.all_eq_true]
            constructor
            · rintro ⟨⟨g1, g2⟩, g3⟩
              refine ⟨g1, fun x hx => ?_⟩
              obtain ⟨j, hj, rfl⟩ := List.getElem_of_mem hx
              unfold mJ
              rw [g2 j hj, Bool.true_and, Bool.or_eq_true, decide_eq_true_eq]
              exact g3 j hj
            · rintro ⟨g1, g2⟩
              refine ⟨⟨g1, fun j hj => ?_⟩, fun j hj => ?_⟩ <;> have := g2 _ (List.getElem_mem hj) <;> unfold mJ at this <;> rw [Bool.and_eq_true, Bool.or_eq_true, decide_eq_true_eq] at this
              · exact this.1
              · exact this.2
          cases h1 : (p && q) <;> cases h2 : iZ (af lits) (af dists) l <;> simp_all
        rw [← hall]
        rw [if_neg (by decide), if_neg (by decide), p1, Option.bind_some]
        cases p with
        | false =>
          simp only [Bool.not_false, if_true, Bool.false_and, cond_false, List.append_nil]
        | true =>
          simp only [Bool.not_true, Bool.false_eq_true, if_false, Bool.true_and]
          rw [q1, Option.bind_some]
          cases q with
          | false =>
            simp only [Bool.not_false, if_true, cond_false, List.append_nil]
          | true =>
            simp only [Bool.not_true, Bool.false_eq_true, if_false, cond_true]
            have ho : ∀ i (h : i < l.length), mJ (af lits) (af dists) l[i] = true := fun i hi => by
              unfold mJ
              rw [(hp.1 rfl).2 i hi, Bool.true_and, Bool.or_eq_true, decide_eq_true_eq]
              exact hq.1 rfl i hi
            have hcl := Jf (af lits) (af dists) (by omega) (by omega) l hl hv ho m hm l.length 0 200000 (by omega) (by omega)
            rw [show ((0 : Nat) : Int) = 0 from rfl, show dr (af lits) (af dists) l 0 = [] from rfl, List.append_nil] at hcl
            rw [hcl, Option.bind_some]
            have g256 := (hp.1 rfl).1
            unfold cS at g256
            simp only [Bool.and_eq_true, decide_eq_true_eq] at g256
            have hw : within (256 : Int) (af lits).length = true := by unfold within; simp only [decide_eq_true_eq]; omega
            have hg : (af lits)[256]? = some (at_ (af lits) 256) := by unfold at_; rw [List.getD, List.getElem?_eq_getElem g256.1]; rfl
            have hbl := jH (af lits) (af dists) l l.length (Nat.le_refl _)
            simp only [hw, if_true, hg, Option.bind_some]
            rw [lD (by decide) _ (by rw [List.length_append]; omega), Option.bind_some, List.append_assoc]
      · have ee : ((chk lits).2 != 0 || (chk dists).2 != 0) = true := by simp [e2]
        rw [ee, if_pos e1, if_neg e2]
        simp only [cond_true, List.append_nil]
        rw [if_neg (by decide), if_pos (by simpa using e2)]
    · have ee : ((chk lits).2 != 0 || (chk dists).2 != 0) = true := by simp [e1]
      rw [ee, if_neg e1]
      simp only [cond_true, List.append_nil]
      rw [if_pos (by simpa using e1)]
theorem CL (lits dists : List Int) (l : List Tok) (hl : l.length ≤ 10000) : (gz lits dists l).2.length ≤ 1280032 := by
  have hbl := jH (af lits) (af dists) l l.length (Nat.le_refl _)
  have cl := cp (at_ (af lits) 256)
  unfold gz
  cases az l <;> cases ((chk lits).2 != 0 || (chk dists).2 != 0) <;> cases iZ (af lits) (af dists) l <;> simp only [Bool.not_true, Bool.not_false, cond_true, cond_false, List.length_nil, List.length_append] <;> omega
def cC (t : Tok) : Nat := if t.2.1 = 0 then 1 else t.2.1.toNat
def made (l : List Tok) : Nat := (l.map cC).sum
theorem Mj {lens : List Int} {s : Nat} (h : cS (af lens) s = true) (hk : okB lens = true) : s < lens.length ∧ 0 < lens.getD s 0 ∧ at_ (af lens) s = bX lens s := by
  unfold cS at h
  rw [Bool.and_eq_true, decide_eq_true_eq, ci] at h
  obtain ⟨h1, h2⟩ := h
  have e : at_ (af lens) s = bX lens s := by unfold at_; rw [List.getD, gD lens h1]; rfl
  unfold at_ at e
  rw [e, fZ] at h2
  obtain ⟨g1, g2⟩ := yY hk h1
  refine ⟨h1, ?_, e⟩
  refine Classical.byContradiction fun hn => ?_
  rw [if_neg hn] at h2
  exact absurd h2 (by decide)
theorem oC {t : Tok} (h : bo t.1 t.2.1 t.2.2.1 = true) : 1 ≤ cC t ∧ cC t ≤ 258 := by
  unfold cC
  rcases cd h with ⟨e, _⟩ | ⟨e, a, b, _⟩
  · rw [if_pos e]; omega
  · rw [if_neg e]; omega
def pZ : List Int := List.replicate 144 8 ++ List.replicate 112 9 ++ List.replicate 24 7 ++ List.replicate 8 8
def p6 : List Int := List.replicate 30 5
theorem r9 : Xq 200000 () = some (pZ, p6) := by kernel_rfl
theorem Cz : (chk pZ).2 = 0 := by decide +kernel
theorem CB : (chk p6).2 = 0 := by decide +kernel
theorem Mv : pZ.length = 288 := by decide +kernel
theorem Mx : p6.length = 30 := by decide +kernel
theorem Mu : ∀ s, s < 286 → 0 < pZ.getD s 0 := by decide +kernel
theorem Mw : ∀ s, s < 30 → 0 < p6.getD s 0 := by decide +kernel
theorem oG {lens : List Int} {s : Nat} (h : s < lens.length) (h0 : 0 < lens.getD s 0) : cS (af lens) s = true := by
  unfold cS
  rw [Bool.and_eq_true, decide_eq_true_eq, ci]
  refine ⟨h, ?_⟩
  rw [List.getD, gD lens h, fZ, if_pos h0]
  simp only [Option.getD_some, Bool.not_eq_true', beq_eq_false_iff_ne]
  omega
theorem C5 {A B : List sa} {l : List Tok} (hv : az l = true) (hA : ∀ s, s < 286 → (s = 256 ∨ ∃ j, ∃ h : j < l.length, dQ l[j] = s) → cS A s = true)
    (hB : ∀ s, s < 30 → (∃ j, ∃ h : j < l.length, rO l[j] = some s) → cS B s = true) : iZ A B l = true := by
  unfold iZ
  rw [Bool.and_eq_true, List.all_eq_true]
  refine ⟨hA 256 (by omega) (.inl rfl), fun t ht => ?_⟩
  obtain ⟨j, hj, rfl⟩ := List.getElem_of_mem ht
  have hva := eT hv hj
  have eA : dQ l[j] < 286 → cS A (dQ l[j]) = true := fun h => hA _ h (.inr ⟨j, hj, rfl⟩)
  have eB : ∀ s, s < 30 → rO l[j] = some s → cS B s = true := fun s h e => hB s h ⟨j, hj, e⟩
  generalize l[j] = t at *
  obtain ⟨b, L, D, u⟩ := t
  unfold mJ
  rw [Bool.and_eq_true, Bool.or_eq_true, decide_eq_true_eq]
  rcases cd hva with ⟨e1, e3, e4⟩ | ⟨e1, e3, e4, e5, e6⟩
  · have e1 : L = 0 := e1
    have e3 : 0 ≤ b := e3
    have e4 : b ≤ 255 := e4
    exact ⟨eA (by unfold dQ; rw [if_pos e1]; simp only; omega), .inl e1⟩
  · have e1 : L ≠ 0 := e1
    have e3 : 3 ≤ L := e3
    have e4 : L ≤ 258 := e4
    have e5 : 1 ≤ D := e5
    have e6 : D ≤ 32768 := e6
    obtain ⟨j, hj, ej, lj⟩ := kQ e3 e4
    obtain ⟨k, hk, ek, lk⟩ := kY e5 e6
    exact ⟨eA (by unfold dQ; rw [if_neg e1]; simp only [ej]; omega), .inr (eB _ (by simp only [ek]; omega) (by unfold rO; rw [if_neg e1]))⟩
theorem Mt {l : List Tok} (hv : az l = true) : iZ (af pZ) (af p6) l = true :=
  C5 hv (fun s h _ => oG (by rw [Mv]; omega) (Mu s h)) (fun s h _ => oG (by rw [Mx]; omega) (Mw s h))
def gl (l : List Int) (least : Nat) : Nat → Nat
  | 0 => 0
  | n + 1 => if n + 1 > least then (if l.getD n 0 = 0 then gl l least n else n + 1) else n + 1
theorem nR (l : List Int) (least : Nat) : ∀ n, gl l least n ≤ n
  | 0 => Nat.le_refl _
  | n + 1 => by
    unfold gl
    have := nR l least n
    split
    · split <;> omega
    · omega
theorem Bw (l : List Int) (least : Nat) : ∀ n, least ≤ n → least ≤ gl l least n
  | 0, h => h
  | n + 1, h => by
    unfold gl
    split
    · split
      · exact Bw l least n (by omega)
      · omega
    · omega
theorem sw (l : List Int) (least : Nat) : ∀ n i, gl l least n ≤ i → i < n → l.getD i 0 = 0
  | 0, i, _, h => by omega
  | n + 1, i, h1, h2 => by
    unfold gl at h1
    split at h1
    · split at h1
      · by_cases e : i = n
        · subst e; assumption
        · exact sw l least n i h1 (by omega)
      · omega
    · omega
theorem NY (N : Nat) (l : List Int) (hl : l.length ≤ 1000) (least : Nat) (hle : least ≤ 1000) : ∀ (n f : Nat), n ≤ l.length → n < f → lC N f ((n : Int), (least : Int), l) = some (l, ((gl l least n : Nat) : Int)) := by
  intro n
  induction n with
  | zero =>
    intro f h1 h2
    cases f with
    | zero => omega
    | succ f =>
      simp only [lC, Bf, ae]
      rw [aV (by omega)]
      rfl
  | succ n ih =>
    intro f h1 h2
    cases f with
    | zero => omega
    | succ f =>
      have w : IntKind.wrap .i64 (((n + 1 : Nat) : Int) - 1) = (n : Int) := by rw [wrap_i64 (by omega) (by omega)]; omega
      simp only [lC, Bf, ae]
      unfold gl
      rw [w]
      by_cases h4 : n + 1 > least
      · rw [aY (by omega), if_pos h4, if_pos (ay (by omega)), Int.toNat_natCast, bv (by omega), Option.bind_some]
        by_cases hz : l.getD n 0 = 0
        · rw [if_pos (by rw [hz]; rfl), if_pos hz, ih f (by omega) (by omega)]
          rfl
        · rw [if_neg (by simpa using hz), if_neg hz]
      · rw [aV (by omega), if_neg h4]
def dD (l : List Int) (least : Nat) : List Int := l.take (gl l least l.length)
theorem C9 (l : List Int) (hl : l.length ≤ 1000) (least : Nat) (hle : least ≤ 1000) : RE 200000 (l, (least : Int)) = some (dD l least) := by
  have := nR l least l.length
  simp only [RE, ae]
  rw [NY 200000 l hl least hle l.length 200000 (Nat.le_refl _) (by omega), Option.bind_some]
  simp only
  rw [aY (by omega), Int.toNat_natCast, Nat.sub_zero, List.drop_zero]
  rfl
theorem xc (l : List Int) (least : Nat) (h : least ≤ l.length) : least ≤ (dD l least).length ∧ (dD l least).length ≤ l.length := by
  have h1 := nR l least l.length
  have h2 := Bw l least l.length h
  unfold dD
  rw [List.length_take]
  omega
theorem qS (l : List Int) (least : Nat) : ∃ k, l = dD l least ++ List.replicate k 0 := by
  refine ⟨l.length - gl l least l.length, ?_⟩
  have h1 := nR l least l.length
  have h := iD (L := l) (v := 0) (i := gl l least l.length) (l.length - gl l least l.length) (by omega) fun k hk => sw l least l.length _ (by omega) (by omega)
  rw [show gl l least l.length + (l.length - gl l least l.length) = l.length by omega, List.take_length] at h
  exact h
theorem xd (l : List Int) (least : Nat) {s : Nat} (h : 0 < l.getD s 0) : s < (dD l least).length ∧ (dD l least).getD s 0 = l.getD s 0 := by
  obtain ⟨k, hk⟩ := qS l least
  have hs : s < (dD l least).length := by
    refine Classical.byContradiction fun hn => ?_
    rw [hk, List.getD, List.getElem?_append_right (by omega)] at h
    by_cases hr : s - (dD l least).length < k
    · rw [List.getElem?_replicate, if_pos hr] at h
      exact absurd h (by decide)
    · rw [List.getElem?_replicate, if_neg hr] at h
      exact absurd h (by decide)
  refine ⟨hs, ?_⟩
  have e : (dD l least ++ List.replicate k 0).getD s 0 = (dD l least).getD s 0 := by
    rw [List.getD, List.getElem?_append_left hs]
    rfl
  rw [← hk] at e
  exact e.symm
theorem oS (lens : List Int) : (chk lens).2 = 0 ↔ xN lens = true ∧ 0 ≤ lf lens 15 := by
  unfold chk
  constructor
  · intro h
    by_cases hc : xN lens = true ∧ 0 ≤ lf lens 15
    · exact hc
    · rw [if_neg hc] at h
      exact absurd h (by decide)
  · intro h
    rw [if_pos h]
theorem CQ {l : List Int} (h : (chk l).2 = 0) (least : Nat) : (chk (dD l least)).2 = 0 := by
  obtain ⟨k, hk⟩ := qS l least
  obtain ⟨h1, h2⟩ := (oS l).1 h
  obtain ⟨g1, g2⟩ := dq h
  have hok : okB (dD l least) = true := by
    have := g2
    rw [hk, nd, Bool.and_eq_true] at this
    exact this.1
  have hlen : (dD l least).length ≤ 320 := by
    have := congrArg List.length hk
    rw [List.length_append] at this
    omega
  have e1 := rY l 15 (Nat.le_refl _)
  have e2 := rY (dD l least) 15 (Nat.le_refl _)
  rw [jk _ g2] at e1
  rw [jk _ hok] at e2
  have et : ko l = ko (dD l least) := by
    have : ko (List.replicate k 0) = 0 := by
      clear hk
      induction k with
      | zero => rfl
      | succ k ih => rw [List.replicate_succ, ko, ih]; rfl
    rw [congrArg ko hk, qT, this, Int.add_zero]
  refine (oS _).2 ⟨?_, ?_⟩
  · unfold xN
    rw [hok, decide_eq_true hlen]
    rfl
  · rw [show (15 : Nat) - 15 = 0 from rfl] at e1 e2
    omega
theorem He {a : List Int} {n : Nat} {S : Nat → Prop} (h : CntAt a n 10001 S) : okF a = true := by
  obtain ⟨h1, h2, h3⟩ := h
  unfold okF
  rw [List.all_eq_true]
  intro x hx
  obtain ⟨j, hj, rfl⟩ := List.getElem_of_mem hx
  have := h2 j (by omega)
  rw [getD_at hj] at this
  rw [Bool.and_eq_true, decide_eq_true_eq, decide_eq_true_eq]
  omega
noncomputable def ba (l : List Tok) : List Int := match QQ 200000 l with
  | some r => dD (kP r.1 15).2 257
  | none => []
noncomputable def aU (l : List Tok) : List Int := match QQ 200000 l with
  | some r => dD (kP r.2 15).2 1
  | none => []
structure OwnOk (l : List Tok) : Prop where
  hd : HdOk (ba l) (aU l)
  a : (chk (ba l)).2 = 0
  b : (chk (aU l)).2 = 0
  ok : iZ (af (ba l)) (af (aU l)) l = true
  run : ∃ r, QQ 200000 l = some r ∧ ∃ x y, RD 200000 r.1 = some x ∧ RE 200000 (x, 257) = some (ba l) ∧ RD 200000 r.2 = some y ∧ RE 200000 (y, 1) = some (aU l)
theorem Es {l : List Tok} (hl : l.length ≤ 10000) (hv : az l = true) : OwnOk l := by
  obtain ⟨r, r1, r2, r3⟩ := vK l hl hv
  have z1 : r.1.length = 286 := r2.len
  have z2 : r.2.length = 30 := r3.len
  obtain ⟨x, x1, x2, x3, x4⟩ := qf (fr := r.1) (m := 15) (by omega) (by decide) (by decide) (by rw [z1]; decide) (He r2)
  obtain ⟨y, y1, y2, y3, y4⟩ := qf (fr := r.2) (m := 15) (by omega) (by decide) (by decide) (by rw [z2]; decide) (He r3)
  have x1 : kP r.1 15 = (0, x) := x1
  have y1 : kP r.2 15 = (0, y) := y1
  have eX : ba l = dD x 257 := by unfold ba; rw [r1]; simp only [x1]
  have eY : aU l = dD y 1 := by unfold aU; rw [r1]; simp only [y1]
  have cX := CQ x3 257
  have cY := CQ y3 1
  have lX := xc x 257 (by omega)
  have lY := xc y 1 (by omega)
  refine ⟨?_, ?_, ?_, ?_, r, r1, x, y, ?_, ?_, ?_, ?_⟩
  · rw [eX, eY]
    exact ⟨lX.1, by omega, lY.1, by omega, (dq cX).2, (dq cY).2⟩
  · rw [eX]; exact cX
  · rw [eY]; exact cY
  · rw [eX, eY]
    refine C5 hv (fun s hs hS => ?_) (fun s hs hS => ?_)
    · have := (x4 s (by omega)).1 ((r2.iff s hs).2 hS)
      obtain ⟨g1, g2⟩ := xd x 257 (s := s) (by omega)
      exact oG g1 (by omega)
    · have := (y4 s (by omega)).1 ((r3.iff s hs).2 hS)
      obtain ⟨g1, g2⟩ := xd y 1 (s := s) (by omega)
      exact oG g1 (by omega)
  · simp only [RD]; rw [vM, x1, Option.bind_some]
  · rw [eX]; exact C9 x (by omega) 257 (by decide)
  · simp only [RD]; rw [vM, y1, Option.bind_some]
  · rw [eY]; exact C9 y (by omega) 1 (by decide)
noncomputable def bc (l : List Tok) (own last : Bool) : List Bool :=
  [last] ++ aG 2 (if own = true then 2 else 1) ++ (if own = true then Br (ba l) (aU l) ++ (gz (ba l) (aU l) l).2 else (gz pZ p6 l).2)
theorem tP (b : Bool) (m : List Bool) (hm : m.length ≤ 100000000) (k : Int) : N1 200000 (b, k, aJ m, nF m, bF m) = some (aJ (m ++ ([b] ++ aG 2 k)), nF (m ++ ([b] ++ aG 2 k)), bF (m ++ ([b] ++ aG 2 k))) := by
  simp only [N1, ae]
  have h2 : (aG 2 k).length = 2 := by rw [am]; rfl
  cases b with
  | true =>
    rw [if_pos rfl, bd (by decide) m (by omega), Option.bind_some, show aG 1 1 = [true] from rfl, bd (by decide) _ (by simp; omega), Option.bind_some, List.append_assoc]
  | false =>
    rw [if_neg (by decide), bd (by decide) m (by omega), Option.bind_some, show aG 1 0 = [false] from rfl, bd (by decide) _ (by simp; omega), Option.bind_some, List.append_assoc]
theorem Ha {A B : List Int} {l : List Tok} (hv : az l = true) (hA : (chk A).2 = 0) (hB : (chk B).2 = 0) (ho : iZ (af A) (af B) l = true) : (gz A B l).1 = 0 := by
  unfold gz
  rw [hv, ho, hA, hB]
  rfl
theorem Bs (l : List Tok) (hl : l.length ≤ 10000) (x2 x3 : Bool) (x6 x7 : Int) (x8 : List Int) : ∀ (d i f : Nat), i + d = l.length → d < f →
    ((∀ j (h : j < l.length), i ≤ j → bo l[j].1 l[j].2.1 l[j].2.2.1 = true) → jP 200000 f ((l.length : Int), l, x2, x3, l, (i : Int), x6, x7, x8) = some (.inr (x3, x2, l, x6, x7, x8))) ∧
    ((∃ j, ∃ h : j < l.length, i ≤ j ∧ bo l[j].1 l[j].2.1 l[j].2.2.1 = false) → jP 200000 f ((l.length : Int), l, x2, x3, l, (i : Int), x6, x7, x8) = some (.inl (1, x6, x7, x8))) := by
  intro d
  induction d with
  | zero =>
    intro i f hi hf
    cases f with
    | zero => omega
    | succ f =>
      simp only [jP, Bj, ae]
      rw [aV (by omega)]
      exact ⟨fun _ => rfl, fun ⟨j, h1, h2, _⟩ => by omega⟩
  | succ d ih =>
    intro i f hi hf
    cases f with
    | zero => omega
    | succ f =>
      have hil : i < l.length := by omega
      obtain ⟨ih1, ih2⟩ := ih (i + 1) f (by omega) (by omega)
      have hli : l[i]? = some l[i] := List.getElem?_eq_getElem hil
      have hw : IntKind.wrap .i64 ((i : Int) + 1) = ((i + 1 : Nat) : Int) := by rw [wrap_i64 (by omega) (by omega)]; omega
      have hwi : within (i : Int) l.length = true := ay hil
      have hc : decide ((i : Int) < (l.length : Int)) = true := by simp only [decide_eq_true_eq]; omega
      simp only [jP, Bj, hc, hwi, if_true, Int.toNat_natCast, hli, Option.bind_some, hw, mn, ae]
      cases hv : bo l[i].1 l[i].2.1 l[i].2.2.1 with
      | false =>
        simp only [Bool.not_false, if_true]
        exact ⟨fun h => (by have := h i hil (Nat.le_refl _); rw [hv] at this; cases this), fun _ => by first | rfl | trivial⟩
      | true =>
        simp only [Bool.not_true, Bool.false_eq_true, if_false]
        refine ⟨fun h => by rw [ih1 fun j h1 h2 => h j h1 (by omega)]; rfl, fun ⟨j, h1, h2, h3⟩ => ?_⟩
        rw [ih2 ⟨j, h1, by
          by_cases e : j = i
          · subst e; rw [hv] at h3; cases h3
          · omega, h3⟩]
        rfl
theorem yo {l : List Tok} (hl : l.length ≤ 10000) (hv : az l = true) (own last : Bool) (m : List Bool) (hm : m.length ≤ 90000000) :
    RO 200000 (l, own, last, aJ m, nF m, bF m) = some (0, aJ (m ++ bc l own last), nF (m ++ bc l own last), bF (m ++ bc l own last)) := by
  have h := (Bs l hl last own (aJ m) (nF m) (bF m) l.length 0 200000 (by omega) (by omega)).1 (nO hv)
  rw [show ((0 : Nat) : Int) = 0 from rfl] at h
  have h2 : ∀ k, (aG 2 k).length = 2 := fun k => by rw [am]; rfl
  simp only [RO, ae]
  rw [h, Option.bind_some]
  simp only
  cases own with
  | false =>
    rw [if_pos (show (!false) = true from rfl), tP last m (by omega) 1, Option.bind_some, r9, Option.bind_some]
    simp only
    rw [Da pZ p6 l hl (m ++ ([last] ++ aG 2 1)) (by simp only [List.length_append, h2]; simp; omega), Option.bind_some, Ha hv Cz CB (Mt hv)]
    unfold bc
    simp only [Bool.false_eq_true, if_false, List.append_assoc]
  | true =>
    obtain ⟨o1, o2, o3, o4, r, g1, x, y, g2, g3, g4, g5⟩ := Es hl hv
    have hbl := G7 o1
    rw [if_neg (by decide), g1, Option.bind_some, g2, Option.bind_some, g3, Option.bind_some, g4, Option.bind_some, g5, Option.bind_some, tP last m (by omega) 2, Option.bind_some]
    simp only
    rw [Us o1 _ (by simp only [List.length_append, h2]; simp; omega), Option.bind_some]
    simp only
    rw [if_neg (by simp), Da (ba l) (aU l) l hl _ (by simp only [List.length_append, h2]; simp; omega), Option.bind_some, Ha hv o2 o3 o4]
    unfold bc
    simp only [if_true, List.append_assoc]
theorem uc {l : List Tok} (hl : l.length ≤ 10000) (hv : az l = true) (own last : Bool) : (bc l own last).length ≤ 1400000 := by
  have h2 : ∀ k, (aG 2 k).length = 2 := fun k => by rw [am]; rfl
  unfold bc
  have d1 := CL pZ p6 l hl
  have d2 := CL (ba l) (aU l) l hl
  have hbl := G7 (Es hl hv).hd
  cases own with
  | false =>
    simp only [Bool.false_eq_true, if_false, List.length_append, h2, List.length_singleton]
    omega
  | true =>
    simp only [if_true, List.length_append, h2, List.length_singleton]
    omega
def oO (D : Nat) : Nat → List Int → List Int
  | 0, o => o
  | k + 1, o => oO D k (o ++ [o.getD (o.length - D) 0])
theorem qa (D : Nat) : ∀ k o, (oO D k o).length = o.length + k
  | 0, _ => rfl
  | k + 1, o => by unfold oO; rw [qa D k, List.length_append, List.length_singleton]; omega
def iW (o : List Int) (t : Tok) : Option (List Int) :=
  if t.2.1 = 0 then some (o ++ [t.1]) else if (o.length : Int) < t.2.2.1 then none else some (oO t.2.2.1.toNat t.2.1.toNat o)
def kX : List Int → List Tok → Option (List Int)
  | o, [] => some o
  | o, t :: l => match iW o t with
    | some p => kX p l
    | none => none
theorem ME {o p : List Int} {t : Tok} (h : iW o t = some p) : p.length = o.length + cC t := by
  unfold iW at h
  unfold cC
  split at h
  · rename_i e
    cases h
    rw [if_pos e, List.length_append, List.length_singleton]
  · rename_i e
    split at h
    · cases h
    · cases h
      rw [if_neg e, qa]
theorem pT (t : Tok) (l : List Tok) : made (t :: l) = cC t + made l := by unfold made; rw [List.map_cons, List.sum_cons]
theorem tX : ∀ {l : List Tok} {o p : List Int}, kX o l = some p → p.length = o.length + made l
  | [], o, p, h => by cases h; rfl
  | t :: l, o, p, h => by
    unfold kX at h
    cases ht : iW o t with
    | none => rw [ht] at h; cases h
    | some q =>
      rw [ht] at h
      have := tX h
      rw [this, ME ht, pT]
      omega
theorem D3 {b : Int} (h0 : 0 ≤ b) (h1 : b ≤ 255) : IntKind.wrap .u8 b = b := by rw [wrap_u8]; omega
def aQ (w : ByteArray) : ByteArray := if 32768 < w.size then w.extract (w.size - 32768) w.size else w
theorem eh (w : ByteArray) : (aQ w).size = min w.size 32768 := by
  unfold aQ
  split
  · rw [ByteArray.size_extract]; omega
  · omega
theorem c8 (s : ByteArray) : (bytesOf s).length = s.size := by rw [bA, List.length_map]; simp
def rN (w : ByteArray) (l : List Tok) : ByteArray × Int := match kX (bytesOf (aQ w)) l with
  | some p => (aN (p.drop (aQ w).size), 0)
  | none => (ByteArray.mk #[], 60)
theorem CX (b : Bool) : aG 1 (if b = true then 1 else 0) = [b] := LG b
theorem G3 {l : List Tok} (hv : az l = true) : made l ≤ 258 * l.length := by
  induction l with
  | nil => exact Nat.le_refl _
  | cons t l ih =>
    unfold az at hv ih
    rw [List.all_cons, Bool.and_eq_true] at hv
    have := ih hv.2
    have := oC hv.1
    rw [pT, List.length_cons]
    omega
end Go.Proofs.YteddgkplkjldcaaGreat.Am
