/- Tokens written and read, and what they make: the Lean function that DeflateCoded comes to answers true at every input. -/
import Derived.Test.YteddgkplkjldcaaGreatSB
import Derived.Test.YteddgkplkjldcaaGreatAmC
import Derived.Test.YteddgkplkjldcaaGreatPA
import Derived.Test.YteddgkplkjldcaaGreatPB
set_option linter.unusedSimpArgs false
set_option linter.unusedVariables false
namespace Go.Proofs.YteddgkplkjldcaaGreat.Am
open Go.Am
def de (tb : List Int) (n : Int) : Nat → Option Nat
  | 0 => none
  | i + 1 => if tb.getD i 0 ≤ n then some i else de tb n i
theorem dn {tb : List Int} {n : Int} : ∀ {i j : Nat}, de tb n i = some j → j < i ∧ tb.getD j 0 ≤ n ∧ ∀ k, j < k → k < i → n < tb.getD k 0
  | 0, j, h => by cases h
  | i + 1, j, h => by
    unfold de at h
    split at h
    · cases h
      exact ⟨by omega, by assumption, fun k h1 h2 => by omega⟩
    · obtain ⟨h1, h2, h3⟩ := dn h
      refine ⟨by omega, h2, fun k k1 k2 => ?_⟩
      by_cases hk : k = i
      · subst hk; omega
      · exact h3 k k1 (by omega)
theorem lV {tb : List Int} {n : Int} : ∀ {i : Nat}, de tb n i = none → ∀ k, k < i → n < tb.getD k 0
  | 0, h, k, hk => by omega
  | i + 1, h, k, hk => by
    unfold de at h
    split at h
    · cases h
    · by_cases e : k = i
      · subst e; omega
      · exact lV h k (by omega)
def sQ (G : Int → Option (Int × Int)) : Nat → (Int × Int × Int) → Option ((Int × Int × Int) ⊕ Unit)
  | 0, _ => none
  | k + 1, (x0, x1, x2) =>
    if (decide (x1 ≥ x0)) = true then
      Option.bind (G x1) fun y0 =>
      if (decide (Prod.fst y0 ≤ x2)) = true then
        some (.inl ((x1, IntKind.wrap IntKind.i64 (x2 - Prod.fst y0), Prod.snd y0)))
      else
        Option.bind (sQ G k (x0, IntKind.wrap IntKind.i64 (x1 - (1 : Int)), x2)) fun r => match r with | .inl (y) => some (.inl (y)) | .inr (y) => some (.inr (y))
    else
      some (.inr (()))
theorem Qg (N : Nat) : ∀ k x, iz N k x = sQ (ym N) k x
  | 0, _ => rfl
  | k + 1, (x0, x1, x2) => by
    simp only [iz, yz, sQ, Qg N k, ae]
    rfl
theorem Qf (N : Nat) : ∀ k x, iy N k x = sQ (yl N) k x
  | 0, _ => rfl
  | k + 1, (x0, x1, x2) => by
    simp only [iy, yy, sQ, Qf N k, ae]
    rfl
def Xw (lb lx : List Int) (from_ n : Int) : Option Nat → (Int × Int × Int) ⊕ Unit
  | some j => .inl (from_ + j, n - lb.getD j 0, lx.getD j 0)
  | none => .inr ()
theorem oG {G : Int → Option (Int × Int)} {lb lx : List Int} {from_ n : Int} (hf : 0 ≤ from_ ∧ from_ ≤ 1000) (hn : -9223372036854775808 ≤ n ∧ n ≤ 9223372036854775807) : ∀ (i f : Nat), i ≤ 1000 → (∀ j, j < i → G (from_ + j) = some (lb.getD j 0, lx.getD j 0) ∧ 0 ≤ lb.getD j 0 ∧ lb.getD j 0 ≤ 200000) → i < f →
    sQ G f (from_, from_ + i - 1, n) = some (Xw lb lx from_ n (de lb n i))
  | 0, 0, _, _, h => by omega
  | i + 1, 0, _, _, h => by omega
  | 0, f + 1, _, hG, h => by
    simp only [sQ]
    rw [aY (by omega)]
    rfl
  | i + 1, f + 1, hi, hG, h => by
    obtain ⟨g1, g2, g3⟩ := hG i (by omega)
    simp only [sQ]
    have e : from_ + ((i + 1 : Nat) : Int) - 1 = from_ + i := by omega
    rw [e, bd (by omega), g1, Option.bind_some]
    simp only [de]
    by_cases hl : lb.getD i 0 ≤ n
    · rw [if_pos (by simpa using hl), if_pos hl, wrap_i64 (by omega) (by omega)]
      rfl
    · rw [if_neg (by simpa using hl), if_neg hl, wrap_i64 (by omega) (by omega), oG hf hn i f (by omega) (fun j hj => hG j (by omega)) (by omega), Option.bind_some]
      cases de lb n i <;> rfl
def bJ : List Int := [3, 4, 5, 6, 7, 8, 9, 10, 11, 13, 15, 17, 19, 23, 27, 31, 35, 43, 51, 59, 67, 83, 99, 115, 131, 163, 195, 227, 258]
def dM : List Int := [0, 0, 0, 0, 0, 0, 0, 0, 1, 1, 1, 1, 2, 2, 2, 2, 3, 3, 3, 3, 4, 4, 4, 4, 5, 5, 5, 5, 0]
def bK : List Int := [1, 2, 3, 4, 5, 7, 9, 13, 17, 25, 33, 49, 65, 97, 129, 193, 257, 385, 513, 769, 1025, 1537, 2049, 3073, 4097, 6145, 8193, 12289, 16385, 24577]
def dN : List Int := [0, 0, 0, 0, 1, 1, 2, 2, 3, 3, 4, 4, 5, 5, 6, 6, 7, 7, 8, 8, 9, 9, 10, 10, 11, 11, 12, 12, 13, 13]
theorem TI : (List.range 29).all (fun i => ym 200000 (257 + (i : Int)) == some (bJ.getD i 0, dM.getD i 0)) = true := by kernel_rfl
theorem TO : (List.range 30).all (fun i => yl 200000 (0 + (i : Int)) == some (bK.getD i 0, dN.getD i 0)) = true := by kernel_rfl
theorem PI (i : Nat) (h : i < 29) : ym 200000 (257 + (i : Int)) = some (bJ.getD i 0, dM.getD i 0) := by
  have := List.all_eq_true.1 TI i (List.mem_range.2 h)
  simpa using this
theorem Qq (i : Nat) (h : i < 30) : yl 200000 (0 + (i : Int)) = some (bK.getD i 0, dN.getD i 0) := by
  have := List.all_eq_true.1 TO i (List.mem_range.2 h)
  simpa using this
theorem Bc : ∀ i, i < 29 → 0 ≤ bJ.getD i 0 ∧ bJ.getD i 0 ≤ 200000 ∧ 3 ≤ bJ.getD i 0 := by decide +kernel
theorem Bo : ∀ i, i < 30 → 0 ≤ bK.getD i 0 ∧ bK.getD i 0 ≤ 200000 ∧ 1 ≤ bK.getD i 0 := by decide +kernel
def lenOf (n : Int) : Int × Int × Int := if n > 258 then (0, 0, 0) else match de bJ n 29 with
  | some j => (257 + j, n - bJ.getD j 0, dM.getD j 0)
  | none => (0, 0, 0)
def ck (n : Int) : Int × Int × Int := if n > 32768 then (0, 0, 0) else match de bK n 30 with
  | some j => (0 + j, n - bK.getD j 0, dN.getD j 0)
  | none => (0, 0, 0)
theorem Gr (n : Int) (hn : -9223372036854775808 ≤ n ∧ n ≤ 9223372036854775807) : Nz 200000 n = some (lenOf n) := by
  unfold lenOf
  simp only [Nz, ae]
  by_cases h : n > 258
  · rw [if_pos (by simpa using h), if_pos h]
  · rw [if_neg (by simpa using h), if_neg h]
    simp only [KE, Qg, ae]
    have := oG (G := ym 200000) (lb := bJ) (lx := dM) (from_ := 257) (n := n) (by omega) hn 29 200000 (by omega) (fun j hj => ⟨PI j hj, (Bc j hj).1, (Bc j hj).2.1⟩) (by omega)
    rw [show (257 : Int) + ((29 : Nat) : Int) - 1 = 285 from rfl] at this
    rw [this, Option.bind_some]
    cases de bJ n 29 <;> rfl
theorem Gq (n : Int) (hn : -9223372036854775808 ≤ n ∧ n ≤ 9223372036854775807) : Ny 200000 n = some (ck n) := by
  unfold ck
  simp only [Ny, ae]
  by_cases h : n > 32768
  · rw [if_pos (by simpa using h), if_pos h]
  · rw [if_neg (by simpa using h), if_neg h]
    simp only [KD, Qf, ae]
    have := oG (G := yl 200000) (lb := bK) (lx := dN) (from_ := 0) (n := n) (by omega) hn 30 200000 (by omega) (fun j hj => ⟨Qq j hj, (Bo j hj).1, (Bo j hj).2.1⟩) (by omega)
    rw [show (0 : Int) + ((30 : Nat) : Int) - 1 = 29 from rfl] at this
    rw [this, Option.bind_some]
    cases de bK n 30 <;> rfl
def vg (lb lx : List Int) (sym first : Int) : Int × Int := if sym < first ∨ sym - first ≥ lb.length then (0, 0) else (lb.getD (sym - first).toNat 0, lx.getD (sym - first).toNat 0)
theorem Vv (sym : Int) (hs : -9223372036854775808 ≤ sym ∧ sym ≤ 9223372036854775807) : ym 200000 sym = some (vg bJ dM sym 257) := by
  unfold vg
  have hl : bJ.length = 29 := rfl
  by_cases h : sym < 257
  · rw [if_pos (.inl h)]
    simp only [ym, ae]
    rw [if_neg (by simp; omega), if_pos (by simpa using h)]
  · by_cases h2 : sym - 257 ≥ bJ.length
    · rw [if_pos (.inr h2)]
      simp only [ym, ae]
      rw [if_neg (by simp; omega), if_neg (by simpa using h), if_pos (by simp; omega)]
    · rw [if_neg (by omega)]
      obtain ⟨i, hi⟩ := Int.eq_ofNat_of_zero_le (show 0 ≤ sym - 257 by omega)
      rw [hi, Int.toNat_natCast, show sym = 257 + (i : Int) by omega]
      exact PI i (by omega)
theorem Vu (sym : Int) (hs : -9223372036854775808 ≤ sym ∧ sym ≤ 9223372036854775807) : yl 200000 sym = some (vg bK dN sym 0) := by
  unfold vg
  have hl : bK.length = 30 := rfl
  by_cases h : sym < 0
  · rw [if_pos (.inl h)]
    simp only [yl, ae]
    rw [if_pos (by simpa using h)]
  · by_cases h2 : sym - 0 ≥ bK.length
    · rw [if_pos (.inr h2)]
      simp only [yl, ae]
      rw [if_neg (by simpa using h), if_pos (by simp; omega)]
    · rw [if_neg (by omega)]
      obtain ⟨i, hi⟩ := Int.eq_ofNat_of_zero_le (show 0 ≤ sym - 0 by omega)
      rw [hi, Int.toNat_natCast, show sym = 0 + (i : Int) by omega]
      exact Qq i (by omega)
abbrev Tok := Int × (Int × (Int × Unit))
def inT (n a b : Int) : Bool := decide (a ≤ n) && decide (n ≤ b)
def bu (b l d : Int) : Bool := if l = 0 then (decide (d = 0) && inT b 0 255) else (decide (b = 0) && (inT l 3 258 && inT d 1 32768))
theorem YE (N : Nat) (n a b : Int) : YF N (n, a, b) = some (inT n a b) := by
  unfold inT
  simp only [YF, ae]
  by_cases h : a ≤ n <;> simp [h]
theorem nP (N : Nat) (b l d : Int) : V8 N (b, l, d) = some (bu b l d) := by
  unfold bu
  simp only [V8, YE, Option.bind_some, ae]
  by_cases h : l = 0
  · by_cases h2 : d = 0 <;> simp [h, h2]
  · by_cases h2 : b = 0
    · cases h3 : inT l 3 258 <;> simp [h, h2, h3]
    · simp [h, h2]
theorem bN {b l d : Int} (h : bu b l d = true) : (l = 0 ∧ 0 ≤ b ∧ b ≤ 255) ∨ (l ≠ 0 ∧ 3 ≤ l ∧ l ≤ 258 ∧ 1 ≤ d ∧ d ≤ 32768) := by
  unfold bu inT at h
  by_cases hl : l = 0
  · rw [if_pos hl] at h
    simp only [Bool.and_eq_true, decide_eq_true_eq] at h
    exact .inl ⟨hl, h.2⟩
  · rw [if_neg hl] at h
    simp only [Bool.and_eq_true, decide_eq_true_eq] at h
    exact .inr ⟨hl, h.2.1.1, h.2.1.2, h.2.2⟩
theorem jM {n : Int} (h1 : 3 ≤ n) (h2 : n ≤ 258) : ∃ j : Nat, j < 29 ∧ lenOf n = (((257 : Int) + (j : Int), n - bJ.getD j 0, dM.getD j 0) : Int × Int × Int) ∧ de bJ n 29 = some j := by
  unfold lenOf
  rw [if_neg (by omega)]
  cases h : de bJ n 29 with
  | none =>
    have := lV h 0 (by omega)
    have e : bJ.getD 0 0 = 3 := rfl
    omega
  | some j => exact ⟨j, (dn h).1, rfl, rfl⟩
theorem jT {n : Int} (h1 : 1 ≤ n) (h2 : n ≤ 32768) : ∃ j : Nat, j < 30 ∧ ck n = (((0 : Int) + (j : Int), n - bK.getD j 0, dN.getD j 0) : Int × Int × Int) ∧ de bK n 30 = some j := by
  unfold ck
  rw [if_neg (by omega)]
  cases h : de bK n 30 with
  | none =>
    have := lV h 0 (by omega)
    have e : bK.getD 0 0 = 1 := rfl
    omega
  | some j => exact ⟨j, (dn h).1, rfl, rfl⟩
def E3 : List Int := (List.replicate 286 0).set 256 1
def vO : List Int := List.replicate 30 0
theorem Mh : E3.length = 286 := by unfold E3; rw [List.length_set, List.length_replicate]
theorem Hy : vO.length = 30 := by unfold vO; rw [List.length_replicate]
theorem Vd (l : List Tok) : Ve 200000 l = Option.bind (gC 200000 200000 (0, (l.length : Int), l, E3, vO)) fun y0 => some (y0.1, y0.2) := by kernel_rfl
structure CntAt (a : List Int) (n k : Nat) (S : Nat → Prop) : Prop where
  len : a.length = n
  nn : ∀ s, s < n → 0 ≤ a.getD s 0 ∧ a.getD s 0 ≤ (k : Int)
  iff : ∀ s, s < n → (0 < a.getD s 0 ↔ S s)
theorem CntAt.inc {a : List Int} {n k : Nat} {S : Nat → Prop} (h : CntAt a n k S) (hk : k ≤ 20000) {s : Nat} (hs : s < n) : CntAt (a.set s (IntKind.wrap .i64 (a.getD s 0 + 1))) n (k + 1) (fun x => S x ∨ x = s) := by
  have hb := h.nn s hs
  have hl := h.len
  have hg : ∀ t, t < n → (a.set s (IntKind.wrap .i64 (a.getD s 0 + 1))).getD t 0 = if t = s then a.getD s 0 + 1 else a.getD t 0 := by
    intro t ht
    by_cases e : t = s
    · subst e
      rw [if_pos rfl, List.getD, List.getElem?_set_self (by omega), Option.getD_some, wrap_i64 (by omega) (by omega)]
    · rw [if_neg e, List.getD, List.getElem?_set_ne (by omega)]; rfl
  refine ⟨by simpa using hl, fun t ht => ?_, fun t ht => ?_⟩
  · rw [hg t ht]
    have := h.nn t ht
    split <;> omega
  · rw [hg t ht]
    by_cases e : t = s
    · subst e
      rw [if_pos rfl]
      exact ⟨fun _ => .inr rfl, fun _ => by omega⟩
    · rw [if_neg e, h.iff t ht]
      exact ⟨.inl, fun q => q.resolve_right e⟩
theorem CntAt.mono {a : List Int} {n k k' : Nat} {S S' : Nat → Prop} (h : CntAt a n k S) (hk : k ≤ k') (hS : ∀ s, s < n → (S s ↔ S' s)) : CntAt a n k' S' :=
  ⟨h.len, fun s hs => by have := h.nn s hs; omega, fun s hs => (h.iff s hs).trans (hS s hs)⟩
def dx (t : Tok) : Nat := if t.2.1 = 0 then t.1.toNat else (lenOf t.2.1).1.toNat
def tu (t : Tok) : Option Nat := if t.2.1 = 0 then none else some (ck t.2.2.1).1.toNat
def aE (l : List Tok) : Bool := l.all fun t => bu t.1 t.2.1 t.2.2.1
theorem eu {l : List Tok} (h : aE l = true) {i : Nat} (hi : i < l.length) : bu l[i].1 l[i].2.1 l[i].2.2.1 = true :=
  List.all_eq_true.1 h _ (List.getElem_mem hi)
theorem Fw (l : List Tok) (hl : l.length ≤ 10000) (hv : aE l = true) : ∀ (d i f : Nat) (a b : List Int), i + d = l.length → d < f →
    CntAt a 286 (i + 1) (fun s => s = 256 ∨ ∃ j, ∃ h : j < l.length, j < i ∧ dx l[j] = s) → CntAt b 30 (i + 1) (fun s => ∃ j, ∃ h : j < l.length, j < i ∧ tu l[j] = some s) →
    ∃ r : List Int × List Int, gC 200000 f ((i : Int), (l.length : Int), l, a, b) = some r ∧
      CntAt r.1 286 10001 (fun s => s = 256 ∨ ∃ j, ∃ h : j < l.length, dx l[j] = s) ∧ CntAt r.2 30 10001 (fun s => ∃ j, ∃ h : j < l.length, tu l[j] = some s) := by
  intro d
  induction d with
  | zero =>
    intro i f a b hi hf ha hb
    cases f with
    | zero => omega
    | succ f =>
      have hc : decide ((i : Int) < (l.length : Int)) = false := by simp only [decide_eq_false_iff_not]; omega
      simp only [gC, tY, hc, Bool.false_eq_true, if_false, ae]
      refine ⟨(a, b), rfl, ha.mono (by omega) fun s _ => ?_, hb.mono (by omega) fun s _ => ?_⟩
      · exact ⟨fun h => h.imp id fun ⟨j, h, _, e⟩ => ⟨j, h, e⟩, fun h => h.imp id fun ⟨j, h, e⟩ => ⟨j, h, by omega, e⟩⟩
      · exact ⟨fun ⟨j, h, _, e⟩ => ⟨j, h, e⟩, fun ⟨j, h, e⟩ => ⟨j, h, by omega, e⟩⟩
  | succ d ih =>
    intro i f a b hi hf ha hb
    cases f with
    | zero => omega
    | succ f =>
      have hil : i < l.length := by omega
      have hli : l[i]? = some l[i] := List.getElem?_eq_getElem hil
      have hw : IntKind.wrap .i64 ((i : Int) + 1) = ((i + 1 : Nat) : Int) := by rw [wrap_i64 (by omega) (by omega)]; omega
      have hwi : within (i : Int) l.length = true := by unfold within; simp only [decide_eq_true_eq]; omega
      have hc : decide ((i : Int) < (l.length : Int)) = true := by simp only [decide_eq_true_eq]; omega
      have hva := eu hv hil
      have hla := ha.len
      have hlb := hb.len
      simp only [gC, tY, hc, hwi, if_true, Int.toNat_natCast, hli, Option.bind_some, hw, nP, hva, Bool.not_true, Bool.false_eq_true, if_false, ae]
      -- what came till then, and this one
      have stepL : ∀ (s0 : Nat) (S : Nat → Prop), dx l[i] = s0 → ∀ s, ((s = 256 ∨ ∃ j, ∃ h : j < l.length, j < i ∧ dx l[j] = s) ∨ s = s0) ↔ (s = 256 ∨ ∃ j, ∃ h : j < l.length, j < i + 1 ∧ dx l[j] = s) := by
        intro s0 _ e s
        constructor
        · rintro ((h | ⟨j, h1, h2, h3⟩) | h)
          · exact .inl h
          · exact .inr ⟨j, h1, by omega, h3⟩
          · exact .inr ⟨i, hil, by omega, by rw [e, h]⟩
        · rintro (h | ⟨j, h1, h2, h3⟩)
          · exact .inl (.inl h)
          · by_cases hj : j = i
            · subst hj; exact .inr (h3.symm.trans e)
            · exact .inl (.inr ⟨j, h1, by omega, h3⟩)
      rcases bN hva with ⟨h0, h1, h2⟩ | ⟨h0, h1, h2, h3, h4⟩
      · have e0 : (l[i].2.1 == (0 : Int)) = true := by simpa using h0
        have wB : within l[i].1 a.length = true := by unfold within; simp only [decide_eq_true_eq]; omega
        have gB : a[Int.toNat l[i].1]? = some (a.getD (Int.toNat l[i].1) 0) := get_at (by omega)
        have eS : dx l[i] = Int.toNat l[i].1 := by unfold dx; rw [if_pos h0]
        have eD : tu l[i] = none := by unfold tu; rw [if_pos h0]
        simp only [e0, if_true, wB, gB, Option.bind_some]
        obtain ⟨r, r1, r2⟩ := ih (i + 1) f (a.set (Int.toNat l[i].1) (IntKind.wrap .i64 (a.getD (Int.toNat l[i].1) 0 + 1))) b (by omega) (by omega)
          ((ha.inc (by omega) (by omega)).mono (Nat.le_refl _) fun s _ => stepL _ (fun _ => True) eS s)
          (hb.mono (by omega) fun s _ => ⟨fun ⟨j, h1, h2, h3⟩ => ⟨j, h1, by omega, h3⟩, fun ⟨j, h1, h2, h3⟩ => by
            by_cases hj : j = i
            · subst hj; rw [eD] at h3; cases h3
            · exact ⟨j, h1, by omega, h3⟩⟩)
        exact ⟨r, by rw [r1]; rfl, r2⟩
      · have e0 : ¬ (l[i].2.1 == (0 : Int)) = true := by simpa using h0
        obtain ⟨j, hj, ej, _⟩ := jM h1 h2
        obtain ⟨k, hk, ek, _⟩ := jT h3 h4
        have wJ : within (257 + (j : Int)) a.length = true := by unfold within; simp only [decide_eq_true_eq]; omega
        have wK : within (0 + (k : Int)) b.length = true := by unfold within; simp only [decide_eq_true_eq]; omega
        have gJ : a[Int.toNat (257 + (j : Int))]? = some (a.getD (Int.toNat (257 + (j : Int))) 0) := get_at (by omega)
        have gK : b[Int.toNat (0 + (k : Int))]? = some (b.getD (Int.toNat (0 + (k : Int))) 0) := get_at (by omega)
        have eS : dx l[i] = Int.toNat (257 + (j : Int)) := by unfold dx; rw [if_neg h0, ej]
        have eD : tu l[i] = some (Int.toNat (0 + (k : Int))) := by unfold tu; rw [if_neg h0, ek]
        simp only [if_neg e0, Gr l[i].2.1 (by omega), Gq l[i].2.2.1 (by omega), Option.bind_some, ej, ek, wJ, wK, gJ, gK, if_true]
        obtain ⟨r, r1, r2⟩ := ih (i + 1) f (a.set (Int.toNat (257 + (j : Int))) (IntKind.wrap .i64 (a.getD (Int.toNat (257 + (j : Int))) 0 + 1))) (b.set (Int.toNat (0 + (k : Int))) (IntKind.wrap .i64 (b.getD (Int.toNat (0 + (k : Int))) 0 + 1))) (by omega) (by omega)
          ((ha.inc (by omega) (by omega)).mono (Nat.le_refl _) fun s _ => stepL _ (fun _ => True) eS s)
          ((hb.inc (by omega) (by omega)).mono (Nat.le_refl _) fun s _ => by
            constructor
            · rintro (⟨j, h1, h2, h3⟩ | h)
              · exact ⟨j, h1, by omega, h3⟩
              · exact ⟨i, hil, by omega, by rw [eD, h]⟩
            · rintro ⟨q, g1, g2, g3⟩
              by_cases hq : q = i
              · subst hq; rw [eD] at g3; exact .inr (Option.some.inj g3).symm
              · exact .inl ⟨q, g1, by omega, g3⟩)
        exact ⟨r, by rw [r1]; rfl, r2⟩
theorem xY (l : List Tok) (hl : l.length ≤ 10000) (hv : aE l = true) : ∃ r : List Int × List Int, Ve 200000 l = some r ∧
    CntAt r.1 286 10001 (fun s => s = 256 ∨ ∃ j, ∃ h : j < l.length, dx l[j] = s) ∧ CntAt r.2 30 10001 (fun s => ∃ j, ∃ h : j < l.length, tu l[j] = some s) := by
  have hL : ∀ s, s < 286 → E3.getD s 0 = if s = 256 then 1 else 0 := by decide +kernel
  have hD : ∀ s, s < 30 → vO.getD s 0 = 0 := by decide +kernel
  obtain ⟨r, r1, r2⟩ := Fw l hl hv l.length 0 200000 E3 vO (by omega) (by omega)
    ⟨Mh, fun s hs => by rw [hL s hs]; split <;> omega, fun s hs => by
      rw [hL s hs]
      by_cases e : s = 256
      · rw [if_pos e]; exact ⟨fun _ => .inl e, fun _ => by decide⟩
      · rw [if_neg e]; exact ⟨fun h => by omega, fun h => by rcases h with h | ⟨j, h1, h2, _⟩ <;> omega⟩⟩
    ⟨Hy, fun s hs => by rw [hD s hs]; omega, fun s hs => by
      rw [hD s hs]; exact ⟨fun h => by omega, fun ⟨j, h1, h2, _⟩ => by omega⟩⟩
  rw [show ((0 : Nat) : Int) = 0 from rfl] at r1
  exact ⟨r, by rw [Vd, r1]; rfl, r2⟩
def cT (C : List qO) (s : Nat) : Bool := decide (s < C.length) && !((C.getD s (0, 0, ())).2.1 == 0)
theorem NA (N : Nat) (C : List qO) (x : List Int) (hx : x.length ≤ 1000) : ∀ (d i f : Nat), i + d = x.length → d < f →
    ((∀ s, i ≤ s → s < x.length → 0 < x.getD s 0 → cT C s = true) → gI N f ((x.length : Int), x, C, (i : Int)) = some (.inr ())) ∧
    ((∃ s, i ≤ s ∧ s < x.length ∧ 0 < x.getD s 0 ∧ cT C s = false) → gI N f ((x.length : Int), x, C, (i : Int)) = some (.inl false)) := by
  intro d
  induction d with
  | zero =>
    intro i f hi hf
    cases f with
    | zero => omega
    | succ f =>
      simp only [gI, uk, ae]
      rw [aY (by omega)]
      exact ⟨fun _ => rfl, fun ⟨s, h1, h2, _⟩ => by omega⟩
  | succ d ih =>
    intro i f hi hf
    cases f with
    | zero => omega
    | succ f =>
      obtain ⟨ih1, ih2⟩ := ih (i + 1) f (by omega) (by omega)
      have hil : i < x.length := by omega
      have hw : IntKind.wrap .i64 ((i : Int) + 1) = ((i + 1 : Nat) : Int) := by rw [wrap_i64 (by omega) (by omega)]; omega
      have hwi : within (i : Int) x.length = true := by unfold within; simp only [decide_eq_true_eq]; omega
      have hc : decide ((i : Int) < (x.length : Int)) = true := by simp only [decide_eq_true_eq]; omega
      have hg := get_at hil
      simp only [gI, uk, hc, hwi, hg, hw, Int.toNat_natCast, if_true, Option.bind_some, ae]
      by_cases h0 : 0 < x.getD i 0
      · rw [if_pos (by simpa using h0)]
        by_cases hlen : C.length ≤ i
        · rw [bd (by omega)]
          have hh : cT C i = false := by unfold cT; rw [decide_eq_false (by omega)]; rfl
          exact ⟨fun h => (by rw [h i (Nat.le_refl _) hil h0] at hh; cases hh), fun _ => rfl⟩
        · have hcg : C[i]? = some (C.getD i (0, 0, ())) := by rw [List.getD, List.getElem?_eq_getElem (by omega)]; rfl
          have hwc : within (i : Int) C.length = true := by unfold within; simp only [decide_eq_true_eq]; omega
          rw [aY (by omega)]
          simp only [hwc, hcg, if_true, Option.bind_some]
          by_cases hz : ((C.getD i (0, 0, ())).2.1 == 0) = true
          · rw [if_pos hz]
            have hh : cT C i = false := by unfold cT; rw [hz, decide_eq_true (by omega)]; rfl
            exact ⟨fun h => (by rw [h i (Nat.le_refl _) hil h0] at hh; cases hh), fun _ => rfl⟩
          · rw [if_neg hz]
            have hh : cT C i = true := by unfold cT; rw [decide_eq_true (by omega)]; simpa using hz
            refine ⟨fun h => ?_, fun ⟨s, h1, h2, h3, h4⟩ => ?_⟩
            · rw [ih1 fun s h1 h2 h3 => h s (by omega) h2 h3]; rfl
            · rw [ih2 ⟨s, by
                by_cases e : s = i
                · subst e; rw [hh] at h4; cases h4
                · omega, h2, h3, h4⟩]; rfl
      · rw [if_neg (by simpa using h0)]
        refine ⟨fun h => ?_, fun ⟨s, h1, h2, h3, h4⟩ => ?_⟩
        · rw [ih1 fun s h1 h2 h3 => h s (by omega) h2 h3]; rfl
        · rw [ih2 ⟨s, by
            by_cases e : s = i
            · subst e; exact absurd h3 h0
            · omega, h2, h3, h4⟩]; rfl
theorem Gs (C : List qO) (x : List Int) (hx : x.length ≤ 1000) : ∃ b, NB 200000 (C, x) = some b ∧ (b = true ↔ ∀ s, s < x.length → 0 < x.getD s 0 → cT C s = true) := by
  simp only [NB, ae]
  obtain ⟨h1, h2⟩ := NA 200000 C x hx x.length 0 200000 (by omega) (by omega)
  rw [show ((0 : Nat) : Int) = 0 from rfl] at h1 h2
  by_cases h : ∀ s, s < x.length → 0 < x.getD s 0 → cT C s = true
  · rw [h1 fun s _ => h s, Option.bind_some]
    exact ⟨true, rfl, fun _ => h, fun _ => rfl⟩
  · have : ∃ s, 0 ≤ s ∧ s < x.length ∧ 0 < x.getD s 0 ∧ cT C s = false := by
      refine Classical.byContradiction fun hn => h fun s a b => ?_
      cases hh : cT C s with
      | true => rfl
      | false => exact absurd ⟨s, Nat.zero_le _, a, b, hh⟩ hn
    rw [h2 this, Option.bind_some]
    exact ⟨false, rfl, ⟨fun e => (by cases e), fun e => absurd e h⟩⟩
def at_ (C : List qO) (s : Nat) : qO := C.getD s (0, 0, ())
def bU (A B : List qO) (t : Tok) : List Bool :=
  if t.2.1 = 0 then ag (at_ A (dx t)) else
    ag (at_ A (dx t)) ++ an (lenOf t.2.1).2.2 (lenOf t.2.1).2.1 ++ ag (at_ B (ck t.2.2.1).1.toNat) ++ an (ck t.2.2.1).2.2 (ck t.2.2.1).2.1
def ll (A B : List qO) (t : Tok) : Bool := cT A (dx t) && (decide (t.2.1 = 0) || cT B (ck t.2.2.1).1.toNat)
theorem Oh (A B : List qO) (t : Tok) : (bU A B t).length ≤ 128 := by
  have h1 := cG (at_ A (dx t))
  have h2 := cG (at_ B (ck t.2.2.1).1.toNat)
  have h3 := al (lenOf t.2.1).2.2 (lenOf t.2.1).2.1
  have h4 := al (ck t.2.2.1).2.2 (ck t.2.2.1).2.1
  have h5 := bk (lenOf t.2.1).2.2
  have h6 := bk (ck t.2.2.1).2.2
  unfold bU
  split
  · omega
  · simp only [List.length_append]; omega
def dq (A B : List qO) (l : List Tok) (i : Nat) : List Bool := (l.take i).flatMap (bU A B)
theorem tc (A B : List qO) (l : List Tok) {i : Nat} (h : i < l.length) : dq A B l (i + 1) = dq A B l i ++ bU A B l[i] := by
  unfold dq
  rw [List.take_add_one, List.getElem?_eq_getElem h, List.flatMap_append]
  simp
theorem kI (A B : List qO) (l : List Tok) : ∀ i, i ≤ l.length → (dq A B l i).length ≤ 128 * i
  | 0, _ => by simp [dq]
  | i + 1, h => by
    have h1 := kI A B l i (by omega)
    have h2 := Oh A B l[i]
    rw [tc A B l (by omega), List.length_append]
    omega
theorem Mu (A B : List qO) (hA : A.length ≤ 1000) (hB : B.length ≤ 1000) (l : List Tok) (hl : l.length ≤ 10000) (hv : aE l = true) (ho : ∀ i (h : i < l.length), ll A B l[i] = true) (m : List Bool) (hm : m.length ≤ 100000000) :
    ∀ (d i f : Nat), i + d = l.length → d < f →
    fR 200000 f ((i : Int), (l.length : Int), l, aP (m ++ dq A B l i), nF (m ++ dq A B l i), B, A, bF (m ++ dq A B l i)) =
      some (aP (m ++ dq A B l l.length), nF (m ++ dq A B l l.length), A, bF (m ++ dq A B l l.length)) := by
  intro d
  induction d with
  | zero =>
    intro i f hi hf
    cases f with
    | zero => omega
    | succ f =>
      simp only [fR, qA, ae]
      rw [aY (by omega), show i = l.length by omega]
  | succ d ih =>
    intro i f hi hf
    cases f with
    | zero => omega
    | succ f =>
      have hil : i < l.length := by omega
      have ih' := ih (i + 1) f (by omega) (by omega)
      have hli : l[i]? = some l[i] := List.getElem?_eq_getElem hil
      have hw : IntKind.wrap .i64 ((i : Int) + 1) = ((i + 1 : Nat) : Int) := by rw [wrap_i64 (by omega) (by omega)]; omega
      have hwi : within (i : Int) l.length = true := by unfold within; simp only [decide_eq_true_eq]; omega
      have hc : decide ((i : Int) < (l.length : Int)) = true := by simp only [decide_eq_true_eq]; omega
      have hva := eu hv hil
      have hok := ho i hil
      have hbl := kI A B l i (by omega)
      have hbt : (m ++ dq A B l i).length ≤ 200000000 := by rw [List.length_append]; omega
      rw [tc A B l hil, ← List.append_assoc] at ih'
      simp only [fR, qA, hc, hwi, if_true, Int.toNat_natCast, hli, Option.bind_some, hw, ae]
      generalize m ++ dq A B l i = q at *
      generalize l[i] = t at *
      obtain ⟨b, L, D, u⟩ := t
      unfold ll at hok
      simp only [Bool.and_eq_true, Bool.or_eq_true, decide_eq_true_eq] at hok
      obtain ⟨ok1, ok2⟩ := hok
      have gA : ∀ s, cT A s = true → within (s : Int) A.length = true ∧ A[s]? = some (at_ A s) := fun s h => by
        unfold cT at h
        simp only [Bool.and_eq_true, decide_eq_true_eq] at h
        exact ⟨by unfold within; simp only [decide_eq_true_eq]; omega, by unfold at_; rw [List.getD, List.getElem?_eq_getElem h.1]; rfl⟩
      have gB : ∀ s, cT B s = true → within (s : Int) B.length = true ∧ B[s]? = some (at_ B s) := fun s h => by
        unfold cT at h
        simp only [Bool.and_eq_true, decide_eq_true_eq] at h
        exact ⟨by unfold within; simp only [decide_eq_true_eq]; omega, by unfold at_; rw [List.getD, List.getElem?_eq_getElem h.1]; rfl⟩
      obtain ⟨a1, a2⟩ := gA _ ok1
      have cl1 := cG (at_ A (dx (b, L, D, u)))
      rcases bN hva with ⟨h0, h1, h2⟩ | ⟨h0, h1, h2, h3, h4⟩
      · have h0 : L = 0 := h0
        have h1 : 0 ≤ b := h1
        have e0 : (L == (0 : Int)) = true := by simpa using h0
        have eS : dx (b, L, D, u) = b.toNat := by unfold dx; rw [if_pos h0]
        have eb : ((b.toNat : Nat) : Int) = b := by omega
        have et : bU A B (b, L, D, u) = ag (at_ A b.toNat) := by unfold bU; rw [if_pos h0, eS]
        rw [eS, eb] at a1
        rw [eS] at a2 cl1
        rw [et] at ih'
        simp only [e0, if_true, a1, a2, Option.bind_some]
        rw [mJ (by decide) q (by omega), Option.bind_some, ih', Option.bind_some]
      · have h0 : L ≠ 0 := h0
        have h1 : 3 ≤ L := h1
        have h2 : L ≤ 258 := h2
        have h3 : 1 ≤ D := h3
        have h4 : D ≤ 32768 := h4
        have e0 : ¬ (L == (0 : Int)) = true := by simpa using h0
        obtain ⟨j, hj, ej, _⟩ := jM h1 h2
        obtain ⟨k, hk, ek, _⟩ := jT h3 h4
        have eS : dx (b, L, D, u) = (lenOf L).1.toNat := by unfold dx; rw [if_neg h0]
        have ok2' : cT B (ck D).1.toNat = true := ok2.resolve_left h0
        obtain ⟨b1, b2⟩ := gB _ ok2'
        have eb : (((lenOf L).1.toNat : Nat) : Int) = (lenOf L).1 := by rw [ej]; simp only; omega
        have ed : (((ck D).1.toNat : Nat) : Int) = (ck D).1 := by rw [ek]; simp only; omega
        have cl2 := cG (at_ B (ck D).1.toNat)
        have p1 := al (lenOf L).2.2 (lenOf L).2.1
        have p2 := al (ck D).2.2 (ck D).2.1
        have p3 := bk (lenOf L).2.2
        have p4 := bk (ck D).2.2
        rw [eS, eb] at a1
        rw [eS] at a2 cl1
        rw [ed] at b1
        have et : bU A B (b, L, D, u) = ag (at_ A (lenOf L).1.toNat) ++ an (lenOf L).2.2 (lenOf L).2.1 ++ ag (at_ B (ck D).1.toNat) ++ an (ck D).2.2 (ck D).2.1 := by unfold bU; rw [if_neg h0, eS]
        rw [et, ← List.append_assoc, ← List.append_assoc, ← List.append_assoc] at ih'
        simp only [if_neg e0, Gr L (by omega), Gq D (by omega), Option.bind_some, a1, a2, b1, b2, if_true]
        rw [mJ (by decide) q (by omega), Option.bind_some, bj (by decide) _ (by rw [List.length_append]; omega), Option.bind_some, mJ (by decide) _ (by simp only [List.length_append]; omega), Option.bind_some, bj (by decide) _ (by simp only [List.length_append]; omega), Option.bind_some, ih', Option.bind_some]
theorem D9 (l : List Tok) (hl : l.length ≤ 10000) (x2 x3 : List Int) (x6 x7 : Int) (x8 : List Int) : ∀ (d i f : Nat), i + d = l.length → d < f →
    ((∀ j (h : j < l.length), i ≤ j → bu l[j].1 l[j].2.1 l[j].2.2.1 = true) → jp 200000 f ((l.length : Int), l, x2, x3, l, (i : Int), x6, x7, x8) = some (.inr (x3, x2, l, x6, x7, x8))) ∧
    ((∃ j, ∃ h : j < l.length, i ≤ j ∧ bu l[j].1 l[j].2.1 l[j].2.2.1 = false) → jp 200000 f ((l.length : Int), l, x2, x3, l, (i : Int), x6, x7, x8) = some (.inl (1, x6, x7, x8))) := by
  intro d
  induction d with
  | zero =>
    intro i f hi hf
    cases f with
    | zero => omega
    | succ f =>
      simp only [jp, DU, ae]
      rw [aY (by omega)]
      exact ⟨fun _ => rfl, fun ⟨j, h1, h2, _⟩ => by omega⟩
  | succ d ih =>
    intro i f hi hf
    cases f with
    | zero => omega
    | succ f =>
      have hil : i < l.length := by omega
      obtain ⟨ih1, ih2⟩ := ih (i + 1) f (by omega) (by omega)
      have hli : l[i]? = some l[i] := List.getElem?_eq_getElem hil
      have hw : IntKind.wrap .i64 ((i : Int) + 1) = ((i + 1 : Nat) : Int) := by rw [wrap_i64 (by omega) (by omega)]; omega
      have hwi : within (i : Int) l.length = true := by unfold within; simp only [decide_eq_true_eq]; omega
      have hc : decide ((i : Int) < (l.length : Int)) = true := by simp only [decide_eq_true_eq]; omega
      simp only [jp, DU, hc, hwi, if_true, Int.toNat_natCast, hli, Option.bind_some, hw, nP, ae]
      cases hv : bu l[i].1 l[i].2.1 l[i].2.2.1 with
      | false =>
        simp only [Bool.not_false, if_true]
        exact ⟨fun h => (by have := h i hil (Nat.le_refl _); rw [hv] at this; cases this), fun _ => by first | rfl | trivial⟩
      | true =>
        simp only [Bool.not_true, Bool.false_eq_true, if_false]
        refine ⟨fun h => by rw [ih1 fun j h1 h2 => h j h1 (by omega)]; rfl, fun ⟨j, h1, h2, h3⟩ => ?_⟩
        rw [ih2 ⟨j, h1, by
          by_cases e : j = i
          · subst e; rw [hv] at h3; cases h3
          · omega, h3⟩]
        rfl
def ir (A B : List qO) (l : List Tok) : Bool := cT A 256 && l.all (ll A B)
def bV (lits dists : List Int) (l : List Tok) : Int × List Bool :=
  bif !aE l then (1, []) else
  bif (chk lits).2 != 0 || (chk dists).2 != 0 then (50, []) else
  bif ir (af lits) (af dists) l then (0, dq (af lits) (af dists) l l.length ++ ag (at_ (af lits) 256)) else (50, [])
theorem pj {l : List Tok} (h : aE l = true) : ∀ j (h : j < l.length), 0 ≤ j → bu l[j].1 l[j].2.1 l[j].2.2.1 = true := fun j hj _ => eu h hj
theorem TU {α : Type} {p : α → Bool} {l : List α} (h : l.all p = false) : ∃ j, ∃ h : j < l.length, 0 ≤ j ∧ p l[j] = false := by
  refine Classical.byContradiction fun hn => ?_
  have : l.all p = true := List.all_eq_true.2 fun x hx => by
    obtain ⟨j, hj, rfl⟩ := List.getElem_of_mem hx
    cases hp : p l[j] with
    | true => rfl
    | false => exact absurd ⟨j, hj, Nat.zero_le _, hp⟩ hn
  rw [h] at this; cases this
theorem FU (lits dists : List Int) (l : List Tok) (hl : l.length ≤ 10000) (m : List Bool) (hm : m.length ≤ 100000000) :
    Y8 200000 (lits, dists, l, aP m, nF m, bF m) = some ((bV lits dists l).1, aP (m ++ (bV lits dists l).2), nF (m ++ (bV lits dists l).2), bF (m ++ (bV lits dists l).2)) := by
  obtain ⟨v1, v2⟩ := D9 l hl dists lits (aP m) (nF m) (bF m) l.length 0 200000 (by omega) (by omega)
  rw [show ((0 : Nat) : Int) = 0 from rfl] at v1 v2
  unfold bV
  simp only [Y8, ae]
  cases hv : aE l with
  | false =>
    rw [v2 (TU hv), Option.bind_some]
    simp only [Bool.not_false, cond_true, List.append_nil]
  | true =>
    rw [v1 (pj hv), Option.bind_some]
    simp only [Bool.not_true, cond_false]
    obtain ⟨r, r1, c1, c2⟩ := xY l hl hv
    rw [sg (by decide), Option.bind_some, sg (by decide), Option.bind_some, r1, Option.bind_some]
    by_cases e1 : (chk lits).2 = 0
    · by_cases e2 : (chk dists).2 = 0
      · obtain ⟨a1, a2⟩ := bo e1
        obtain ⟨b1, b2⟩ := bo e2
        have hA := b8 lits
        have hB := b8 dists
        have ee : ((chk lits).2 != 0 || (chk dists).2 != 0) = false := by rw [e1, e2]; rfl
        rw [ee, if_pos e1, if_pos e2]
        simp only [cond_false]
        obtain ⟨p, p1, p2⟩ := Gs (af lits) r.1 (by have := c1.len; omega)
        obtain ⟨q, q1, q2⟩ := Gs (af dists) r.2 (by have := c2.len; omega)
        have l1 := c1.len
        have l2 := c2.len
        -- codes of all that come
        have hp : p = true ↔ (cT (af lits) 256 = true ∧ ∀ j (h : j < l.length), cT (af lits) (dx l[j]) = true) := by
          rw [p2]
          constructor
          · intro h
            refine ⟨h 256 (by omega) ((c1.iff 256 (by omega)).2 (.inl rfl)), fun j hj => ?_⟩
            have hva := eu hv hj
            have hs : dx l[j] < 286 := by
              unfold dx
              rcases bN hva with ⟨h0, h1, h2⟩ | ⟨h0, h1, h2, h3, h4⟩
              · rw [if_pos h0]; omega
              · obtain ⟨k, hk, ek, _⟩ := jM h1 h2
                rw [if_neg h0, ek]; simp only; omega
            exact h _ (by omega) ((c1.iff _ hs).2 (.inr ⟨j, hj, rfl⟩))
          · rintro ⟨g1, g2⟩ s hs hp
            rcases (c1.iff s (by omega)).1 hp with h | ⟨j, hj, h⟩
            · rw [h]; exact g1
            · rw [← h]; exact g2 j hj
        have hq : q = true ↔ ∀ j (h : j < l.length), l[j].2.1 = 0 ∨ cT (af dists) (ck l[j].2.2.1).1.toNat = true := by
          rw [q2]
          constructor
          · intro h j hj
            have hva := eu hv hj
            rcases bN hva with ⟨h0, h1, h2⟩ | ⟨h0, h1, h2, h3, h4⟩
            · exact .inl h0
            · obtain ⟨k, hk, ek, _⟩ := jT h3 h4
              have hs : (ck l[j].2.2.1).1.toNat < 30 := by rw [ek]; simp only; omega
              exact .inr (h _ (by omega) ((c2.iff _ hs).2 ⟨j, hj, by unfold tu; rw [if_neg h0]⟩))
          · intro g s hs hp
            obtain ⟨j, hj, h⟩ := (c2.iff s (by omega)).1 hp
            unfold tu at h
            split at h
            · cases h
            · rename_i h0
              cases h
              exact (g j hj).resolve_left h0
        have hall : (p && q) = ir (af lits) (af dists) l := by
          have key : (p && q) = true ↔ ir (af lits) (af dists) l = true := by
            unfold ir
            rw [Bool.and_eq_true, Bool.and_eq_true, hp, hq, List.all_eq_true]
            constructor
            · rintro ⟨⟨g1, g2⟩, g3⟩
              refine ⟨g1, fun x hx => ?_⟩
              obtain ⟨j, hj, rfl⟩ := List.getElem_of_mem hx
              unfold ll
              rw [g2 j hj, Bool.true_and, Bool.or_eq_true, decide_eq_true_eq]
              exact g3 j hj
            · rintro ⟨g1, g2⟩
              refine ⟨⟨g1, fun j hj => ?_⟩, fun j hj => ?_⟩ <;> have := g2 _ (List.getElem_mem hj) <;> unfold ll at this <;> rw [Bool.and_eq_true, Bool.or_eq_true, decide_eq_true_eq] at this
              · exact this.1
              · exact this.2
          cases h1 : (p && q) <;> cases h2 : ir (af lits) (af dists) l <;> simp_all
        rw [← hall]
        rw [if_neg (by decide), if_neg (by decide), p1, Option.bind_some]
        cases p with
        | false =>
          simp only [Bool.not_false, if_true, Bool.false_and, cond_false, List.append_nil]
        | true =>
          simp only [Bool.not_true, Bool.false_eq_true, if_false, Bool.true_and]
          rw [q1, Option.bind_some]
          cases q with
          | false =>
            simp only [Bool.not_false, if_true, cond_false, List.append_nil]
          | true =>
            simp only [Bool.not_true, Bool.false_eq_true, if_false, cond_true]
            have ho : ∀ i (h : i < l.length), ll (af lits) (af dists) l[i] = true := fun i hi => by
              unfold ll
              rw [(hp.1 rfl).2 i hi, Bool.true_and, Bool.or_eq_true, decide_eq_true_eq]
              exact hq.1 rfl i hi
            have hcl := Mu (af lits) (af dists) (by omega) (by omega) l hl hv ho m hm l.length 0 200000 (by omega) (by omega)
            rw [show ((0 : Nat) : Int) = 0 from rfl, show dq (af lits) (af dists) l 0 = [] from rfl, List.append_nil] at hcl
            rw [hcl, Option.bind_some]
            have g256 := (hp.1 rfl).1
            unfold cT at g256
            simp only [Bool.and_eq_true, decide_eq_true_eq] at g256
            have hw : within (256 : Int) (af lits).length = true := by unfold within; simp only [decide_eq_true_eq]; omega
            have hg : (af lits)[256]? = some (at_ (af lits) 256) := by unfold at_; rw [List.getD, List.getElem?_eq_getElem g256.1]; rfl
            have hbl := kI (af lits) (af dists) l l.length (Nat.le_refl _)
            simp only [hw, if_true, hg, Option.bind_some]
            rw [mJ (by decide) _ (by rw [List.length_append]; omega), Option.bind_some, List.append_assoc]
      · have ee : ((chk lits).2 != 0 || (chk dists).2 != 0) = true := by simp [e2]
        rw [ee, if_pos e1, if_neg e2]
        simp only [cond_true, List.append_nil]
        rw [if_neg (by decide), if_pos (by simpa using e2)]
    · have ee : ((chk lits).2 != 0 || (chk dists).2 != 0) = true := by simp [e1]
      rw [ee, if_neg e1]
      simp only [cond_true, List.append_nil]
      rw [if_pos (by simpa using e1)]
theorem Fs (lits dists : List Int) (l : List Tok) (hl : l.length ≤ 10000) : (bV lits dists l).2.length ≤ 1280032 := by
  have hbl := kI (af lits) (af dists) l l.length (Nat.le_refl _)
  have cl := cG (at_ (af lits) 256)
  unfold bV
  cases aE l <;> cases ((chk lits).2 != 0 || (chk dists).2 != 0) <;> cases ir (af lits) (af dists) l <;> simp only [Bool.not_true, Bool.not_false, cond_true, cond_false, List.length_nil, List.length_append] <;> omega
theorem Nv {N : Nat} (hN : 2000 < N) {lens : List Int} (h : (chk lens).2 = 0) {j : Nat} (hj : j < lens.length) (h0 : 0 < lens.getD j 0) (a r : List Bool) (hL : (a ++ (ag (ap lens j) ++ r)).length ≤ 1000000000) :
    ∀ (d k f : Nat), k + d = (lens.getD j 0).toNat → d < f → ja N f (af lens, ((a.length + k : Nat) : Int), 0, (ag (ap lens j)).take k, a ++ (ag (ap lens j) ++ r)) =
      some ((j : Int), 0, ((a.length + (lens.getD j 0).toNat : Nat) : Int), 0, a ++ (ag (ap lens j) ++ r)) := by
  obtain ⟨c1, c2⟩ := bL h hj h0
  obtain ⟨a1, a2⟩ := bo h
  obtain ⟨b1, b2⟩ := dV a2 hj
  rw [← getD_at hj] at b1 b2
  intro d
  induction d with
  | zero =>
    intro k f hk hf
    cases f with
    | zero => omega
    | succ f =>
      have e : (ag (ap lens j)).take k = ag (ap lens j) := List.take_of_length_le (by omega)
      simp only [ja, uj, ae]
      rw [e, zX hN h hj h0, Option.bind_some, bd (by omega), show k = (lens.getD j 0).toNat by omega]
  | succ d ih =>
    intro k f hk hf
    cases f with
    | zero => omega
    | succ f =>
      have hb : (a ++ (ag (ap lens j) ++ r))[a.length + k]? = some ((ag (ap lens j)).getD k false) := by
        rw [List.getElem?_append_right (by omega), show a.length + k - a.length = k by omega, List.getElem?_append_left (by omega), List.getD, List.getElem?_eq_getElem (show k < (ag (ap lens j)).length by omega), Option.getD_some]
      have ht : (ag (ap lens j)).take (k + 1) = (ag (ap lens j)).take k ++ [(ag (ap lens j)).getD k false] := by
        rw [List.take_add_one, List.getD, List.getElem?_eq_getElem (show k < (ag (ap lens j)).length by omega)]
        rfl
      have hbit : ((((ag (ap lens j)).getD k false).toNat : Int) == 1) = (ag (ap lens j)).getD k false := by
        cases (ag (ap lens j)).getD k false <;> rfl
      have hln : ((ag (ap lens j)).take k).length = k := by rw [List.length_take]; omega
      have hI := ih (k + 1) f (by omega) (by omega)
      simp only [ja, uj, ae]
      rw [Fg hN h hj h0 k (by omega), Option.bind_some, if_neg (by decide), if_neg (by decide), Hf (by omega) _ _ hL _ hb, Option.bind_some, if_neg (by simp), if_pos (by simp only [decide_eq_true_eq, List.length_singleton, hln]; omega), hbit, ← ht, Nat.add_assoc, hI]
      rfl
theorem i7 {N : Nat} (hN : 2000 < N) {lens : List Int} (h : (chk lens).2 = 0) {j : Nat} (hj : j < lens.length) (h0 : 0 < lens.getD j 0) (a r : List Bool) (hL : (a ++ (ag (ap lens j) ++ r)).length ≤ 1000000000) :
    Nw N (af lens, (a.length : Int), 0, a ++ (ag (ap lens j) ++ r)) = some ((j : Int), 0, ((a.length + (ag (ap lens j)).length : Nat) : Int), 0, a ++ (ag (ap lens j) ++ r)) := by
  obtain ⟨c1, c2⟩ := bL h hj h0
  obtain ⟨a1, a2⟩ := bo h
  obtain ⟨b1, b2⟩ := dV a2 hj
  rw [← getD_at hj] at b1 b2
  have := Nv hN h hj h0 a r hL (lens.getD j 0).toNat 0 N (by omega) (by omega)
  rw [List.take_zero, Nat.add_zero] at this
  simp only [Nw]
  rw [this, Option.bind_some, c1]
theorem SL : Vy 200000 () = some (bJ, dM) := by kernel_rfl
theorem SK : Vx 200000 () = some (bK, dN) := by kernel_rfl
theorem KF (N : Nat) (b x : List Int) (hbx : x.length = b.length) (hb : b.length ≤ 1000) (first j : Nat) (hf : first ≤ 1000) (hj : j < b.length) : Gp N (b, x, (first : Int) + (j : Int), (first : Int)) = some (b.getD j 0, x.getD j 0) := by
  have w : IntKind.wrap .i64 ((first : Int) + (j : Int) - (first : Int)) = (j : Int) := by rw [wrap_i64 (by omega) (by omega)]; omega
  simp only [Gp, ae]
  rw [aY (by omega), w, aY (by omega), if_pos (au hj), Int.toNat_natCast, bp hj, Option.bind_some, if_pos (au (by omega)), bp (by omega), Option.bind_some]
theorem PK : ∀ j, j < 29 → 0 ≤ dM.getD j 0 ∧ dM.getD j 0 ≤ 5 := by decide
theorem Qr : ∀ j, j < 30 → 0 ≤ dN.getD j 0 ∧ dN.getD j 0 ≤ 13 := by decide
theorem PH : ∀ j, j < 28 → bJ.getD (j + 1) 0 ≤ bJ.getD j 0 + 2 ^ (dM.getD j 0).toNat := by decide
theorem Qp : ∀ j, j < 29 → bK.getD (j + 1) 0 ≤ bK.getD j 0 + 2 ^ (dN.getD j 0).toNat := by decide
theorem Mi {n : Int} (h1 : 3 ≤ n) (h2 : n ≤ 258) : ∃ j : Nat, j < 29 ∧ lenOf n = (((257 : Int) + (j : Int), n - bJ.getD j 0, dM.getD j 0) : Int × Int × Int) ∧ 0 ≤ n - bJ.getD j 0 ∧ n - bJ.getD j 0 < 2 ^ (dM.getD j 0).toNat := by
  obtain ⟨j, hj, e, l⟩ := jM h1 h2
  obtain ⟨a, b, c⟩ := dn l
  refine ⟨j, hj, e, by omega, ?_⟩
  by_cases h : j < 28
  · have := c (j + 1) (by omega) (by omega)
    have := PH j h
    omega
  · have : j = 28 := by omega
    subst this
    have e1 : bJ.getD 28 0 = 258 := rfl
    have e2 : (dM.getD 28 0).toNat = 0 := rfl
    rw [e1] at b ⊢
    rw [e2]
    omega
theorem Mr {n : Int} (h1 : 1 ≤ n) (h2 : n ≤ 32768) : ∃ j : Nat, j < 30 ∧ ck n = (((0 : Int) + (j : Int), n - bK.getD j 0, dN.getD j 0) : Int × Int × Int) ∧ 0 ≤ n - bK.getD j 0 ∧ n - bK.getD j 0 < 2 ^ (dN.getD j 0).toNat := by
  obtain ⟨j, hj, e, l⟩ := jT h1 h2
  obtain ⟨a, b, c⟩ := dn l
  refine ⟨j, hj, e, by omega, ?_⟩
  by_cases h : j < 29
  · have := c (j + 1) (by omega) (by omega)
    have := Qp j h
    omega
  · have : j = 29 := by omega
    subst this
    have e1 : bK.getD 29 0 = 24577 := rfl
    have e2 : (dN.getD 29 0).toNat = 13 := rfl
    rw [e1] at b ⊢
    rw [e2]
    omega
def bX (t : Tok) : Nat := if t.2.1 = 0 then 1 else t.2.1.toNat
def made (l : List Tok) : Nat := (l.map bX).sum
theorem Px {n v : Int} (hn : 0 ≤ n) (hn2 : n ≤ 32) (h0 : 0 ≤ v) (h : v < 2 ^ n.toNat) : (cq (am n) v : Int) = v := by
  have hc : am n = n.toNat := by unfold am; omega
  obtain ⟨k, hk⟩ := Int.eq_ofNat_of_zero_le h0
  rw [hc, hk]
  rw [hk] at h
  rw [fI (by omega) (by
    have : ((k : Nat) : Int) < ((2 ^ n.toNat : Nat) : Int) := by rw [Int.natCast_pow]; exact h
    omega)]
theorem l5 {lens : List Int} {s : Nat} (h : cT (af lens) s = true) (hk : okB lens = true) : s < lens.length ∧ 0 < lens.getD s 0 ∧ at_ (af lens) s = ap lens s := by
  unfold cT at h
  rw [Bool.and_eq_true, decide_eq_true_eq, b8] at h
  obtain ⟨h1, h2⟩ := h
  have e : at_ (af lens) s = ap lens s := by unfold at_; rw [List.getD, il lens h1]; rfl
  unfold at_ at e
  rw [e, gQ] at h2
  obtain ⟨g1, g2⟩ := tE hk h1
  refine ⟨h1, ?_, e⟩
  refine Classical.byContradiction fun hn => ?_
  rw [if_neg hn] at h2
  exact absurd h2 (by decide)
theorem jL {t : Tok} (h : bu t.1 t.2.1 t.2.2.1 = true) : 1 ≤ bX t ∧ bX t ≤ 258 := by
  unfold bX
  rcases bN h with ⟨e, _⟩ | ⟨e, a, b, _⟩
  · rw [if_pos e]; omega
  · rw [if_neg e]; omega
theorem RJ {A B : List Int} (hA : (chk A).2 = 0) (hB : (chk B).2 = 0) (h256 : cT (af A) 256 = true) (most : Int) (hm0 : most ≤ 2000000000) (r : List Bool) : ∀ (l out : List Tok) (n : Nat) (a : List Bool) (f : Nat), l.length < f → out.length + l.length ≤ 20000 →
    (∀ t ∈ l, bu t.1 t.2.1 t.2.2.1 = true) → (∀ t ∈ l, ll (af A) (af B) t = true) → ((n + made l : Nat) : Int) ≤ most → (a ++ (l.flatMap (bU (af A) (af B)) ++ (ag (at_ (af A) 256) ++ r))).length ≤ 1000000000 →
    eM 200000 f (most, (n : Int), (a.length : Int), 0, out, af A, af B, bK, dN, dM, bJ, a ++ (l.flatMap (bU (af A) (af B)) ++ (ag (at_ (af A) 256) ++ r))) =
      some (0, ((a.length + ((l.flatMap (bU (af A) (af B))).length + (ag (at_ (af A) 256)).length) : Nat) : Int), 0, out ++ l, a ++ (l.flatMap (bU (af A) (af B)) ++ (ag (at_ (af A) 256) ++ r))) := by
  obtain ⟨s1, s2, s3⟩ := l5 h256 (bo hA).2
  intro l
  induction l with
  | nil =>
    intro out n a f hf _ _ _ _ hL
    cases f with
    | zero => cases hf
    | succ f =>
      simp only [List.flatMap_nil, List.nil_append, List.length_nil, Nat.zero_add, List.append_nil] at hL ⊢
      rw [s3] at hL ⊢
      simp only [eM, nd, ae]
      rw [i7 (N := 200000) (by decide) hA s1 s2 a r hL, Option.bind_some]
      simp only
      rw [if_neg (by simp), if_pos (by rfl)]
  | cons t l ih =>
    intro out n a f hf ho hv hk hm hL
    cases f with
    | zero => cases hf
    | succ f =>
      rw [List.length_cons] at hf ho
      have hvt := hv t (List.mem_cons_self ..)
      have hkt := hk t (List.mem_cons_self ..)
      have hmade : made (t :: l) = bX t + made l := by unfold made; rw [List.map_cons, List.sum_cons]
      rw [hmade] at hm
      obtain ⟨q1, q2⟩ := jL hvt
      have hflat : (t :: l).flatMap (bU (af A) (af B)) = bU (af A) (af B) t ++ l.flatMap (bU (af A) (af B)) := List.flatMap_cons
      rw [hflat] at hL ⊢
      generalize hS : l.flatMap (bU (af A) (af B)) ++ (ag (at_ (af A) 256) ++ r) = S at *
      have hLL : a ++ (bU (af A) (af B) t ++ l.flatMap (bU (af A) (af B)) ++ (ag (at_ (af A) 256) ++ r)) = a ++ (bU (af A) (af B) t ++ S) := by rw [List.append_assoc, hS]
      have hLa : a ++ (bU (af A) (af B) t ++ S) = (a ++ bU (af A) (af B) t) ++ S := by rw [List.append_assoc]
      rw [hLL] at hL ⊢
      have hI := ih (out ++ [t]) (n + bX t) (a ++ bU (af A) (af B) t) f (by omega) (by rw [List.length_append, List.length_singleton]; omega) (fun u hu => hv u (List.mem_cons_of_mem _ hu)) (fun u hu => hk u (List.mem_cons_of_mem _ hu)) (by omega) (by rw [← hLa]; exact hL)
      rw [← hLa, List.append_assoc, List.length_append] at hI
      have hfin : a.length + ((bU (af A) (af B) t ++ l.flatMap (bU (af A) (af B))).length + (ag (at_ (af A) 256)).length) = a.length + (bU (af A) (af B) t).length + ((l.flatMap (bU (af A) (af B))).length + (ag (at_ (af A) 256)).length) := by rw [List.length_append]; omega
      rw [hfin]
      generalize a.length + (bU (af A) (af B) t).length + ((l.flatMap (bU (af A) (af B))).length + (ag (at_ (af A) 256)).length) = E at *
      have happ : decide ((out.length + [t].length) * 24 ≤ 140737488355328 ∧ out.length + [t].length ≤ 140737488355328) = true := by
        rw [decide_eq_true_eq, List.length_singleton]; omega
      obtain ⟨b, Ln, D, u⟩ := t
      unfold ll at hkt
      rw [Bool.and_eq_true, Bool.or_eq_true, decide_eq_true_eq] at hkt
      obtain ⟨ok1, ok2⟩ := hkt
      rcases bN hvt with ⟨e1, e3, e4⟩ | ⟨e1, e3, e4, e5, e6⟩
      · -- a byte
        have e1 : Ln = 0 := e1
        have hD : D = 0 := by
          have := hvt
          unfold bu at this
          simp only [e1, if_true, Bool.and_eq_true, decide_eq_true_eq] at this
          exact this.1
        subst e1; subst hD
        have hs : dx (b, 0, 0, u) = b.toNat := by unfold dx; rw [if_pos rfl]
        have hT : bU (af A) (af B) (b, 0, 0, u) = ag (at_ (af A) b.toNat) := by unfold bU; rw [if_pos rfl, hs]
        have hmt : bX (b, 0, 0, u) = 1 := rfl
        rw [hs] at ok1
        obtain ⟨p1, p2, p3⟩ := l5 ok1 (bo hA).2
        rw [hT, p3] at hL hI ⊢
        rw [hmt] at hI hm
        have e3 : 0 ≤ b := e3
        have e4 : b ≤ 255 := e4
        have w : IntKind.wrap .i64 ((n : Int) + 1) = ((n + 1 : Nat) : Int) := by rw [wrap_i64 (by omega) (by omega)]; omega
        simp only [eM, nd, ae]
        rw [i7 (N := 200000) (by decide) hA p1 p2 a S hL, Option.bind_some, Int.toNat_of_nonneg e3]
        simp only
        rw [if_neg (by simp), if_neg (by simp only [beq_iff_eq]; omega), aY (by omega), aY (by omega), w, aY (by omega)]
        rw [if_pos happ, ← List.length_append, List.length_append]
        cases u
        rw [hI]
        rfl
      · -- a piece
        have e1 : Ln ≠ 0 := e1
        have e3 : 3 ≤ Ln := e3
        have e4 : Ln ≤ 258 := e4
        have e5 : 1 ≤ D := e5
        have e6 : D ≤ 32768 := e6
        have hb0 : b = 0 := by
          have := hvt
          unfold bu at this
          simp only [if_neg e1, Bool.and_eq_true, decide_eq_true_eq] at this
          exact this.1
        subst hb0
        obtain ⟨j, hj, ej, j0, j1⟩ := Mi e3 e4
        obtain ⟨k, hkk, ek, k0, k1⟩ := Mr e5 e6
        obtain ⟨jx0, jx1⟩ := PK j hj
        obtain ⟨kx0, kx1⟩ := Qr k hkk
        have hs : dx (0, Ln, D, u) = 257 + j := by unfold dx; rw [if_neg e1]; simp only [ej]; omega
        have fp : (ck D).1.toNat = k := by rw [ek]; simp only; omega
        have hT : bU (af A) (af B) (0, Ln, D, u) = ag (at_ (af A) (257 + j)) ++ an (dM.getD j 0) (Ln - bJ.getD j 0) ++ ag (at_ (af B) k) ++ an (dN.getD k 0) (D - bK.getD k 0) := by
          unfold bU; rw [if_neg e1, hs, fp, ej, ek]
        have hmt : bX (0, Ln, D, u) = Ln.toNat := by unfold bX; rw [if_neg e1]
        rw [hs] at ok1
        have ok2 : cT (af B) k = true := by
          rcases ok2 with h | h
          · exact absurd h e1
          · rwa [fp] at h
        obtain ⟨p1, p2, p3⟩ := l5 ok1 (bo hA).2
        obtain ⟨o1, o2, o3⟩ := l5 ok2 (bo hB).2
        rw [p3, o3] at hT
        rw [hT] at hL hI ⊢
        rw [hmt] at hI hm
        have l1 := Px jx0 (by omega) j0 j1
        have l2 := Px kx0 (by omega) k0 k1
        generalize hc1 : ag (ap A (257 + j)) = c1 at *
        generalize hc2 : ag (ap B k) = c2 at *
        generalize hd1 : an (dM.getD j 0) (Ln - bJ.getD j 0) = d1 at *
        generalize hd2 : an (dN.getD k 0) (D - bK.getD k 0) = d2 at *
        have z1 : d1.length = am (dM.getD j 0) := by rw [← hd1, al]
        have z2 : d2.length = am (dN.getD k 0) := by rw [← hd2, al]
        generalize hQ : a ++ (c1 ++ d1 ++ c2 ++ d2 ++ S) = Q at *
        have q1 : Q = a ++ (c1 ++ (d1 ++ (c2 ++ (d2 ++ S)))) := by rw [← hQ]; simp only [List.append_assoc]
        have q2 : Q = (a ++ c1) ++ (d1 ++ (c2 ++ (d2 ++ S))) := by rw [← hQ]; simp only [List.append_assoc]
        have q3 : Q = (a ++ c1 ++ d1) ++ (c2 ++ (d2 ++ S)) := by rw [← hQ]; simp only [List.append_assoc]
        have q4 : Q = (a ++ c1 ++ d1 ++ c2) ++ (d2 ++ S) := by rw [← hQ]; simp only [List.append_assoc]
        have r1 := i7 (N := 200000) (by decide) hA p1 p2 a (d1 ++ (c2 ++ (d2 ++ S))) (by rw [hc1, ← q1]; exact hL)
        rw [hc1, ← q1] at r1
        have r2 := jj (N := 200000) (by decide) (a ++ c1) (c2 ++ (d2 ++ S)) (dM.getD j 0) (Ln - bJ.getD j 0) (by rw [hd1, ← q2]; exact hL)
        rw [hd1, ← q2, l1, List.length_append, ← z1] at r2
        have r3 := i7 (N := 200000) (by decide) hB o1 o2 (a ++ c1 ++ d1) (d2 ++ S) (by rw [hc2, ← q3]; exact hL)
        rw [hc2, ← q3, List.length_append, List.length_append] at r3
        have r4 := jj (N := 200000) (by decide) (a ++ c1 ++ d1 ++ c2) S (dN.getD k 0) (D - bK.getD k 0) (by rw [hd2, ← q4]; exact hL)
        rw [hd2, ← q4, l2, List.length_append, List.length_append, List.length_append, ← z2] at r4
        have t1 : Gp 200000 (bJ, dM, ((257 + j : Nat) : Int), 257) = some (bJ.getD j 0, dM.getD j 0) := by
          have := KF 200000 bJ dM rfl (by decide) 257 j (by decide) hj
          rw [show ((257 + j : Nat) : Int) = ((257 : Nat) : Int) + (j : Int) by omega]
          exact this
        have t2 : Gp 200000 (bK, dN, (k : Int), 0) = some (bK.getD k 0, dN.getD k 0) := by
          have := KF 200000 bK dN rfl (by decide) 0 k (by decide) hkk
          rw [show ((0 : Nat) : Int) = 0 from rfl, Int.zero_add] at this
          exact this
        have w1 : IntKind.wrap .i64 (bJ.getD j 0 + (Ln - bJ.getD j 0)) = Ln := by rw [wrap_i64 (by omega) (by omega)]; omega
        have w2 : IntKind.wrap .i64 (bK.getD k 0 + (D - bK.getD k 0)) = D := by rw [wrap_i64 (by omega) (by omega)]; omega
        have w3 : (if (1 : Int) > Ln then (1 : Int) else Ln) = Ln := if_neg (by omega)
        have w4 : IntKind.wrap .i64 ((n : Int) + Ln) = ((n + Ln.toNat : Nat) : Int) := by rw [wrap_i64 (by omega) (by omega)]; omega
        simp only [eM, nd, ae]
        rw [r1, Option.bind_some]
        simp only
        rw [if_neg (by simp), if_neg (by simp only [beq_iff_eq]; omega), aY (by omega), bd (by omega), t1, Option.bind_some]
        simp only
        rw [r2, Option.bind_some]
        simp only
        rw [if_neg (by simp), r3, Option.bind_some]
        simp only
        rw [if_neg (by simp), aY (by omega), t2, Option.bind_some]
        simp only
        rw [r4, Option.bind_some]
        simp only
        rw [if_neg (by simp), w1, w2, w3, w4, aY (by omega), if_pos happ]
        simp only [List.length_append] at hI
        rw [show a.length + (c1.length + d1.length + c2.length + d2.length) = a.length + c1.length + d1.length + c2.length + d2.length by omega] at hI
        cases u
        rw [hI]
        rfl
theorem FS {A B : List Int} (hA : (chk A).2 = 0) (hB : (chk B).2 = 0) (l : List Tok) (hl : l.length ≤ 10000) (hv : aE l = true) (ho : ir (af A) (af B) l = true) (most : Int) (hm : (made l : Int) ≤ most) (hm0 : most ≤ 2000000000) (a r : List Bool)
    (hL : (a ++ ((bV A B l).2 ++ r)).length ≤ 1000000000) :
    Y7 200000 (A, B, most, (a.length : Int), 0, a ++ ((bV A B l).2 ++ r)) = some (0, ((a.length + (bV A B l).2.length : Nat) : Int), 0, l, a ++ ((bV A B l).2 ++ r)) := by
  have hd : (bV A B l).2 = l.flatMap (bU (af A) (af B)) ++ ag (at_ (af A) 256) := by
    unfold bV
    rw [hv, ho, hA, hB]
    simp only [Bool.not_true, bne_self_eq_false, Bool.or_self, cond_false, cond_true]
    unfold dq
    rw [List.take_length]
  unfold ir at ho
  rw [Bool.and_eq_true, List.all_eq_true] at ho
  have hv2 : ∀ t ∈ l, bu t.1 t.2.1 t.2.2.1 = true := by
    unfold aE at hv
    exact List.all_eq_true.1 hv
  have e : a ++ ((bV A B l).2 ++ r) = a ++ (l.flatMap (bU (af A) (af B)) ++ (ag (at_ (af A) 256) ++ r)) := by rw [hd, List.append_assoc]
  have h := RJ hA hB ho.1 most hm0 r l [] 0 a 200000 (by omega) (by simpa using (by omega : l.length ≤ 20000)) hv2 ho.2 (by omega) (by rw [← e]; exact hL)
  rw [← e, List.nil_append, show ((0 : Nat) : Int) = 0 from rfl, ← List.length_append, ← hd] at h
  simp only [Y7, ae]
  rw [Du (by decide), Option.bind_some, Du (by decide), Option.bind_some, hA, hB, if_neg (by simp), if_neg (by simp), sf (by decide) _ (bo hA).1 (bo hA).2, Option.bind_some, sf (by decide) _ (bo hB).1 (bo hB).2, Option.bind_some, SL, Option.bind_some, SK, Option.bind_some]
  simp only
  rw [h, Option.bind_some]
def jQ : List Int := List.replicate 144 8 ++ List.replicate 112 9 ++ List.replicate 24 7 ++ List.replicate 8 8
def jR : List Int := List.replicate 30 5
theorem Dt : F64 200000 () = some (jQ, jR) := by kernel_rfl
theorem Kw : F73 200000 () = some (jQ, jR) := by kernel_rfl
theorem vH : (chk jQ).2 = 0 := by decide +kernel
theorem vI : (chk jR).2 = 0 := by decide +kernel
theorem Qc : jQ.length = 288 := by decide +kernel
theorem Qe : jR.length = 30 := by decide +kernel
theorem Qb : ∀ s, s < 286 → 0 < jQ.getD s 0 := by decide +kernel
theorem Qd : ∀ s, s < 30 → 0 < jR.getD s 0 := by decide +kernel
theorem pY {lens : List Int} {s : Nat} (h : s < lens.length) (h0 : 0 < lens.getD s 0) : cT (af lens) s = true := by
  unfold cT
  rw [Bool.and_eq_true, decide_eq_true_eq, b8]
  refine ⟨h, ?_⟩
  rw [List.getD, il lens h, gQ, if_pos h0]
  simp only [Option.getD_some, Bool.not_eq_true', beq_eq_false_iff_ne]
  omega
theorem FN {A B : List qO} {l : List Tok} (hv : aE l = true) (hA : ∀ s, s < 286 → (s = 256 ∨ ∃ j, ∃ h : j < l.length, dx l[j] = s) → cT A s = true)
    (hB : ∀ s, s < 30 → (∃ j, ∃ h : j < l.length, tu l[j] = some s) → cT B s = true) : ir A B l = true := by
  unfold ir
  rw [Bool.and_eq_true, List.all_eq_true]
  refine ⟨hA 256 (by omega) (.inl rfl), fun t ht => ?_⟩
  obtain ⟨j, hj, rfl⟩ := List.getElem_of_mem ht
  have hva := eu hv hj
  have eA : dx l[j] < 286 → cT A (dx l[j]) = true := fun h => hA _ h (.inr ⟨j, hj, rfl⟩)
  have eB : ∀ s, s < 30 → tu l[j] = some s → cT B s = true := fun s h e => hB s h ⟨j, hj, e⟩
  generalize l[j] = t at *
  obtain ⟨b, L, D, u⟩ := t
  unfold ll
  rw [Bool.and_eq_true, Bool.or_eq_true, decide_eq_true_eq]
  rcases bN hva with ⟨e1, e3, e4⟩ | ⟨e1, e3, e4, e5, e6⟩
  · have e1 : L = 0 := e1
    have e3 : 0 ≤ b := e3
    have e4 : b ≤ 255 := e4
    exact ⟨eA (by unfold dx; rw [if_pos e1]; simp only; omega), .inl e1⟩
  · have e1 : L ≠ 0 := e1
    have e3 : 3 ≤ L := e3
    have e4 : L ≤ 258 := e4
    have e5 : 1 ≤ D := e5
    have e6 : D ≤ 32768 := e6
    obtain ⟨j, hj, ej, lj⟩ := jM e3 e4
    obtain ⟨k, hk, ek, lk⟩ := jT e5 e6
    exact ⟨eA (by unfold dx; rw [if_neg e1]; simp only [ej]; omega), .inr (eB _ (by simp only [ek]; omega) (by unfold tu; rw [if_neg e1]))⟩
theorem Hs {l : List Tok} (hv : aE l = true) : ir (af jQ) (af jR) l = true :=
  FN hv (fun s h _ => pY (by rw [Qc]; omega) (Qb s h)) (fun s h _ => pY (by rw [Qe]; omega) (Qd s h))
def gY (l : List Int) (least : Nat) : Nat → Nat
  | 0 => 0
  | n + 1 => if n + 1 > least then (if l.getD n 0 = 0 then gY l least n else n + 1) else n + 1
theorem po (l : List Int) (least : Nat) : ∀ n, gY l least n ≤ n
  | 0 => Nat.le_refl _
  | n + 1 => by
    unfold gY
    have := po l least n
    split
    · split <;> omega
    · omega
theorem Ec (l : List Int) (least : Nat) : ∀ n, least ≤ n → least ≤ gY l least n
  | 0, h => h
  | n + 1, h => by
    unfold gY
    split
    · split
      · exact Ec l least n (by omega)
      · omega
    · omega
theorem uu (l : List Int) (least : Nat) : ∀ n i, gY l least n ≤ i → i < n → l.getD i 0 = 0
  | 0, i, _, h => by omega
  | n + 1, i, h1, h2 => by
    unfold gY at h1
    split at h1
    · split at h1
      · by_cases e : i = n
        · subst e; assumption
        · exact uu l least n i h1 (by omega)
      · omega
    · omega
theorem RO (N : Nat) (l : List Int) (hl : l.length ≤ 1000) (least : Nat) (hle : least ≤ 1000) : ∀ (n f : Nat), n ≤ l.length → n < f → mH N f ((n : Int), (least : Int), l) = some (l, ((gY l least n : Nat) : Int)) := by
  intro n
  induction n with
  | zero =>
    intro f h1 h2
    cases f with
    | zero => omega
    | succ f =>
      simp only [mH, DT, ae]
      rw [aY (by omega)]
      rfl
  | succ n ih =>
    intro f h1 h2
    cases f with
    | zero => omega
    | succ f =>
      have w : IntKind.wrap .i64 (((n + 1 : Nat) : Int) - 1) = (n : Int) := by rw [wrap_i64 (by omega) (by omega)]; omega
      simp only [mH, DT, ae]
      unfold gY
      rw [w]
      by_cases h4 : n + 1 > least
      · rw [bd (by omega), if_pos h4, if_pos (au (by omega)), Int.toNat_natCast, bp (by omega), Option.bind_some]
        by_cases hz : l.getD n 0 = 0
        · rw [if_pos (by rw [hz]; rfl), if_pos hz, ih f (by omega) (by omega)]
          rfl
        · rw [if_neg (by simpa using hz), if_neg hz]
      · rw [aY (by omega), if_neg h4]
def dY (l : List Int) (least : Nat) : List Int := l.take (gY l least l.length)
theorem FT (l : List Int) (hl : l.length ≤ 1000) (least : Nat) (hle : least ≤ 1000) : V2 200000 (l, (least : Int)) = some (dY l least) := by
  have := po l least l.length
  simp only [V2, ae]
  rw [RO 200000 l hl least hle l.length 200000 (Nat.le_refl _) (by omega), Option.bind_some]
  simp only
  rw [bd (by omega), Int.toNat_natCast, Nat.sub_zero, List.drop_zero]
  rfl
theorem zg (l : List Int) (least : Nat) (h : least ≤ l.length) : least ≤ (dY l least).length ∧ (dY l least).length ≤ l.length := by
  have h1 := po l least l.length
  have h2 := Ec l least l.length h
  unfold dY
  rw [List.length_take]
  omega
theorem sx (l : List Int) (least : Nat) : ∃ k, l = dY l least ++ List.replicate k 0 := by
  refine ⟨l.length - gY l least l.length, ?_⟩
  have h1 := po l least l.length
  have h := ju (L := l) (v := 0) (i := gY l least l.length) (l.length - gY l least l.length) (by omega) fun k hk => uu l least l.length _ (by omega) (by omega)
  rw [show gY l least l.length + (l.length - gY l least l.length) = l.length by omega, List.take_length] at h
  exact h
theorem zh (l : List Int) (least : Nat) {s : Nat} (h : 0 < l.getD s 0) : s < (dY l least).length ∧ (dY l least).getD s 0 = l.getD s 0 := by
  obtain ⟨k, hk⟩ := sx l least
  have hs : s < (dY l least).length := by
    refine Classical.byContradiction fun hn => ?_
    rw [hk, List.getD, List.getElem?_append_right (by omega)] at h
    by_cases hr : s - (dY l least).length < k
    · rw [List.getElem?_replicate, if_pos hr] at h
      exact absurd h (by decide)
    · rw [List.getElem?_replicate, if_neg hr] at h
      exact absurd h (by decide)
  refine ⟨hs, ?_⟩
  have e : (dY l least ++ List.replicate k 0).getD s 0 = (dY l least).getD s 0 := by
    rw [List.getD, List.getElem?_append_left hs]
    rfl
  rw [← hk] at e
  exact e.symm
theorem qe (lens : List Int) : (chk lens).2 = 0 ↔ yL lens = true ∧ 0 ≤ lf lens 15 := by
  unfold chk
  constructor
  · intro h
    by_cases hc : yL lens = true ∧ 0 ≤ lf lens 15
    · exact hc
    · rw [if_neg hc] at h
      exact absurd h (by decide)
  · intro h
    rw [if_pos h]
theorem Fy {l : List Int} (h : (chk l).2 = 0) (least : Nat) : (chk (dY l least)).2 = 0 := by
  obtain ⟨k, hk⟩ := sx l least
  obtain ⟨h1, h2⟩ := (qe l).1 h
  obtain ⟨g1, g2⟩ := bo h
  have hok : okB (dY l least) = true := by
    have := g2
    rw [hk, kz, Bool.and_eq_true] at this
    exact this.1
  have hlen : (dY l least).length ≤ 320 := by
    have := congrArg List.length hk
    rw [List.length_append] at this
    omega
  have e1 := pW l 15 (Nat.le_refl _)
  have e2 := pW (dY l least) 15 (Nat.le_refl _)
  rw [gZ _ g2] at e1
  rw [gZ _ hok] at e2
  have et : dU l = dU (dY l least) := by
    have : dU (List.replicate k 0) = 0 := by
      clear hk
      induction k with
      | zero => rfl
      | succ k ih => rw [List.replicate_succ, dU, ih]; rfl
    rw [congrArg dU hk, lz, this, Int.add_zero]
  refine (qe _).2 ⟨?_, ?_⟩
  · unfold yL
    rw [hok, decide_eq_true hlen]
    rfl
  · rw [show (15 : Nat) - 15 = 0 from rfl] at e1 e2
    omega
theorem Ka {a : List Int} {n : Nat} {S : Nat → Prop} (h : CntAt a n 10001 S) : okF a = true := by
  obtain ⟨h1, h2, h3⟩ := h
  unfold okF
  rw [List.all_eq_true]
  intro x hx
  obtain ⟨j, hj, rfl⟩ := List.getElem_of_mem hx
  have := h2 j (by omega)
  rw [getD_at hj] at this
  rw [Bool.and_eq_true, decide_eq_true_eq, decide_eq_true_eq]
  omega
noncomputable def aC (l : List Tok) : List Int := match Ve 200000 l with
  | some r => dY (lU r.1 15).2 257
  | none => []
noncomputable def az (l : List Tok) : List Int := match Ve 200000 l with
  | some r => dY (lU r.2 15).2 1
  | none => []
structure OwnOk (l : List Tok) : Prop where
  hd : HdOk (aC l) (az l)
  a : (chk (aC l)).2 = 0
  b : (chk (az l)).2 = 0
  ok : ir (af (aC l)) (af (az l)) l = true
  run : ∃ r, Ve 200000 l = some r ∧ ∃ x y, V1 200000 r.1 = some x ∧ V2 200000 (x, 257) = some (aC l) ∧ V1 200000 r.2 = some y ∧ V2 200000 (y, 1) = some (az l)
theorem A0 {l : List Tok} (hl : l.length ≤ 10000) (hv : aE l = true) : OwnOk l := by
  obtain ⟨r, r1, r2, r3⟩ := xY l hl hv
  have z1 : r.1.length = 286 := r2.len
  have z2 : r.2.length = 30 := r3.len
  obtain ⟨x, x1, x2, x3, x4⟩ := rz (fr := r.1) (m := 15) (by omega) (by decide) (by decide) (by rw [z1]; decide) (Ka r2)
  obtain ⟨y, y1, y2, y3, y4⟩ := rz (fr := r.2) (m := 15) (by omega) (by decide) (by decide) (by rw [z2]; decide) (Ka r3)
  have x1 : lU r.1 15 = (0, x) := x1
  have y1 : lU r.2 15 = (0, y) := y1
  have eX : aC l = dY x 257 := by unfold aC; rw [r1]; simp only [x1]
  have eY : az l = dY y 1 := by unfold az; rw [r1]; simp only [y1]
  have cX := Fy x3 257
  have cY := Fy y3 1
  have lX := zg x 257 (by omega)
  have lY := zg y 1 (by omega)
  refine ⟨?_, ?_, ?_, ?_, r, r1, x, y, ?_, ?_, ?_, ?_⟩
  · rw [eX, eY]
    exact ⟨lX.1, by omega, lY.1, by omega, (bo cX).2, (bo cY).2⟩
  · rw [eX]; exact cX
  · rw [eY]; exact cY
  · rw [eX, eY]
    refine FN hv (fun s hs hS => ?_) (fun s hs hS => ?_)
    · have := (x4 s (by omega)).1 ((r2.iff s hs).2 hS)
      obtain ⟨g1, g2⟩ := zh x 257 (s := s) (by omega)
      exact pY g1 (by omega)
    · have := (y4 s (by omega)).1 ((r3.iff s hs).2 hS)
      obtain ⟨g1, g2⟩ := zh y 1 (s := s) (by omega)
      exact pY g1 (by omega)
  · simp only [V1]; rw [ya, x1, Option.bind_some]
  · rw [eX]; exact FT x (by omega) 257 (by decide)
  · simp only [V1]; rw [ya, y1, Option.bind_some]
  · rw [eY]; exact FT y (by omega) 1 (by decide)
noncomputable def aR (l : List Tok) (own last : Bool) : List Bool :=
  [last] ++ an 2 (if own = true then 2 else 1) ++ (if own = true then l0 (aC l) (az l) ++ (bV (aC l) (az l) l).2 else (bV jQ jR l).2)
theorem vE (b : Bool) (m : List Bool) (hm : m.length ≤ 100000000) (k : Int) : RX 200000 (b, k, aP m, nF m, bF m) = some (aP (m ++ ([b] ++ an 2 k)), nF (m ++ ([b] ++ an 2 k)), bF (m ++ ([b] ++ an 2 k))) := by
  simp only [RX, ae]
  have h2 : (an 2 k).length = 2 := by rw [al]; rfl
  cases b with
  | true =>
    rw [if_pos rfl, bj (by decide) m (by omega), Option.bind_some, show an 1 1 = [true] from rfl, bj (by decide) _ (by simp; omega), Option.bind_some, List.append_assoc]
  | false =>
    rw [if_neg (by decide), bj (by decide) m (by omega), Option.bind_some, show an 1 0 = [false] from rfl, bj (by decide) _ (by simp; omega), Option.bind_some, List.append_assoc]
theorem J6 {A B : List Int} {l : List Tok} (hv : aE l = true) (hA : (chk A).2 = 0) (hB : (chk B).2 = 0) (ho : ir (af A) (af B) l = true) : (bV A B l).1 = 0 := by
  unfold bV
  rw [hv, ho, hA, hB]
  rfl
theorem D8 (l : List Tok) (hl : l.length ≤ 10000) (x2 x3 : Bool) (x6 x7 : Int) (x8 : List Int) : ∀ (d i f : Nat), i + d = l.length → d < f →
    ((∀ j (h : j < l.length), i ≤ j → bu l[j].1 l[j].2.1 l[j].2.2.1 = true) → kT 200000 f ((l.length : Int), l, x2, x3, l, (i : Int), x6, x7, x8) = some (.inr (x3, x2, l, x6, x7, x8))) ∧
    ((∃ j, ∃ h : j < l.length, i ≤ j ∧ bu l[j].1 l[j].2.1 l[j].2.2.1 = false) → kT 200000 f ((l.length : Int), l, x2, x3, l, (i : Int), x6, x7, x8) = some (.inl (1, x6, x7, x8))) := by
  intro d
  induction d with
  | zero =>
    intro i f hi hf
    cases f with
    | zero => omega
    | succ f =>
      simp only [kT, D1, ae]
      rw [aY (by omega)]
      exact ⟨fun _ => rfl, fun ⟨j, h1, h2, _⟩ => by omega⟩
  | succ d ih =>
    intro i f hi hf
    cases f with
    | zero => omega
    | succ f =>
      have hil : i < l.length := by omega
      obtain ⟨ih1, ih2⟩ := ih (i + 1) f (by omega) (by omega)
      have hli : l[i]? = some l[i] := List.getElem?_eq_getElem hil
      have hw : IntKind.wrap .i64 ((i : Int) + 1) = ((i + 1 : Nat) : Int) := by rw [wrap_i64 (by omega) (by omega)]; omega
      have hwi : within (i : Int) l.length = true := au hil
      have hc : decide ((i : Int) < (l.length : Int)) = true := by simp only [decide_eq_true_eq]; omega
      simp only [kT, D1, hc, hwi, if_true, Int.toNat_natCast, hli, Option.bind_some, hw, nP, ae]
      cases hv : bu l[i].1 l[i].2.1 l[i].2.2.1 with
      | false =>
        simp only [Bool.not_false, if_true]
        exact ⟨fun h => (by have := h i hil (Nat.le_refl _); rw [hv] at this; cases this), fun _ => by first | rfl | trivial⟩
      | true =>
        simp only [Bool.not_true, Bool.false_eq_true, if_false]
        refine ⟨fun h => by rw [ih1 fun j h1 h2 => h j h1 (by omega)]; rfl, fun ⟨j, h1, h2, h3⟩ => ?_⟩
        rw [ih2 ⟨j, h1, by
          by_cases e : j = i
          · subst e; rw [hv] at h3; cases h3
          · omega, h3⟩]
        rfl
theorem Aq {l : List Tok} (hl : l.length ≤ 10000) (hv : aE l = true) (own last : Bool) (m : List Bool) (hm : m.length ≤ 90000000) :
    V9 200000 (l, own, last, aP m, nF m, bF m) = some (0, aP (m ++ aR l own last), nF (m ++ aR l own last), bF (m ++ aR l own last)) := by
  have h := (D8 l hl last own (aP m) (nF m) (bF m) l.length 0 200000 (by omega) (by omega)).1 (pj hv)
  rw [show ((0 : Nat) : Int) = 0 from rfl] at h
  have h2 : ∀ k, (an 2 k).length = 2 := fun k => by rw [al]; rfl
  simp only [V9, ae]
  rw [h, Option.bind_some]
  simp only
  cases own with
  | false =>
    rw [if_pos (show (!false) = true from rfl), vE last m (by omega) 1, Option.bind_some, Dt, Option.bind_some]
    simp only
    rw [FU jQ jR l hl (m ++ ([last] ++ an 2 1)) (by simp only [List.length_append, h2]; simp; omega), Option.bind_some, J6 hv vH vI (Hs hv)]
    unfold aR
    simp only [Bool.false_eq_true, if_false, List.append_assoc]
  | true =>
    obtain ⟨o1, o2, o3, o4, r, g1, x, y, g2, g3, g4, g5⟩ := A0 hl hv
    have hbl := J2 o1
    rw [if_neg (by decide), g1, Option.bind_some, g2, Option.bind_some, g3, Option.bind_some, g4, Option.bind_some, g5, Option.bind_some, vE last m (by omega) 2, Option.bind_some]
    simp only
    rw [YJ o1 _ (by simp only [List.length_append, h2]; simp; omega), Option.bind_some]
    simp only
    rw [if_neg (by simp), FU (aC l) (az l) l hl _ (by simp only [List.length_append, h2]; simp; omega), Option.bind_some, J6 hv o2 o3 o4]
    unfold aR
    simp only [if_true, List.append_assoc]
theorem vT {l : List Tok} (hl : l.length ≤ 10000) (hv : aE l = true) (own last : Bool) : (aR l own last).length ≤ 1400000 := by
  have h2 : ∀ k, (an 2 k).length = 2 := fun k => by rw [al]; rfl
  unfold aR
  have d1 := Fs jQ jR l hl
  have d2 := Fs (aC l) (az l) l hl
  have hbl := J2 (A0 hl hv).hd
  cases own with
  | false =>
    simp only [Bool.false_eq_true, if_false, List.length_append, h2, List.length_singleton]
    omega
  | true =>
    simp only [if_true, List.length_append, h2, List.length_singleton]
    omega
def lq (D : Nat) : Nat → List Int → List Int
  | 0, o => o
  | k + 1, o => lq D k (o ++ [o.getD (o.length - D) 0])
theorem nG (D : Nat) : ∀ k o, (lq D k o).length = o.length + k
  | 0, _ => rfl
  | k + 1, o => by unfold lq; rw [nG D k, List.length_append, List.length_singleton]; omega
def fL (o : List Int) (t : Tok) : Option (List Int) :=
  if t.2.1 = 0 then some (o ++ [t.1]) else if (o.length : Int) < t.2.2.1 then none else some (lq t.2.2.1.toNat t.2.1.toNat o)
def jl : List Int → List Tok → Option (List Int)
  | o, [] => some o
  | o, t :: l => match fL o t with
    | some p => jl p l
    | none => none
theorem Ql {o p : List Int} {t : Tok} (h : fL o t = some p) : p.length = o.length + bX t := by
  unfold fL at h
  unfold bX
  split at h
  · rename_i e
    cases h
    rw [if_pos e, List.length_append, List.length_singleton]
  · rename_i e
    split at h
    · cases h
    · cases h
      rw [if_neg e, nG]
theorem nA (t : Tok) (l : List Tok) : made (t :: l) = bX t + made l := by unfold made; rw [List.map_cons, List.sum_cons]
theorem vL : ∀ {l : List Tok} {o p : List Int}, jl o l = some p → p.length = o.length + made l
  | [], o, p, h => by cases h; rfl
  | t :: l, o, p, h => by
    unfold jl at h
    cases ht : fL o t with
    | none => rw [ht] at h; cases h
    | some q =>
      rw [ht] at h
      have := vL h
      rw [this, Ql ht, nA]
      omega
theorem MH (N : Nat) (b l d : Int) : F71 N (b, l, d) = some (bu b l d) := by
  simp only [F71, ae]
  unfold bu inT
  by_cases h : l = 0
  · subst h
    rw [if_pos (by rfl), if_pos rfl]
    by_cases hd : d = 0
    · subst hd
      rw [if_pos (by rfl)]
      by_cases h0 : 0 ≤ b
      · rw [if_pos (by simpa using h0), decide_eq_true h0]; simp
      · rw [if_neg (by simpa using h0), decide_eq_false h0]; simp
    · rw [if_neg (by simpa using hd), decide_eq_false hd]; rfl
  · rw [if_neg (by simpa using h), if_neg h]
    by_cases hb : b = 0
    · subst hb
      rw [if_pos (by rfl)]
      by_cases h1 : 3 ≤ l
      · rw [if_pos (by simpa using h1), decide_eq_true h1]
        by_cases h2 : l ≤ 258
        · rw [if_pos (by simpa using h2), decide_eq_true h2]
          by_cases h3 : 1 ≤ d
          · rw [if_pos (by simpa using h3), decide_eq_true h3]; simp
          · rw [if_neg (by simpa using h3), decide_eq_false h3]; simp
        · rw [if_neg (by simpa using h2), decide_eq_false h2]; simp
      · rw [if_neg (by simpa using h1), decide_eq_false h1]; simp
    · rw [if_neg (by simpa using hb), decide_eq_false hb]; rfl
theorem RZ (N : Nat) (x1 : Int) (l : List Tok) {i : Nat} (hi : i < l.length) {b Ln D : Int} {u : Unit} (hli : l[i] = (b, Ln, D, u)) (hD : 1 ≤ D) (hD2 : D ≤ 32768) (hL0 : 0 ≤ Ln) (hL : Ln ≤ 258) : ∀ (d k f : Nat) (o : List Int), k + d = Ln.toNat → d < f → D ≤ (o.length : Int) → o.length + d ≤ 10000000 →
    cH N f ((k : Int), x1, l, (i : Int), o) = some ((i : Int), x1, l, lq D.toNat d o) := by
  have hlg : l[i]? = some (b, Ln, D, u) := by rw [List.getElem?_eq_getElem hi, hli]
  intro d
  induction d with
  | zero =>
    intro k f o hk hf ho ho2
    cases f with
    | zero => omega
    | succ f =>
      simp only [cH, k5, ae]
      rw [if_pos (au hi), Int.toNat_natCast, hlg, Option.bind_some]
      simp only
      rw [aY (by omega)]
      rfl
  | succ d ih =>
    intro k f o hk hf ho ho2
    cases f with
    | zero => omega
    | succ f =>
      have w : IntKind.wrap .i64 ((k : Int) + 1) = ((k + 1 : Nat) : Int) := by rw [wrap_i64 (by omega) (by omega)]; omega
      have w2 : IntKind.wrap .i64 ((o.length : Int) - D) = ((o.length - D.toNat : Nat) : Int) := by rw [wrap_i64 (by omega) (by omega)]; omega
      simp only [cH, k5, ae]
      rw [if_pos (au hi), Int.toNat_natCast, hlg, Option.bind_some]
      simp only
      rw [bd (by omega), if_pos (au hi), Option.bind_some]
      simp only
      rw [w2, if_pos (au (by omega)), Int.toNat_natCast, bp (by omega), Option.bind_some, if_pos (by rw [decide_eq_true_eq, List.length_singleton]; omega), w, ih (k + 1) f _ (by omega) (by omega) (by rw [List.length_append, List.length_singleton]; omega) (by rw [List.length_append, List.length_singleton]; omega)]
      rfl
theorem uo {b : Int} (h0 : 0 ≤ b) (h1 : b ≤ 255) : IntKind.wrap .u8 b = b := by rw [wrap_u8]; omega
theorem RY (x0 : Int) (l : List Tok) (hl : l.length ≤ 20000) (hv : aE l = true) : ∀ (d i f : Nat) (o : List Int), i + d = l.length → d < f → o.length + made (l.drop i) ≤ 9000000 →
    iV 200000 f (x0, l, (i : Int), o) = some (match jl o (l.drop i) with | some p => .inr (x0, p) | none => .inl (ByteArray.mk #[], 60)) := by
  intro d
  induction d with
  | zero =>
    intro i f o hi hf ho
    cases f with
    | zero => omega
    | succ f =>
      simp only [iV, ub, ae]
      rw [aY (by omega), List.drop_eq_nil_of_le (by omega)]
      rfl
  | succ d ih =>
    intro i f o hi hf ho
    cases f with
    | zero => omega
    | succ f =>
      have hil : i < l.length := by omega
      have hd : l.drop i = l[i] :: l.drop (i + 1) := List.drop_eq_getElem_cons hil
      have hva := eu hv hil
      rw [hd, nA] at ho
      have hw : IntKind.wrap .i64 ((i : Int) + 1) = ((i + 1 : Nat) : Int) := by rw [wrap_i64 (by omega) (by omega)]; omega
      have hli : l[i]? = some l[i] := List.getElem?_eq_getElem hil
      obtain ⟨mm1, mm2⟩ := jL hva
      simp only [iV, ub, ae]
      rw [hd]
      rw [bd (by omega), if_pos (au hil), Int.toNat_natCast, hli, Option.bind_some, MH, Option.bind_some, hva, if_neg (by simp), if_pos (au hil), Option.bind_some, hw]
      unfold jl
      have hge : ∀ {b Ln D : Int} {u : Unit}, l[i] = (b, Ln, D, u) → l[i] = (b, Ln, D, u) := fun h => h
      generalize hte : l[i] = t at *
      obtain ⟨b, Ln, D, u⟩ := t
      rcases bN hva with ⟨e1, e3, e4⟩ | ⟨e1, e3, e4, e5, e6⟩
      · have e1 : Ln = 0 := e1
        have e3 : 0 ≤ b := e3
        have e4 : b ≤ 255 := e4
        subst e1
        have hm1 : bX (b, 0, D, u) = 1 := rfl
        have hx : fL o (b, 0, D, u) = some (o ++ [b]) := by unfold fL; rw [if_pos rfl]
        rw [hm1] at ho
        simp only
        rw [if_pos (by rfl), if_pos (au hil), Option.bind_some]
        simp only
        rw [uo e3 e4, if_pos (by rw [decide_eq_true_eq, List.length_singleton]; omega), hx, ih (i + 1) f (o ++ [b]) (by omega) (by omega) (by rw [List.length_append, List.length_singleton]; omega), Option.bind_some]
        simp only
        cases jl (o ++ [b]) (l.drop (i + 1)) <;> rfl
      · have e1 : Ln ≠ 0 := e1
        have e3 : 3 ≤ Ln := e3
        have e4 : Ln ≤ 258 := e4
        have e5 : 1 ≤ D := e5
        have e6 : D ≤ 32768 := e6
        have hm1 : bX (b, Ln, D, u) = Ln.toNat := by unfold bX; rw [if_neg e1]
        rw [hm1] at ho
        simp only
        rw [if_neg (by simpa using e1), if_pos (au hil), Option.bind_some]
        simp only
        by_cases hD : (o.length : Int) < D
        · have hx : fL o (b, Ln, D, u) = none := by unfold fL; rw [if_neg e1, if_pos hD]
          rw [if_pos (by simpa using hD), hx]
        · have hx : fL o (b, Ln, D, u) = some (lq D.toNat Ln.toNat o) := by unfold fL; rw [if_neg e1, if_neg hD]
          have hc := RZ 200000 x0 l hil hte e5 e6 (by omega) e4 Ln.toNat 0 200000 o (by omega) (by omega) (by omega) (by omega)
          rw [show ((0 : Nat) : Int) = 0 from rfl] at hc
          rw [if_neg (by simpa using hD), hc, Option.bind_some, hx]
          simp only
          rw [hw, ih (i + 1) f _ (by omega) (by omega) (by rw [nG]; omega), Option.bind_some]
          cases jl (lq D.toNat Ln.toNat o) (l.drop (i + 1)) <;> rfl
def aX (w : ByteArray) : ByteArray := if 32768 < w.size then w.extract (w.size - 32768) w.size else w
theorem hZ (w : ByteArray) : (aX w).size = min w.size 32768 := by
  unfold aX
  split
  · rw [ByteArray.size_extract]; omega
  · omega
theorem RN (N : Nat) (w : ByteArray) (hw : w.size ≤ 1000000) : F70 N w = some (aX w) := by
  simp only [F70, ae]
  unfold aX
  by_cases h : 32768 < w.size
  · have e : IntKind.wrap .i64 ((w.size : Int) - 32768) = ((w.size - 32768 : Nat) : Int) := by rw [wrap_i64 (by omega) (by omega)]; omega
    rw [bd (by omega), e, bd (by omega), if_pos h, Int.toNat_natCast]
  · rw [aY (by omega), if_neg h]
theorem dp (s : ByteArray) : (bytesOf s).length = s.size := by rw [bG, List.length_map]; simp
def oH (w : ByteArray) (l : List Tok) : ByteArray × Int := match jl (bytesOf (aX w)) l with
  | some p => (aI (p.drop (aX w).size), 0)
  | none => (ByteArray.mk #[], 60)
theorem IX (w : ByteArray) (hw : w.size ≤ 1000000) (l : List Tok) (hl : l.length ≤ 20000) (hv : aE l = true) (hm : made l ≤ 8000000) : Zf 200000 (w, l) = some (oH w l) := by
  have hs := hZ w
  have hb := dp (aX w)
  have h := RY ((bytesOf (aX w)).length : Int) l hl hv l.length 0 200000 (bytesOf (aX w)) (by omega) (by omega) (by rw [List.drop_zero]; omega)
  rw [show ((0 : Nat) : Int) = 0 from rfl, List.drop_zero] at h
  simp only [Zf, ae]
  rw [RN _ w hw, Option.bind_some, if_pos (by rw [decide_eq_true_eq]; omega), List.nil_append, h, Option.bind_some]
  unfold oH
  cases hx : jl (bytesOf (aX w)) l with
  | none => rfl
  | some p =>
    have hlen := vL hx
    simp only
    rw [bd (by omega), Int.toNat_natCast, List.take_of_length_le (by rw [List.length_drop]; omega), hb]
theorem FF (b : Bool) : an 1 (if b = true then 1 else 0) = [b] := Pl b
theorem AV {a r : List Bool} (b : Bool) (hL : (a ++ ([b] ++ r)).length ≤ 1000000000) : Ar 200000 (1, (a.length : Int), 0, a ++ ([b] ++ r)) = some ((b.toNat : Int), ((a.length + 1 : Nat) : Int), 0, a ++ ([b] ++ r)) :=
  Hf (by decide) _ _ hL b (by rw [List.getElem?_append_right (by omega), Nat.sub_self]; rfl)
theorem A9 {l : List Tok} (hv : aE l = true) : made l ≤ 258 * l.length := by
  induction l with
  | nil => exact Nat.le_refl _
  | cons t l ih =>
    unfold aE at hv ih
    rw [List.all_cons, Bool.and_eq_true] at hv
    have := ih hv.2
    have := jL hv.1
    rw [nA, List.length_cons]
    omega
theorem MS {l : List Tok} (hl : l.length ≤ 10000) (hv : aE l = true) (own last : Bool) (w : ByteArray) (hw : w.size ≤ 1000000) (most : Int) (hm : (made l : Int) ≤ most) (hm0 : most ≤ 2000000000) (a r : List Bool)
    (hL : (a ++ (aR l own last ++ r)).length ≤ 1000000000) :
    S1 200000 (w, most, (a.length : Int), 0, a ++ (aR l own last ++ r)) =
      some (if (oH w l).2 = 0 then ((oH w l).1, last, (if own = true then 2 else 1), 0, ((a.length + (aR l own last).length : Nat) : Int), 0, a ++ (aR l own last ++ r)) else (ByteArray.mk #[], false, 0, (oH w l).2, ((a.length + (aR l own last).length : Nat) : Int), 0, a ++ (aR l own last ++ r))) := by
  have hmade := A9 hv
  have hE := IX w hw l (by omega) hv (by omega)
  generalize oH w l = E at *
  generalize hQ : a ++ (aR l own last ++ r) = Q at *
  have h2 : ∀ k, (an 2 k).length = 2 := fun k => by rw [al]; rfl
  have c2 : am 2 = 2 := rfl
  have hlast : ((last.toNat : Int) == 1) = last := by cases last <;> rfl
  cases own with
  | false =>
    have hC : aR l false last = [last] ++ an 2 1 ++ (bV jQ jR l).2 := by unfold aR; simp only [Bool.false_eq_true, if_false]
    have b1 : Q = a ++ ([last] ++ (an 2 1 ++ ((bV jQ jR l).2 ++ r))) := by rw [← hQ, hC]; simp only [List.append_assoc]
    have b2 : Q = (a ++ [last]) ++ (an 2 1 ++ ((bV jQ jR l).2 ++ r)) := by rw [b1]; simp only [List.append_assoc]
    have b3 : Q = (a ++ [last] ++ an 2 1) ++ ((bV jQ jR l).2 ++ r) := by rw [b1]; simp only [List.append_assoc]
    have r1 := AV (a := a) (r := an 2 1 ++ ((bV jQ jR l).2 ++ r)) last (by rw [← b1]; exact hL)
    rw [← b1] at r1
    have r2 := jj (N := 200000) (by decide) (a ++ [last]) ((bV jQ jR l).2 ++ r) 2 1 (by rw [← b2]; exact hL)
    rw [← b2, c2, List.length_append, List.length_singleton] at r2
    have r3 := FS vH vI l hl hv (Hs hv) most hm hm0 (a ++ [last] ++ an 2 1) r (by rw [← b3]; exact hL)
    rw [← b3, List.length_append, List.length_append, List.length_singleton, h2] at r3
    have hlen : a.length + 1 + 2 + (bV jQ jR l).2.length = a.length + (aR l false last).length := by rw [hC]; simp only [List.length_append, List.length_singleton, h2]; omega
    rw [hlen] at r3
    simp only [S1, kS, ae]
    rw [r1, Option.bind_some]
    simp only
    rw [r2, Option.bind_some, show (cq 2 1 : Int) = 1 from rfl, hlast]
    simp only
    rw [if_neg (by simp), if_neg (by simp), if_neg (by simp), Kw, Option.bind_some, if_neg (by simp), r3, Option.bind_some]
    simp only
    rw [if_neg (by simp), if_neg (by simp), if_neg (by simp), hE, Option.bind_some]
    by_cases h0 : E.2 = 0
    · rw [if_neg (by simpa using h0), Option.bind_some, if_pos h0]
      rfl
    · rw [if_pos (by simpa using h0), Option.bind_some, if_neg h0]
  | true =>
    obtain ⟨o1, o2, o3, o4, _⟩ := A0 hl hv
    have hC : aR l true last = [last] ++ an 2 2 ++ (l0 (aC l) (az l) ++ (bV (aC l) (az l) l).2) := by unfold aR; simp only [if_true]
    have b1 : Q = a ++ ([last] ++ (an 2 2 ++ (l0 (aC l) (az l) ++ ((bV (aC l) (az l) l).2 ++ r)))) := by rw [← hQ, hC]; simp only [List.append_assoc]
    have b2 : Q = (a ++ [last]) ++ (an 2 2 ++ (l0 (aC l) (az l) ++ ((bV (aC l) (az l) l).2 ++ r))) := by rw [b1]; simp only [List.append_assoc]
    have b3 : Q = (a ++ [last] ++ an 2 2) ++ (l0 (aC l) (az l) ++ ((bV (aC l) (az l) l).2 ++ r)) := by rw [b1]; simp only [List.append_assoc]
    have b4 : Q = (a ++ [last] ++ an 2 2 ++ l0 (aC l) (az l)) ++ ((bV (aC l) (az l) l).2 ++ r) := by rw [b1]; simp only [List.append_assoc]
    have r1 := AV (a := a) (r := an 2 2 ++ (l0 (aC l) (az l) ++ ((bV (aC l) (az l) l).2 ++ r))) last (by rw [← b1]; exact hL)
    rw [← b1] at r1
    have r2 := jj (N := 200000) (by decide) (a ++ [last]) (l0 (aC l) (az l) ++ ((bV (aC l) (az l) l).2 ++ r)) 2 2 (by rw [← b2]; exact hL)
    rw [← b2, c2, List.length_append, List.length_singleton] at r2
    have r3 := IY o1 (a ++ [last] ++ an 2 2) ((bV (aC l) (az l) l).2 ++ r) (by rw [← b3]; exact hL)
    rw [← b3, List.length_append, List.length_append, List.length_singleton, h2] at r3
    have r4 := FS o2 o3 l hl hv o4 most hm hm0 (a ++ [last] ++ an 2 2 ++ l0 (aC l) (az l)) r (by rw [← b4]; exact hL)
    rw [← b4, List.length_append, List.length_append, List.length_append, List.length_singleton, h2] at r4
    have hlen : a.length + 1 + 2 + (l0 (aC l) (az l)).length + (bV (aC l) (az l) l).2.length = a.length + (aR l true last).length := by rw [hC]; simp only [List.length_append, List.length_singleton, h2]; omega
    rw [hlen] at r4
    have ht1 : List.take (aC l).length (aC l ++ az l) = aC l := List.take_left
    have ht2 : List.take (az l).length (List.drop (aC l).length (aC l ++ az l)) = az l := by rw [List.drop_left, List.take_length]
    simp only [S1, mO, ae]
    rw [r1, Option.bind_some]
    simp only
    rw [r2, Option.bind_some, show (cq 2 2 : Int) = 2 from rfl, hlast]
    simp only
    rw [if_neg (by simp), if_neg (by simp), if_neg (by simp), Kw, Option.bind_some, if_pos (by rfl), r3, Option.bind_some]
    simp only
    rw [if_neg (by simp), ht1, ht2, r4, Option.bind_some]
    simp only
    rw [if_neg (by simp), if_neg (by simp), if_neg (by simp), hE, Option.bind_some]
    by_cases h0 : E.2 = 0
    · rw [if_neg (by simpa using h0), Option.bind_some, if_pos h0]
      rfl
    · rw [if_pos (by simpa using h0), Option.bind_some, if_neg h0]
end Go.Proofs.YteddgkplkjldcaaGreat.Am
