/- Bundles by their weights, rows upon rows of them: no room is left (no condition). -/
import Derived.Test.YtpjkklailofkjaaAmA
/- Bundles by their weights: sorted, side by side, paired. -/
namespace Go.Am
set_option linter.unusedSimpArgs false
set_option linter.unusedVariables false

abbrev Bun := Int × (List Int × Unit)

/-- Into its place: ahead of what is not lighter. -/
def insB (x : Bun) : List Bun → List Bun
  | [] => [x]
  | y :: l => if x.1 ≤ y.1 then x :: y :: l else y :: insB x l
def isort : List Bun → List Bun
  | [] => []
  | x :: l => insB x (isort l)
/-- Two lists, the lighter ones first, of equal ones the first list's. -/
def mrg : List Bun → List Bun → List Bun
  | [], b => b
  | x :: a, [] => x :: a
  | x :: a, y :: b => if y.1 < x.1 then y :: mrg (x :: a) b else x :: mrg a (y :: b)

def Srt (l : List Bun) : Prop := l.Pairwise fun x y => x.1 ≤ y.1

theorem mrg_cons (x : Bun) (a : List Bun) (y : Bun) (b : List Bun) : mrg (x :: a) (y :: b) = if y.1 < x.1 then y :: mrg (x :: a) b else x :: mrg a (y :: b) := by rw [mrg]
theorem mrg_nil0 (b : List Bun) : mrg [] b = b := by rw [mrg]
theorem mrg_nil (a : List Bun) : mrg a [] = a := by cases a <;> rw [mrg]

theorem insB_perm (x : Bun) : ∀ l, (insB x l).Perm (x :: l)
  | [] => .refl _
  | y :: l => by
    rw [insB]
    split
    · exact .refl _
    · exact ((insB_perm x l).cons y).trans (.swap x y l)
theorem isort_perm : ∀ l, (isort l).Perm l
  | [] => .refl _
  | x :: l => (insB_perm x _).trans ((isort_perm l).cons x)
theorem isort_len (l : List Bun) : (isort l).length = l.length := (isort_perm l).length_eq

theorem insB_srt (x : Bun) : ∀ l, Srt l → Srt (insB x l)
  | [], _ => List.pairwise_singleton _ _
  | y :: l, h => by
    rw [insB]
    have h' := List.pairwise_cons.1 h
    split
    · rename_i hxy
      exact List.pairwise_cons.2 ⟨fun z hz => by
        rcases List.mem_cons.1 hz with rfl | hz
        · exact hxy
        · exact Int.le_trans hxy (h'.1 z hz), h⟩
    · rename_i hxy
      refine List.pairwise_cons.2 ⟨fun z hz => ?_, insB_srt x l h'.2⟩
      rcases List.mem_cons.1 ((insB_perm x l).mem_iff.1 hz) with rfl | hz
      · omega
      · exact h'.1 z hz
theorem isort_srt : ∀ l, Srt (isort l)
  | [] => .nil
  | x :: l => insB_srt x _ (isort_srt l)

theorem insB_head (x : Bun) (l : List Bun) (h : ∀ y ∈ l, x.1 ≤ y.1) : insB x l = x :: l := by
  cases l with
  | nil => rfl
  | cons y l => rw [insB, if_pos (h y (List.mem_cons_self ..))]
theorem isort_id : ∀ l, Srt l → isort l = l
  | [], _ => rfl
  | x :: l, h => by
    have h' := List.pairwise_cons.1 h
    rw [isort, isort_id l h'.2, insB_head x l h'.1]

theorem mrg_perm : ∀ a b, (mrg a b).Perm (a ++ b)
  | [], b => by rw [mrg]; exact .refl _
  | x :: a, [] => by rw [mrg, List.append_nil]
  | x :: a, y :: b => by
    rw [mrg]
    split
    · exact ((mrg_perm (x :: a) b).cons y).trans (List.perm_middle.symm)
    · exact (mrg_perm a (y :: b)).cons x
termination_by a b => a.length + b.length
theorem mrg_len (a b : List Bun) : (mrg a b).length = a.length + b.length := by rw [(mrg_perm a b).length_eq, List.length_append]

theorem mrg_srt : ∀ a b, Srt a → Srt b → Srt (mrg a b)
  | [], b, _, hb => by rw [mrg]; exact hb
  | x :: a, [], ha, _ => by rw [mrg]; exact ha
  | x :: a, y :: b, ha, hb => by
    have ha' := List.pairwise_cons.1 ha
    have hb' := List.pairwise_cons.1 hb
    rw [mrg]
    split
    · rename_i h
      refine List.pairwise_cons.2 ⟨fun z hz => ?_, mrg_srt (x :: a) b ha hb'.2⟩
      rcases List.mem_append.1 ((mrg_perm _ _).mem_iff.1 hz) with hz | hz
      · rcases List.mem_cons.1 hz with rfl | hz
        · omega
        · have := ha'.1 z hz; omega
      · exact hb'.1 z hz
    · rename_i h
      refine List.pairwise_cons.2 ⟨fun z hz => ?_, mrg_srt a (y :: b) ha'.2 hb⟩
      rcases List.mem_append.1 ((mrg_perm _ _).mem_iff.1 hz) with hz | hz
      · exact ha'.1 z hz
      · rcases List.mem_cons.1 hz with rfl | hz
        · omega
        · have := hb'.1 z hz; omega
termination_by a b => a.length + b.length

/-- One more goes into its place, whether ahead or behind. -/
theorem mrg_ins (x : Bun) : ∀ a b, Srt a → Srt b → mrg (insB x a) b = insB x (mrg a b)
  | [], [], _, _ => by simp [insB, mrg]
  | [], y :: b, _, hb => by
    have hb' := List.pairwise_cons.1 hb
    rw [insB, mrg, mrg]
    split
    · rename_i h
      have := mrg_ins x [] b .nil hb'.2
      rw [insB, mrg] at this
      rw [this, insB, if_neg (by omega)]
    · rename_i h
      rw [mrg, insB, if_pos (by omega)]
  | z :: a, [], _, _ => by rw [mrg_nil, mrg]
  | z :: a, y :: b, ha, hb => by
    have ha' := List.pairwise_cons.1 ha
    have hb' := List.pairwise_cons.1 hb
    rw [insB]
    by_cases hxz : x.1 ≤ z.1
    · rw [if_pos hxz, mrg]
      by_cases hyx : y.1 < x.1
      · have ih := mrg_ins x (z :: a) b ha hb'.2
        rw [insB, if_pos hxz] at ih
        rw [if_pos hyx, mrg, if_pos (by omega), insB, if_neg (by omega), ih]
      · rw [if_neg hyx]
        rw [insB_head]
        intro w hw
        rcases List.mem_append.1 ((mrg_perm _ _).mem_iff.1 hw) with hw | hw
        · rcases List.mem_cons.1 hw with rfl | hw
          · exact hxz
          · have := ha'.1 w hw; omega
        · rcases List.mem_cons.1 hw with rfl | hw
          · omega
          · have := hb'.1 w hw; omega
    · rw [if_neg hxz, mrg, mrg]
      by_cases hyz : y.1 < z.1
      · have ih := mrg_ins x (z :: a) b ha hb'.2
        rw [insB, if_neg hxz] at ih
        rw [if_pos hyz, if_pos hyz, ih, insB, if_neg (by omega)]
      · rw [if_neg hyz, if_neg hyz, mrg_ins x a (y :: b) ha'.2 hb, insB, if_neg (by omega)]
termination_by a b => a.length + b.length

theorem mrg_isort : ∀ a b, mrg (isort a) (isort b) = isort (a ++ b)
  | [], b => by rw [isort, mrg]; rfl
  | x :: a, b => by
    rw [isort, mrg_ins x _ _ (isort_srt a) (isort_srt b), mrg_isort a b]
    rfl

/-- Behind all that is not heavier. -/
def insR (x : Bun) : List Bun → List Bun
  | [] => [x]
  | y :: l => if x.1 < y.1 then x :: y :: l else y :: insR x l
theorem mrg_one (x : Bun) : ∀ a, mrg a [x] = insR x a
  | [] => by simp [mrg, insR]
  | y :: a => by
    rw [mrg, insR, mrg_nil]
    split
    · rfl
    · rw [mrg_one x a]
theorem isort_snoc (a : List Bun) (x : Bun) : isort (a ++ [x]) = insR x (isort a) := by
  rw [← mrg_isort, ← mrg_one]
  rfl

/-! ### Merged by parts -/
theorem mrg_parts (a1 a2 b1 b2 : List Bun) (h1 : ∀ y ∈ b1, ∀ x ∈ a2, y.1 < x.1) (h2 : ∀ x ∈ a1, ∀ y ∈ b2, x.1 ≤ y.1) : mrg (a1 ++ a2) (b1 ++ b2) = mrg a1 b1 ++ mrg a2 b2 := by
  match a1, b1 with
  | [], [] => simp [mrg]
  | [], y :: b1 =>
    rw [List.nil_append]
    have ih := mrg_parts [] a2 b1 b2 (fun z hz => h1 z (List.mem_cons_of_mem _ hz)) (fun x hx => by cases hx)
    rw [List.nil_append] at ih
    cases a2 with
    | nil => simp [mrg]
    | cons x a2 =>
      rw [List.cons_append, mrg_cons, if_pos (h1 y (List.mem_cons_self ..) x (List.mem_cons_self ..)), ih]
      simp [mrg_nil0]
  | x :: a1, [] =>
    rw [List.nil_append]
    have ih := mrg_parts a1 a2 [] b2 (fun z hz => by cases hz) (fun w hw => h2 w (List.mem_cons_of_mem _ hw))
    rw [List.nil_append] at ih
    cases b2 with
    | nil => simp [mrg_nil]
    | cons y b2 =>
      have := h2 x (List.mem_cons_self ..) y (List.mem_cons_self ..)
      rw [List.cons_append, mrg_cons, if_neg (by omega), ih]
      simp [mrg_nil]
  | x :: a1, y :: b1 =>
    rw [List.cons_append, List.cons_append, mrg_cons, mrg_cons]
    split
    · have ih := mrg_parts (x :: a1) a2 b1 b2 (fun z hz => h1 z (List.mem_cons_of_mem _ hz)) h2
      rw [List.cons_append] at ih
      rw [ih]; rfl
    · have ih := mrg_parts a1 a2 (y :: b1) b2 h1 (fun w hw => h2 w (List.mem_cons_of_mem _ hw))
      rw [List.cons_append] at ih
      rw [ih]; rfl
termination_by a1.length + b1.length

theorem mrg_left (a b : List Bun) (h : ∀ y ∈ b, ∀ x ∈ a, y.1 < x.1) : mrg a b = b ++ a := by
  have := mrg_parts [] a b [] h (fun x hx => by cases hx)
  simpa [mrg, mrg_nil] using this
theorem mrg_right (a b : List Bun) (h : ∀ x ∈ a, ∀ y ∈ b, x.1 ≤ y.1) : mrg a b = a ++ b := by
  have := mrg_parts a [] [] b (fun x hx => by cases hx) h
  simpa [mrg, mrg_nil] using this

/-! ### Pairs -/
def pairs : List Bun → List Bun
  | x :: y :: l => (x.1 + y.1, x.2.1 ++ y.2.1, ()) :: pairs l
  | _ => []

theorem pairs_len : ∀ l : List Bun, (pairs l).length = l.length / 2
  | [] => rfl
  | [_] => by simp [pairs]
  | x :: y :: l => by rw [pairs, List.length_cons, pairs_len l, List.length_cons, List.length_cons]; omega

theorem pairs_mem : ∀ {l : List Bun} {z : Bun}, z ∈ pairs l → ∃ x ∈ l, ∃ y ∈ l, z.1 = x.1 + y.1
  | [], z, h => by cases h
  | [_], z, h => by cases h
  | x :: y :: l, z, h => by
    rw [pairs] at h
    rcases List.mem_cons.1 h with rfl | h
    · exact ⟨x, by simp, y, by simp, rfl⟩
    · obtain ⟨a, ha, b, hb, e⟩ := pairs_mem h
      exact ⟨a, by simp [ha], b, by simp [hb], e⟩

theorem pairs_srt : ∀ l : List Bun, Srt l → Srt (pairs l)
  | [], _ => .nil
  | [_], _ => .nil
  | x :: y :: l, h => by
    have h1 := List.pairwise_cons.1 h
    have h2 := List.pairwise_cons.1 h1.2
    rw [pairs]
    refine List.pairwise_cons.2 ⟨fun z hz => ?_, pairs_srt l h2.2⟩
    obtain ⟨a, ha, b, hb, e⟩ := pairs_mem hz
    have k1 := h1.1 a (List.mem_cons_of_mem _ ha)
    have k2 := h2.1 b hb
    simp only
    omega

theorem pairs_take : ∀ (l : List Bun) (p : Nat), (pairs l).take p = pairs (l.take (2 * p))
  | [], p => by simp [pairs]
  | [x], 0 => by simp [pairs]
  | [x], p + 1 => by rw [show 2 * (p + 1) = 2 * p + 1 + 1 by omega]; simp [pairs]
  | x :: y :: l, 0 => by simp [pairs]
  | x :: y :: l, p + 1 => by
    rw [pairs, List.take_succ_cons, pairs_take l p, show 2 * (p + 1) = 2 * p + 1 + 1 by omega, List.take_succ_cons, List.take_succ_cons, pairs]

def syms (l : List Bun) : List Int := l.flatMap (·.2.1)
def wsum (l : List Bun) : Int := (l.map (·.1)).sum
theorem wsum_cons (x : Bun) (l : List Bun) : wsum (x :: l) = x.1 + wsum l := by simp [wsum]
theorem wsum_append (a b : List Bun) : wsum (a ++ b) = wsum a + wsum b := by simp [wsum]
theorem syms_append (a b : List Bun) : syms (a ++ b) = syms a ++ syms b := List.flatMap_append
theorem wsum_perm {a b : List Bun} (h : a.Perm b) : wsum a = wsum b := by
  induction h with
  | nil => rfl
  | cons x _ ih => rw [wsum_cons, wsum_cons, ih]
  | swap x y l => rw [wsum_cons, wsum_cons, wsum_cons, wsum_cons]; omega
  | trans _ _ h1 h2 => exact h1.trans h2
theorem syms_perm {a b : List Bun} (h : a.Perm b) : (syms a).Perm (syms b) := h.flatMap_right _

theorem pairs_even : ∀ (l : List Bun) (p : Nat), l.length = 2 * p → syms (pairs l) = syms l ∧ wsum (pairs l) = wsum l
  | [], p, _ => ⟨rfl, rfl⟩
  | [x], p, h => by simp at h; omega
  | x :: y :: l, 0, h => by simp at h
  | x :: y :: l, p + 1, h => by
    obtain ⟨h1, h2⟩ := pairs_even l p (by simp at h; omega)
    constructor
    · unfold syms at h1 ⊢
      rw [pairs, List.flatMap_cons, h1, List.flatMap_cons, List.flatMap_cons, List.append_assoc]
    · rw [pairs, wsum_cons, h2, wsum_cons, wsum_cons]
      simp only
      omega
end Go.Am

/- Rows upon rows of bundles: which of the first ones are taken. -/
namespace Go.Am
set_option linter.unusedSimpArgs false
set_option linter.unusedVariables false

/-- How many of the first list are among the first m. -/
def cA : List Bun → List Bun → Nat → Nat
  | _, _, 0 => 0
  | [], _, _ + 1 => 0
  | _ :: a, [], m + 1 => cA a [] m + 1
  | x :: a, y :: b, m + 1 => if y.1 < x.1 then cA (x :: a) b m else cA a (y :: b) m + 1
termination_by a b => a.length + b.length

theorem cA_zero (a b : List Bun) : cA a b 0 = 0 := by cases a <;> cases b <;> rw [cA]
theorem cA_nil (b : List Bun) (m : Nat) : cA [] b m = 0 := by cases m <;> rw [cA]
theorem cA_nil2 : ∀ (a : List Bun) (m : Nat), cA a [] m = min m a.length
  | [], m => by rw [cA_nil]; simp
  | x :: a, 0 => by rw [cA_zero]; simp
  | x :: a, m + 1 => by rw [cA, cA_nil2 a m, List.length_cons]; omega

theorem cA_le : ∀ (m : Nat) (a b : List Bun), cA a b m ≤ m ∧ cA a b m ≤ a.length ∧ (m ≤ a.length + b.length → m - cA a b m ≤ b.length)
  | 0, a, b => by rw [cA_zero]; omega
  | m + 1, [], b => by rw [cA_nil]; simp
  | m + 1, x :: a, [] => by
    rw [cA_nil2]; simp; omega
  | m + 1, x :: a, y :: b => by
    rw [cA]
    split
    · have ih := cA_le m (x :: a) b
      simp only [List.length_cons] at ih ⊢
      omega
    · have ih := cA_le m a (y :: b)
      simp only [List.length_cons] at ih ⊢
      omega

theorem take_mrg : ∀ (m : Nat) (a b : List Bun), ((mrg a b).take m).Perm (a.take (cA a b m) ++ b.take (m - cA a b m))
  | 0, a, b => by rw [cA_zero]; simp
  | m + 1, [], b => by rw [cA_nil, mrg_nil0]; simp
  | m + 1, x :: a, [] => by
    rw [cA_nil2, mrg_nil]
    simp only [List.take_nil, List.append_nil]
    rcases Nat.le_total (m + 1) (x :: a).length with h | h
    · rw [Nat.min_eq_left h]
    · rw [Nat.min_eq_right h, List.take_length, List.take_of_length_le h]
  | m + 1, x :: a, y :: b => by
    rw [cA, mrg_cons]
    split
    · have ih := take_mrg m (x :: a) b
      have hc := (cA_le m (x :: a) b).1
      rw [List.take_succ_cons, show m + 1 - cA (x :: a) b m = (m - cA (x :: a) b m) + 1 by omega, List.take_succ_cons]
      exact (ih.cons y).trans List.perm_middle.symm
    · have ih := take_mrg m a (y :: b)
      rw [List.take_succ_cons, List.take_succ_cons, show m + 1 - (cA a (y :: b) m + 1) = m - cA a (y :: b) m by omega]
      exact ih.cons x

/-- What is not heavier than something taken of the second list is taken. -/
theorem cA_gets : ∀ (m : Nat) (a b : List Bun) (i j : Nat) (hi : i < b.length) (hj : j < a.length), Srt a → i < m - cA a b m → a[j].1 ≤ b[i].1 → j < cA a b m
  | 0, a, b, i, j, hi, hj, _, h, _ => by omega
  | m + 1, [], b, i, j, hi, hj, _, h, _ => by cases hj
  | m + 1, x :: a, [], i, j, hi, hj, _, h, _ => by cases hi
  | m + 1, x :: a, y :: b, i, j, hi, hj, hs, h, hle => by
    have hs' := List.pairwise_cons.1 hs
    rw [cA] at h ⊢
    split at h
    · rename_i hlt
      rw [if_pos hlt]
      cases i with
      | zero =>
        exfalso
        have h0 : ((y :: b)[0]).1 = y.1 := rfl
        rw [h0] at hle
        cases j with
        | zero => have : ((x :: a)[0]).1 = x.1 := rfl; rw [this] at hle; omega
        | succ j =>
          have e : (x :: a)[j + 1] = a[j]'(by simpa using hj) := rfl
          rw [e] at hle
          have := hs'.1 _ (List.getElem_mem (l := a) (by simpa using hj))
          omega
      | succ i =>
        have hc := (cA_le m (x :: a) b).1
        exact cA_gets m (x :: a) b i j (by simpa using hi) hj hs (by omega) hle
    · rename_i hlt
      rw [if_neg hlt]
      cases j with
      | zero => omega
      | succ j =>
        have := cA_gets m a (y :: b) i j hi (by simpa using hj) hs'.2 (by omega) hle
        omega

/-! ### Rows upon rows -/
def rowK (l : List Bun) : Nat → List Bun
  | 0 => l
  | k + 1 => mrg l (pairs (rowK l k))

theorem rowK_srt {l : List Bun} (h : Srt l) : ∀ k, Srt (rowK l k)
  | 0 => h
  | k + 1 => mrg_srt _ _ h (pairs_srt _ (rowK_srt h k))

theorem rowK_pos {l : List Bun} (h : ∀ x ∈ l, 0 ≤ x.1) : ∀ k, ∀ x ∈ rowK l k, 0 ≤ x.1
  | 0 => h
  | k + 1 => fun x hx => by
    rcases List.mem_append.1 ((mrg_perm _ _).mem_iff.1 hx) with hx | hx
    · exact h x hx
    · obtain ⟨a, ha, b, hb, e⟩ := pairs_mem hx
      have h1 := rowK_pos h k a ha
      have h2 := rowK_pos h k b hb
      omega

theorem rowK_len (l : List Bun) (k : Nat) : (rowK l (k + 1)).length = l.length + (rowK l k).length / 2 := by rw [rowK, mrg_len, pairs_len]

theorem rowK_long (l : List Bun) : ∀ k, 2 * l.length ≤ (rowK l k).length + (l.length + 2 ^ k - 1) / 2 ^ k
  | 0 => by rw [rowK]; simp; omega
  | k + 1 => by
    have ih := rowK_long l k
    have hp : 0 < 2 ^ k := Nat.pow_pos (by decide)
    have e : (l.length + 2 ^ (k + 1) - 1) / 2 ^ (k + 1) = ((l.length + 2 ^ k - 1) / 2 ^ k + 1) / 2 := by
      have e1 : (l.length + 2 ^ k - 1) / 2 ^ k + 1 = (l.length + 2 ^ k - 1 + 2 ^ k) / 2 ^ k := (Nat.add_div_right _ hp).symm
      rw [e1, Nat.div_div_eq_div_mul, Nat.pow_succ]
      congr 1
      omega
    rw [rowK_len, e]
    omega

theorem rowK_enough (l : List Bun) {k : Nat} (h : l.length ≤ 2 ^ (k + 1)) : 2 * l.length - 2 ≤ (rowK l k).length := by
  have h1 := rowK_long l k
  have hp : 0 < 2 ^ k := Nat.pow_pos (by decide)
  have h2 : (l.length + 2 ^ k - 1) / 2 ^ k < 3 := by
    rw [Nat.div_lt_iff_lt_mul hp]
    rw [Nat.pow_succ] at h
    omega
  omega

/-- How many single ones are taken, row by row, the last row first. -/
def sel (l : List Bun) : Nat → Nat → List Nat
  | 0, m => [m]
  | k + 1, m => cA l (pairs (rowK l k)) m :: sel l k (2 * (m - cA l (pairs (rowK l k)) m))

theorem sel_len (l : List Bun) : ∀ k m, (sel l k m).length = k + 1
  | 0, m => rfl
  | k + 1, m => by rw [sel, List.length_cons, sel_len l k]

def selV : List Nat → Nat
  | [] => 0
  | c :: r => c * 2 ^ r.length + selV r

theorem sel_V (l : List Bun) : ∀ k m, selV (sel l k m) = m * 2 ^ k
  | 0, m => by simp [sel, selV]
  | k + 1, m => by
    have hc := (cA_le m l (pairs (rowK l k))).1
    rw [sel, selV, sel_len, sel_V l k, Nat.pow_succ]
    generalize cA l (pairs (rowK l k)) m = c at *
    obtain ⟨p, rfl⟩ : ∃ p, m = c + p := ⟨m - c, by omega⟩
    rw [Nat.add_sub_cancel_left, Nat.add_mul, Nat.mul_comm 2 p, Nat.mul_assoc, Nat.mul_comm 2 (2 ^ k)]

theorem sel_next {l : List Bun} {k m : Nat} (h : m ≤ (rowK l (k + 1)).length) : 2 * (m - cA l (pairs (rowK l k)) m) ≤ (rowK l k).length := by
  have h1 := (cA_le m l (pairs (rowK l k))).2.2
  rw [rowK_len] at h
  rw [pairs_len] at h1
  have := h1 h
  omega

theorem sel_syms {l : List Bun} : ∀ k m, m ≤ (rowK l k).length →
    (syms ((rowK l k).take m)).Perm ((sel l k m).flatMap fun c => syms (l.take c)) ∧ wsum ((rowK l k).take m) = ((sel l k m).map fun c => wsum (l.take c)).sum
  | 0, m, h => by simp [sel, rowK]
  | k + 1, m, h => by
    have hn := sel_next h
    obtain ⟨ih1, ih2⟩ := sel_syms k _ hn
    have hp := take_mrg m l (pairs (rowK l k))
    rw [pairs_take] at hp
    obtain ⟨e1, e2⟩ := pairs_even ((rowK l k).take (2 * (m - cA l (pairs (rowK l k)) m))) (m - cA l (pairs (rowK l k)) m) (by rw [List.length_take]; omega)
    constructor
    · have h1 := syms_perm hp
      rw [syms_append, e1] at h1
      rw [sel, List.flatMap_cons]
      exact h1.trans (ih1.append_left _)
    · have h1 := wsum_perm hp
      rw [wsum_append, e2] at h1
      rw [sel, List.map_cons, List.sum_cons, ← ih2]
      exact h1

/-- The single ones that are taken in a row are among its first ones. -/
theorem sel_head_mem {l : List Bun} : ∀ k m, m ≤ (rowK l k).length → ∀ x ∈ l.take ((sel l k m).headD 0), x ∈ (rowK l k).take m
  | 0, m, h, x, hx => hx
  | k + 1, m, h, x, hx => (take_mrg m l (pairs (rowK l k))).mem_iff.2 (List.mem_append_left _ hx)

theorem sel_head_le {l : List Bun} : ∀ k m, m ≤ (rowK l k).length → (sel l k m).headD 0 ≤ l.length
  | 0, m, h => h
  | k + 1, m, h => (cA_le m l _).2.1

theorem pairs_ge : ∀ (l : List Bun), (∀ x ∈ l, 0 ≤ x.1) → ∀ q (hq : q < l.length) (h2 : q / 2 < (pairs l).length), l[q].1 ≤ (pairs l)[q / 2].1
  | [], _, q, hq, _ => by cases hq
  | [x], _, q, hq, h2 => by cases h2
  | x :: y :: l, h, 0, hq, h2 => by
    have e : (pairs (x :: y :: l))[0 / 2]'h2 = (x.1 + y.1, x.2.1 ++ y.2.1, ()) := rfl
    rw [e]
    have := h y (by simp)
    show x.1 ≤ x.1 + y.1
    omega
  | x :: y :: l, h, 1, hq, h2 => by
    have e : (pairs (x :: y :: l))[1 / 2]'h2 = (x.1 + y.1, x.2.1 ++ y.2.1, ()) := rfl
    rw [e]
    have := h x (by simp)
    show y.1 ≤ x.1 + y.1
    omega
  | x :: y :: l, h, q + 2, hq, h2 => by
    have hl : q / 2 < (pairs l).length := by
      rw [pairs, List.length_cons] at h2; omega
    have ih := pairs_ge l (fun z hz => h z (by simp [hz])) q (by simpa using hq) hl
    have e1 : (x :: y :: l)[q + 2] = l[q]'(by simpa using hq) := rfl
    have e2 : (pairs (x :: y :: l))[(q + 2) / 2]'h2 = (pairs l)[q / 2]'hl := by
      have : (q + 2) / 2 = q / 2 + 1 := by omega
      simp only [this, pairs, List.getElem_cons_succ]
    rw [e1, e2]
    exact ih

/-- A single one among the first 2p of a row is taken a row later, too. -/
theorem taken_later {l : List Bun} (hs : Srt l) (h0 : ∀ x ∈ l, 0 ≤ x.1) {k m j : Nat} (hm : m ≤ (rowK l (k + 1)).length) (hj : j < l.length) {p : Nat} (hp : p ≤ m - cA l (pairs (rowK l k)) m) (hx : l[j] ∈ (rowK l k).take (2 * p)) : j < cA l (pairs (rowK l k)) m := by
  obtain ⟨q, hq, e⟩ := List.getElem_of_mem hx
  rw [List.length_take] at hq
  rw [List.getElem_take] at e
  have hn := sel_next hm
  have hq2 : q / 2 < (pairs (rowK l k)).length := by rw [pairs_len]; omega
  have hge := pairs_ge (rowK l k) (rowK_pos h0 k) q (by omega) hq2
  rw [e] at hge
  exact cA_gets m l (pairs (rowK l k)) (q / 2) j hq2 hj hs (by omega) hge

def NonInc (lv : List Nat) : Prop := lv.Pairwise fun a b => b ≤ a

theorem nonInc_cons {c : Nat} {lv : List Nat} (h : NonInc lv) (hc : lv.headD 0 ≤ c) : NonInc (c :: lv) := by
  refine List.pairwise_cons.2 ⟨fun b hb => ?_, h⟩
  cases lv with
  | nil => cases hb
  | cons d lv =>
    rcases List.mem_cons.1 hb with rfl | hb
    · exact hc
    · have := (List.pairwise_cons.1 h).1 b hb
      exact Nat.le_trans this hc

theorem sel_inc {l : List Bun} (hs : Srt l) (h0 : ∀ x ∈ l, 0 ≤ x.1) : ∀ k m, m ≤ (rowK l k).length → NonInc (sel l k m)
  | 0, m, _ => List.pairwise_singleton _ _
  | k + 1, m, hm => by
    have hn := sel_next hm
    refine nonInc_cons (sel_inc hs h0 k _ hn) ?_
    have hle := sel_head_le k _ hn
    refine Classical.byContradiction fun hc => ?_
    have hj : (sel l k (2 * (m - cA l (pairs (rowK l k)) m))).headD 0 - 1 < l.length := by omega
    have hx : l[(sel l k (2 * (m - cA l (pairs (rowK l k)) m))).headD 0 - 1] ∈ (rowK l k).take (2 * (m - cA l (pairs (rowK l k)) m)) :=
      sel_head_mem k _ hn _ (List.mem_take_iff_getElem.2 ⟨_, by omega, rfl⟩)
    have := taken_later hs h0 hm hj (Nat.le_refl _) hx
    omega

theorem sel_all_le {l : List Bun} (hs : Srt l) (h0 : ∀ x ∈ l, 0 ≤ x.1) {k m : Nat} (hm : m ≤ (rowK l k).length) : ∀ c ∈ sel l k m, c ≤ l.length := by
  have h1 := sel_inc hs h0 k m hm
  have h2 := sel_head_le k m hm
  intro c hc
  cases hsel : sel l k m with
  | nil => rw [hsel] at hc; cases hc
  | cons d r =>
    rw [hsel] at h1 h2 hc
    rcases List.mem_cons.1 hc with rfl | hc
    · exact h2
    · exact Nat.le_trans ((List.pairwise_cons.1 h1).1 c hc) h2

/-- All single ones are taken in the last row. -/
theorem sel_full {l : List Bun} (hs : Srt l) (h0 : ∀ x ∈ l, 0 ≤ x.1) (h2 : 2 ≤ l.length) : ∀ k, 2 * l.length - 2 ≤ (rowK l k).length → (sel l k (2 * l.length - 2)).headD 0 = l.length
  | 0, hm => by
    have : (rowK l 0).length = l.length := rfl
    show 2 * l.length - 2 = l.length
    omega
  | k + 1, hm => by
    have hc := cA_le (2 * l.length - 2) l (pairs (rowK l k))
    show cA l (pairs (rowK l k)) (2 * l.length - 2) = l.length
    refine Classical.byContradiction fun hne => ?_
    have hn := sel_next hm
    have hlt : 2 * l.length - 2 ≤ (rowK l k).length := by omega
    have ih := sel_full hs h0 h2 k hlt
    have hj : l.length - 1 < l.length := by omega
    have hx : l[l.length - 1] ∈ (rowK l k).take (2 * (l.length - 1)) := by
      have := sel_head_mem k _ hlt (l[l.length - 1]) (List.mem_take_iff_getElem.2 ⟨l.length - 1, by omega, rfl⟩)
      rw [show 2 * (l.length - 1) = 2 * l.length - 2 by omega]
      exact this
    have := taken_later hs h0 hm hj (p := l.length - 1) (by omega) hx
    omega
end Go.Am

/- How often single ones are taken: no room is left; nothing is shorter. -/
namespace Go.Am
set_option linter.unusedSimpArgs false
set_option linter.unusedVariables false

def sumN (f : Nat → Nat) : Nat → Nat
  | 0 => 0
  | n + 1 => sumN f n + f n

theorem sumN_congr {f g : Nat → Nat} : ∀ n, (∀ j, j < n → f j = g j) → sumN f n = sumN g n
  | 0, _ => rfl
  | n + 1, h => by rw [sumN, sumN, sumN_congr n fun j hj => h j (by omega), h n (by omega)]
theorem sumN_add (f g : Nat → Nat) : ∀ n, sumN (fun j => f j + g j) n = sumN f n + sumN g n
  | 0 => rfl
  | n + 1 => by rw [sumN, sumN, sumN, sumN_add f g n]; omega
theorem sumN_const (a : Nat) : ∀ n, sumN (fun _ => a) n = n * a
  | 0 => by simp [sumN]
  | n + 1 => by rw [sumN, sumN_const a n, Nat.succ_mul]
theorem sumN_below (a c : Nat) : ∀ n, sumN (fun j => if j < c then a else 0) n = min n c * a
  | 0 => by simp [sumN]
  | n + 1 => by
    rw [sumN, sumN_below a c n]
    by_cases h : n < c
    · rw [if_pos h, Nat.min_eq_left (by omega), Nat.min_eq_left (by omega), Nat.succ_mul]
    · rw [if_neg h, Nat.min_eq_right (by omega), Nat.min_eq_right (by omega), Nat.add_zero]

/-! ### How often -/
def occ (lv : List Nat) (j : Nat) : Nat := lv.countP fun c => decide (j < c)

theorem occ_cons (c : Nat) (lv : List Nat) (j : Nat) : occ (c :: lv) j = occ lv j + if j < c then 1 else 0 := by
  unfold occ
  rw [List.countP_cons]
  simp

theorem occ_le (lv : List Nat) (j : Nat) : occ lv j ≤ lv.length := List.countP_le_length

theorem count_take {ss : List Int} : ∀ (c j : Nat) (hj : j < ss.length), ss.Nodup → (ss.take c).count ss[j] = if j < c then 1 else 0 := by
  induction ss with
  | nil => intro c j hj; cases hj
  | cons x ss ih =>
    intro c j hj hn
    have hn' := List.nodup_cons.1 hn
    cases c with
    | zero => simp
    | succ c =>
      rw [List.take_succ_cons]
      cases j with
      | zero =>
        have : (ss.take c).count x = 0 := List.count_eq_zero.2 fun h => hn'.1 (List.mem_of_mem_take h)
        simp [this]
      | succ j =>
        have hjs : j < ss.length := by simpa using hj
        have hne : x ≠ ss[j] := fun e => hn'.1 (by rw [e]; exact List.getElem_mem hjs)
        have e : (x :: ss)[j + 1] = ss[j] := rfl
        rw [e, List.count_cons, ih c j hjs hn'.2]
        have : (x == ss[j]) = false := by simpa using hne
        rw [this]
        simp

theorem count_levels {ss : List Int} (hn : ss.Nodup) {j : Nat} (hj : j < ss.length) : ∀ lv : List Nat, (lv.flatMap fun c => ss.take c).count ss[j] = occ lv j
  | [] => rfl
  | c :: lv => by rw [List.flatMap_cons, List.count_append, count_take c j hj hn, count_levels hn hj lv, occ_cons]; omega

theorem kraft {n : Nat} : ∀ (lv : List Nat), NonInc lv → (∀ c ∈ lv, c ≤ n) → sumN (fun j => 2 ^ (lv.length - occ lv j)) n + selV lv = n * 2 ^ lv.length
  | [], _, _ => by
    have := sumN_const 1 n
    simp only [occ, List.countP_nil, List.length_nil, selV, Nat.sub_zero, Nat.pow_zero, Nat.add_zero, Nat.mul_one] at this ⊢
    exact this
  | c :: lv, h, hle => by
    have h' := List.pairwise_cons.1 h
    have ih := kraft (n := n) lv h'.2 fun d hd => hle d (List.mem_cons_of_mem _ hd)
    have hc := hle c (List.mem_cons_self ..)
    have key : sumN (fun j => 2 ^ ((c :: lv).length - occ (c :: lv) j) + if j < c then 2 ^ lv.length else 0) n = sumN (fun j => 2 ^ lv.length + 2 ^ (lv.length - occ lv j)) n := by
      refine sumN_congr n fun j hj => ?_
      rw [occ_cons, List.length_cons]
      by_cases hjc : j < c
      · rw [if_pos hjc, if_pos hjc, show lv.length + 1 - (occ lv j + 1) = lv.length - occ lv j by omega, Nat.add_comm]
      · have h0 : occ lv j = 0 := by
          unfold occ
          rw [List.countP_eq_zero]
          intro d hd
          have := h'.1 d hd
          simp; omega
        rw [if_neg hjc, if_neg hjc, h0, Nat.sub_zero, Nat.add_zero, Nat.sub_zero, Nat.pow_succ]
        omega
    rw [sumN_add, sumN_add, sumN_below, sumN_const, Nat.min_eq_right hc] at key
    rw [selV, List.length_cons, Nat.pow_succ]
    have e : n * (2 ^ lv.length * 2) = n * 2 ^ lv.length + n * 2 ^ lv.length := by rw [Nat.mul_comm (2 ^ lv.length) 2, Nat.two_mul, Nat.mul_add]
    rw [e]
    rw [List.length_cons] at key
    omega

/-! ### Nothing is lighter -/
theorem wsum_nonneg : ∀ {l : List Bun}, (∀ x ∈ l, 0 ≤ x.1) → 0 ≤ wsum l
  | [], _ => by simp [wsum]
  | x :: l, h => by
    have h1 := h x (List.mem_cons_self ..)
    have h2 := wsum_nonneg (l := l) fun y hy => h y (List.mem_cons_of_mem _ hy)
    rw [wsum_cons]; omega

theorem wsum_take_mono {l : List Bun} (h : ∀ x ∈ l, 0 ≤ x.1) {m k : Nat} (hmk : m ≤ k) : wsum (l.take m) ≤ wsum (l.take k) := by
  have e : l.take k = l.take m ++ (l.drop m).take (k - m) := by
    rw [← List.take_append_drop m (l.take k), List.take_take, Nat.min_eq_left hmk, List.drop_take]
  rw [e, wsum_append]
  have := wsum_nonneg (l := (l.drop m).take (k - m)) fun x hx => h x (List.mem_of_mem_drop (List.mem_of_mem_take hx))
  omega

theorem wsum_take_succ {l : List Bun} {m : Nat} (h : m < l.length) : wsum (l.take (m + 1)) = wsum (l.take m) + l[m].1 := by
  rw [List.take_add_one, List.getElem?_eq_getElem h, wsum_append]
  simp [wsum]

/-- The first ones are the lightest. -/
theorem take_min {R S : List Bun} (h : S.Sublist R) : Srt R → wsum (R.take S.length) ≤ wsum S := by
  induction h with
  | slnil => intro _; simp [wsum]
  | @cons S R a hs ih =>
    intro hR
    have hR' := List.pairwise_cons.1 hR
    have ih := ih hR'.2
    have hl := hs.length_le
    cases hm : S.length with
    | zero =>
      have : S = [] := List.eq_nil_of_length_eq_zero hm
      subst this
      simp [wsum]
    | succ m =>
      rw [hm] at ih hl
      rw [wsum_take_succ (by omega)] at ih
      rw [List.take_succ_cons, wsum_cons]
      have := hR'.1 R[m] (List.getElem_mem (by omega))
      omega
  | @cons_cons S R a hs ih =>
    intro hR
    have hR' := List.pairwise_cons.1 hR
    rw [List.length_cons, List.take_succ_cons, wsum_cons, wsum_cons]
    have := ih hR'.2
    omega

theorem sub_min {R S B : List Bun} (hs : S.Sublist B) (hp : B.Perm R) (hR : Srt R) : wsum (R.take S.length) ≤ wsum S := by
  obtain ⟨S', h1, h2⟩ := List.exists_perm_sublist hs hp
  have := take_min h2 hR
  rw [h1.length_eq, wsum_perm h1] at this
  exact this

/-- Some of the single ones, row by row: how many come together. -/
def qN (A : Nat → List Bun) : Nat → Nat
  | 0 => (A 0).length
  | k + 1 => (A (k + 1)).length + qN A k / 2

def wN (A : Nat → List Bun) : Nat → Int
  | 0 => wsum (A 0)
  | k + 1 => wN A k + wsum (A (k + 1))

theorem rows_min {coins l : List Bun} (hp : coins.Perm l) (hs : Srt l) (h0 : ∀ x ∈ l, 0 ≤ x.1) (A : Nat → List Bun) (hA : ∀ k, (A k).Sublist coins) : ∀ k, qN A k ≤ (rowK l k).length ∧ wsum ((rowK l k).take (qN A k)) ≤ wN A k
  | 0 => ⟨by have := (hA 0).length_le; rw [hp.length_eq] at this; exact this, sub_min (hA 0) hp hs⟩
  | k + 1 => by
    obtain ⟨ih1, ih2⟩ := rows_min hp hs h0 A hA k
    have hl := (hA (k + 1)).length_le
    rw [hp.length_eq] at hl
    have hP : ((pairs (rowK l k)).take (qN A k / 2)).length = qN A k / 2 := by rw [List.length_take, pairs_len]; omega
    have hw : wsum ((pairs (rowK l k)).take (qN A k / 2)) ≤ wN A k := by
      rw [pairs_take]
      have e := (pairs_even ((rowK l k).take (2 * (qN A k / 2))) (qN A k / 2) (by rw [List.length_take]; omega)).2
      rw [e]
      have := wsum_take_mono (rowK_pos h0 k) (show 2 * (qN A k / 2) ≤ qN A k by omega)
      omega
    have hsub : (A (k + 1) ++ (pairs (rowK l k)).take (qN A k / 2)).Sublist (coins ++ pairs (rowK l k)) := (hA (k + 1)).append (List.take_sublist ..)
    have hperm : (coins ++ pairs (rowK l k)).Perm (rowK l (k + 1)) := (hp.append_right _).trans (mrg_perm _ _).symm
    have := sub_min hsub hperm (rowK_srt hs (k + 1))
    rw [List.length_append, hP, wsum_append] at this
    refine ⟨by rw [qN, rowK_len]; omega, ?_⟩
    rw [qN, wN]
    omega

/-- The numbers of a row, by powers of two. -/
def yN (A : Nat → List Bun) (n : Nat) : Nat := sumN (fun i => (A i).length * 2 ^ i) n

theorem qN_eq (A : Nat → List Bun) : ∀ k, qN A k = yN A (k + 1) / 2 ^ k
  | 0 => by simp [qN, yN, sumN]
  | k + 1 => by
    have ih := qN_eq A k
    rw [qN, ih, Nat.div_div_eq_div_mul]
    have e : yN A (k + 1 + 1) = yN A (k + 1) + (A (k + 1)).length * 2 ^ (k + 1) := rfl
    rw [e, Nat.add_mul_div_right _ _ (Nat.pow_pos (by decide)), Nat.pow_succ, Nat.add_comm]

theorem sumN_pow (a : Nat) : ∀ n, a ≤ n → sumN (fun i => if a ≤ i then 2 ^ i else 0) n + 2 ^ a = 2 ^ n := by
  intro n
  induction n with
  | zero => intro h; rw [show a = 0 by omega]; rfl
  | succ n ih =>
    intro h
    rw [sumN]
    by_cases e : a = n + 1
    · subst e
      have : sumN (fun i => if n + 1 ≤ i then 2 ^ i else 0) n = sumN (fun _ => 0) n := sumN_congr n fun j hj => if_neg (by omega)
      rw [this, sumN_const, if_neg (by omega)]
      omega
    · have := ih (by omega)
      rw [if_pos (by omega), Nat.pow_succ]
      omega

theorem sumN_some (a w : Nat) : ∀ n, a ≤ n → sumN (fun i => if a ≤ i then w else 0) n = (n - a) * w := by
  intro n
  induction n with
  | zero => intro h; simp [sumN]
  | succ n ih =>
    intro h
    rw [sumN]
    by_cases e : a = n + 1
    · subst e
      have : sumN (fun i => if n + 1 ≤ i then w else 0) n = sumN (fun _ => 0) n := sumN_congr n fun j hj => if_neg (by omega)
      rw [this, sumN_const, if_neg (by omega)]
      simp
    · rw [ih (by omega), if_pos (by omega), show n + 1 - a = (n - a) + 1 by omega, Nat.succ_mul]

/-- Single ones with lengths: those that stand in a row. -/
def lvA (z : List (Bun × Nat)) (most i : Nat) : List Bun := (z.filter fun p => decide (most - p.2 ≤ i)).map (·.1)
def room2 (most : Nat) : List (Bun × Nat) → Nat
  | [] => 0
  | p :: z => 2 ^ (most - p.2) + room2 most z
def costZ : List (Bun × Nat) → Int
  | [] => 0
  | p :: z => p.1.1 * p.2 + costZ z

theorem lvA_sub (z : List (Bun × Nat)) (most i : Nat) : (lvA z most i).Sublist (z.map (·.1)) := (List.filter_sublist).map _

theorem lvA_cons (p : Bun × Nat) (z : List (Bun × Nat)) (most i : Nat) : lvA (p :: z) most i = if most - p.2 ≤ i then p.1 :: lvA z most i else lvA z most i := by
  unfold lvA
  rw [List.filter_cons]
  by_cases h : most - p.2 ≤ i
  · simp [h]
  · simp [h]

theorem yN_lv (most : Nat) : ∀ z : List (Bun × Nat), (∀ p ∈ z, p.2 ≤ most) → yN (lvA z most) most + room2 most z = z.length * 2 ^ most
  | [], _ => by
    have : yN (lvA [] most) most = sumN (fun _ => 0) most := sumN_congr most fun j hj => by simp [lvA]
    rw [this, sumN_const]
    simp [room2]
  | p :: z, h => by
    have ih := yN_lv most z fun q hq => h q (List.mem_cons_of_mem _ hq)
    have hp := h p (List.mem_cons_self ..)
    have e : yN (lvA (p :: z) most) most = sumN (fun i => (if most - p.2 ≤ i then 2 ^ i else 0) + (lvA z most i).length * 2 ^ i) most := by
      refine sumN_congr most fun j hj => ?_
      rw [lvA_cons]
      by_cases hh : most - p.2 ≤ j
      · rw [if_pos hh, if_pos hh, List.length_cons, Nat.succ_mul, Nat.add_comm]
      · rw [if_neg hh, if_neg hh, Nat.zero_add]
    have hs := sumN_pow (most - p.2) most (by omega)
    rw [e, sumN_add, room2, List.length_cons, Nat.succ_mul]
    unfold yN at ih
    omega

def sumI (f : Nat → Int) : Nat → Int
  | 0 => 0
  | n + 1 => sumI f n + f n
theorem wN_sum (A : Nat → List Bun) : ∀ k, wN A k = sumI (fun i => wsum (A i)) (k + 1)
  | 0 => by simp [wN, sumI]
  | k + 1 => by rw [wN, wN_sum A k]; rfl
theorem sumI_congr {f g : Nat → Int} : ∀ n, (∀ j, j < n → f j = g j) → sumI f n = sumI g n
  | 0, _ => rfl
  | n + 1, h => by rw [sumI, sumI, sumI_congr n fun j hj => h j (by omega), h n (by omega)]
theorem sumI_add (f g : Nat → Int) : ∀ n, sumI (fun j => f j + g j) n = sumI f n + sumI g n
  | 0 => rfl
  | n + 1 => by rw [sumI, sumI, sumI, sumI_add f g n]; omega
theorem sumI_zero : ∀ n, sumI (fun _ => 0) n = 0
  | 0 => rfl
  | n + 1 => by rw [sumI, sumI_zero n]; rfl
theorem sumI_some (a : Nat) (w : Int) : ∀ n, a ≤ n → sumI (fun i => if a ≤ i then w else 0) n = w * ((n - a : Nat) : Int) := by
  intro n
  induction n with
  | zero => intro h; simp [sumI]
  | succ n ih =>
    intro h
    rw [sumI]
    by_cases e : a = n + 1
    · subst e
      have : sumI (fun i => if n + 1 ≤ i then w else 0) n = sumI (fun _ => 0) n := sumI_congr n fun j hj => if_neg (by omega)
      rw [this, sumI_zero, if_neg (by omega)]
      simp
    · rw [ih (by omega), if_pos (by omega), show n + 1 - a = (n - a) + 1 by omega, Int.natCast_add, Int.mul_add]
      simp

theorem cost_lv (most : Nat) : ∀ z : List (Bun × Nat), (∀ p ∈ z, p.2 ≤ most) → sumI (fun i => wsum (lvA z most i)) most = costZ z
  | [], _ => by
    have : sumI (fun i => wsum (lvA [] most i)) most = sumI (fun _ => 0) most := sumI_congr most fun j hj => by simp [lvA, wsum]
    rw [this, sumI_zero]; rfl
  | p :: z, h => by
    have ih := cost_lv most z fun q hq => h q (List.mem_cons_of_mem _ hq)
    have hp := h p (List.mem_cons_self ..)
    have e : sumI (fun i => wsum (lvA (p :: z) most i)) most = sumI (fun i => (if most - p.2 ≤ i then p.1.1 else 0) + wsum (lvA z most i)) most := by
      refine sumI_congr most fun j hj => ?_
      rw [lvA_cons]
      by_cases hh : most - p.2 ≤ j
      · rw [if_pos hh, if_pos hh, wsum_cons]
      · rw [if_neg hh, if_neg hh, Int.zero_add]
    rw [e, sumI_add, ih, sumI_some _ _ most (by omega), costZ, show most - (most - p.2) = p.2 by omega]

/-- WHAT IS TAKEN IS THE LIGHTEST: no lengths that fit cost less. -/
theorem best {coins l : List Bun} (hp : coins.Perm l) (hs : Srt l) (h0 : ∀ x ∈ l, 0 ≤ x.1) {K : Nat} (z : List (Bun × Nat)) (hz : z.map (·.1) = coins) (hm : ∀ p ∈ z, p.2 ≤ K + 1) (hk : room2 (K + 1) z ≤ 2 ^ (K + 1)) :
    wsum ((rowK l K).take (2 * l.length - 2)) ≤ costZ z := by
  have h1 := rows_min hp hs h0 (lvA z (K + 1)) (fun k => by rw [← hz]; exact lvA_sub z (K + 1) k) K
  have h2 := yN_lv (K + 1) z hm
  have h3 := cost_lv (K + 1) z hm
  have hl : z.length = l.length := by rw [← hp.length_eq, ← hz, List.length_map]
  rw [wN_sum, h3] at h1
  have hq : 2 * l.length - 2 ≤ qN (lvA z (K + 1)) K := by
    rw [qN_eq, Nat.le_div_iff_mul_le (Nat.pow_pos (by decide))]
    rw [hl] at h2
    have e : 2 ^ (K + 1) = 2 * 2 ^ K := by rw [Nat.pow_succ, Nat.mul_comm]
    rw [e] at h2 hk
    generalize 2 ^ K = q at *
    generalize yN (lvA z (K + 1)) (K + 1) = y at *
    rw [Nat.sub_mul]
    have : l.length * (2 * q) = 2 * l.length * q := by rw [← Nat.mul_assoc, Nat.mul_comm l.length 2]
    omega
  exact Int.le_trans (wsum_take_mono (rowK_pos h0 K) hq) h1.2
end Go.Am

/- The best lengths, as they are counted. -/
namespace Go.Am
set_option linter.unusedSimpArgs false
set_option linter.unusedVariables false

/-- The symbols that come, each alone. -/
def coinsTo (fr : List Int) : Nat → List Bun
  | 0 => []
  | i + 1 => if 0 < fr.getD i 0 then coinsTo fr i ++ [(fr.getD i 0, [(i : Int)], ())] else coinsTo fr i

theorem coinsTo_len (fr : List Int) : ∀ i, (coinsTo fr i).length ≤ i
  | 0 => Nat.le_refl _
  | i + 1 => by
    have := coinsTo_len fr i
    rw [coinsTo]
    split
    · rw [List.length_append, List.length_singleton]; omega
    · omega

theorem coinsTo_mem (fr : List Int) : ∀ (i : Nat) (x : Bun), x ∈ coinsTo fr i → ∃ j : Nat, j < i ∧ 0 < fr.getD j 0 ∧ x = (fr.getD j 0, [(j : Int)], ())
  | 0, x, h => by cases h
  | i + 1, x, h => by
    rw [coinsTo] at h
    by_cases h0 : 0 < fr.getD i 0
    · rw [if_pos h0] at h
      rcases List.mem_append.1 h with h | h
      · obtain ⟨j, h1, h2⟩ := coinsTo_mem fr i x h
        exact ⟨j, by omega, h2⟩
      · exact ⟨i, by omega, h0, List.mem_singleton.1 h⟩
    · rw [if_neg h0] at h
      obtain ⟨j, h1, h2⟩ := coinsTo_mem fr i x h
      exact ⟨j, by omega, h2⟩

/-- The symbols of single ones. -/
def symsOf (l : List Bun) : List Int := syms l
theorem syms_single : ∀ {l : List Bun}, (∀ x ∈ l, ∃ s, x.2.1 = [s]) → (syms l).length = l.length ∧ ∀ c, syms (l.take c) = (syms l).take c
  | [], _ => ⟨rfl, fun c => by simp [syms]⟩
  | x :: l, h => by
    obtain ⟨s, hs⟩ := h x (List.mem_cons_self ..)
    obtain ⟨h1, h2⟩ := syms_single (l := l) fun y hy => h y (List.mem_cons_of_mem _ hy)
    have e : syms (x :: l) = s :: syms l := by unfold syms; rw [List.flatMap_cons, hs]; rfl
    refine ⟨by rw [e, List.length_cons, List.length_cons, h1], fun c => ?_⟩
    cases c with
    | zero => simp [syms]
    | succ c =>
      have e2 : syms (x :: l.take c) = s :: syms (l.take c) := by unfold syms; rw [List.flatMap_cons, hs]; rfl
      rw [List.take_succ_cons, e2, h2 c, e, List.take_succ_cons]

theorem coinsTo_single (fr : List Int) (i : Nat) : ∀ x ∈ coinsTo fr i, ∃ s, x.2.1 = [s] := fun x hx => by
  obtain ⟨j, _, _, e⟩ := coinsTo_mem fr i x hx
  exact ⟨j, by rw [e]⟩

theorem coinsTo_syms (fr : List Int) : ∀ i, syms (coinsTo fr i) = ((List.range i).filter fun j => decide (0 < fr.getD j 0)).map fun (j : Nat) => (j : Int)
  | 0 => rfl
  | i + 1 => by
    rw [List.range_succ, List.filter_append, List.map_append, ← coinsTo_syms fr i, coinsTo]
    by_cases h : 0 < fr.getD i 0
    · rw [if_pos h, syms_append]
      simp only [List.filter_cons, decide_eq_true h, if_true, List.filter_nil, List.map_cons, List.map_nil]
      rfl
    · rw [if_neg h]
      simp only [List.filter_cons, decide_eq_false h, Bool.false_eq_true, if_false, List.filter_nil, List.map_nil, List.append_nil]

theorem coinsTo_nodup (fr : List Int) (i : Nat) : (syms (coinsTo fr i)).Nodup := by
  rw [coinsTo_syms]
  have : ((List.range i).filter fun j => decide (0 < fr.getD j 0)).Nodup := List.nodup_range.filter _
  unfold List.Nodup
  rw [List.pairwise_map]
  exact List.Pairwise.imp (fun {a b} hab h => hab (by omega)) this

/-- How often each number comes. -/
def cnts (n : Nat) (S : List Int) : List Int := (List.range n).map fun (i : Nat) => ((S.count (i : Int) : Nat) : Int)
theorem cnts_len (n : Nat) (S : List Int) : (cnts n S).length = n := by simp [cnts]
theorem cnts_get (n : Nat) (S : List Int) {i : Nat} (h : i < n) : (cnts n S)[i]? = some ((S.count (i : Int) : Nat) : Int) := by
  unfold cnts; rw [List.getElem?_map, List.getElem?_range h]; rfl
theorem cnts_nil (n : Nat) : cnts n [] = List.replicate n 0 := by
  apply List.ext_getElem?
  intro i
  by_cases h : i < n
  · rw [cnts_get n [] h, List.getElem?_replicate, if_pos h]; rfl
  · rw [List.getElem?_eq_none (by rw [cnts_len]; omega), List.getElem?_eq_none (by rw [List.length_replicate]; omega)]
theorem cnts_snoc (n : Nat) (S : List Int) {x : Nat} (hx : x < n) : (cnts n S).set x ((S.count (x : Int) : Int) + 1) = cnts n (S ++ [(x : Int)]) := by
  apply List.ext_getElem?
  intro i
  by_cases h : i < n
  · rw [List.getElem?_set, cnts_get n S h, cnts_get n _ h, List.count_append, List.count_singleton, cnts_len]
    by_cases e : x = i
    · subst e
      rw [if_pos rfl, if_pos hx]
      simp
    · rw [if_neg e]
      have : ((x : Int) == (i : Int)) = false := by simpa using (by omega : (x : Int) ≠ (i : Int))
      rw [this]
      simp
  · rw [List.getElem?_eq_none (by rw [List.length_set, cnts_len]; omega), List.getElem?_eq_none (by rw [cnts_len]; omega)]

/-- What the best lengths are counted of. -/
def pickS (l : List Bun) (most : Nat) : List Int :=
  if l.length = 1 then syms l else if l.length < 2 then [] else syms ((rowK l (most - 1)).take (2 * l.length - 2))

def okF (fr : List Int) : Bool := fr.all fun x => decide (0 ≤ x) && decide (x ≤ 1073741824)

def lensR (fr : List Int) (most : Int) : Int × List Int :=
  if 320 < fr.length ∨ most < 1 ∨ 15 < most ∨ okF fr = false then (1, []) else
  if 2 ^ most.toNat < (coinsTo fr fr.length).length then (50, []) else
  (0, cnts fr.length (pickS (isort (coinsTo fr fr.length)) most.toNat))

/-! ### Rows as the code makes them -/
theorem rowK_next {l : List Bun} (h : Srt l) (k : Nat) : isort (l ++ pairs (rowK l k)) = rowK l (k + 1) := by
  rw [rowK, ← mrg_isort, isort_id l h, isort_id _ (pairs_srt _ (rowK_srt h k))]

theorem rowK_len_le (l : List Bun) : ∀ k, (rowK l k).length ≤ 2 * l.length
  | 0 => by rw [rowK]; omega
  | k + 1 => by have := rowK_len_le l k; rw [rowK_len]; omega

theorem rowK_max {l : List Bun} {w : Int} (h : ∀ x ∈ l, 0 ≤ x.1 ∧ x.1 ≤ w) : ∀ k, ∀ x ∈ rowK l k, 0 ≤ x.1 ∧ x.1 ≤ w * 2 ^ k
  | 0 => fun x hx => by rw [Int.pow_zero, Int.mul_one]; exact h x hx
  | k + 1 => fun x hx => by
    have hp : (0 : Int) < 2 ^ k := Int.pow_pos (by decide)
    have e : w * 2 ^ (k + 1) = 2 * (w * 2 ^ k) := by rw [Int.pow_succ]; rw [← Int.mul_assoc, Int.mul_comm _ 2]
    rcases List.mem_append.1 ((mrg_perm _ _).mem_iff.1 hx) with hx | hx
    · obtain ⟨h1, h2⟩ := h x hx
      refine ⟨h1, ?_⟩
      have hw : 0 ≤ w := by omega
      have : w * 1 ≤ w * 2 ^ k := Int.mul_le_mul_of_nonneg_left (by omega) hw
      have h3 : 0 ≤ w * 2 ^ k := Int.mul_nonneg hw (by omega)
      rw [e]; omega
    · obtain ⟨a, ha, b, hb, e2⟩ := pairs_mem hx
      have h1 := rowK_max h k a ha
      have h2 := rowK_max h k b hb
      rw [e]; omega
end Go.Am

/- What is true of the best lengths. -/
namespace Go.Am
set_option linter.unusedSimpArgs false
set_option linter.unusedVariables false

theorem sum_range (f : Nat → Nat) : ∀ n, ((List.range n).map f).sum = sumN f n
  | 0 => rfl
  | n + 1 => by rw [List.range_succ, List.map_append, List.sum_append, sum_range f n]; simp [sumN]

theorem sum_filter {α : Type} (p : α → Bool) (h : α → Nat) : ∀ l : List α, (∀ x ∈ l, p x = false → h x = 0) → (l.map h).sum = ((l.filter p).map h).sum
  | [], _ => rfl
  | x :: l, hx => by
    have ih := sum_filter p h l fun y hy => hx y (List.mem_cons_of_mem _ hy)
    rw [List.filter_cons]
    cases hp : p x with
    | true => simp [ih]
    | false =>
      have := hx x (List.mem_cons_self ..) hp
      simp [ih, this]

theorem map_index (f : Int → Nat) (ss : List Int) : (ss.map f).sum = sumN (fun j => f (ss.getD j 0)) ss.length := by
  rw [← sum_range]
  congr 1
  apply List.ext_getElem?
  intro i
  rw [List.getElem?_map, List.getElem?_map]
  by_cases h : i < ss.length
  · rw [List.getElem?_range h, List.getElem?_eq_getElem h]
    simp [List.getD, h]
  · rw [List.getElem?_eq_none (by omega), List.getElem?_eq_none (by simpa using h)]
    rfl

/-- What is there of the rows: sorted single ones. -/
structure Coins (l : List Bun) : Prop where
  srt : Srt l
  pos : ∀ x ∈ l, 0 < x.1
  one : ∀ x ∈ l, ∃ s, x.2.1 = [s]
  nodup : (syms l).Nodup

theorem coins_ok (fr : List Int) : Coins (isort (coinsTo fr fr.length)) := by
  have hp := isort_perm (coinsTo fr fr.length)
  refine ⟨isort_srt _, fun x hx => ?_, fun x hx => coinsTo_single fr _ x (hp.mem_iff.1 hx), ?_⟩
  · obtain ⟨j, _, h, e⟩ := coinsTo_mem fr _ x (hp.mem_iff.1 hx)
    rw [e]; exact h
  · exact (syms_perm hp).nodup_iff.2 (coinsTo_nodup fr _)

theorem Coins.pos0 {l : List Bun} (h : Coins l) : ∀ x ∈ l, 0 ≤ x.1 := fun x hx => Int.le_of_lt (h.pos x hx)

/-- How often each is picked. -/
theorem pick_count {l : List Bun} (h : Coins l) (h2 : 2 ≤ l.length) {K : Nat} (hK : l.length ≤ 2 ^ (K + 1)) (s : Int) :
    (pickS l (K + 1)).count s = ((sel l K (2 * l.length - 2)).flatMap fun c => (syms l).take c).count s := by
  unfold pickS
  rw [if_neg (by omega), if_neg (by omega), Nat.add_sub_cancel]
  have := (sel_syms (l := l) K (2 * l.length - 2) (rowK_enough l hK)).1
  rw [this.count_eq]
  congr 2
  funext c
  exact (syms_single h.one).2 c

theorem pick_at {l : List Bun} (h : Coins l) (h2 : 2 ≤ l.length) {K : Nat} (hK : l.length ≤ 2 ^ (K + 1)) {j : Nat} (hj : j < l.length) :
    (pickS l (K + 1)).count ((syms l).getD j 0) = occ (sel l K (2 * l.length - 2)) j := by
  have hl := (syms_single h.one).1
  have e : (syms l).getD j 0 = (syms l)[j]'(by omega) := by rw [List.getD, List.getElem?_eq_getElem (by omega)]; rfl
  rw [pick_count h h2 hK, e, count_levels h.nodup]

theorem occ_bounds {l : List Bun} (h : Coins l) (h2 : 2 ≤ l.length) {K : Nat} (hK : l.length ≤ 2 ^ (K + 1)) {j : Nat} (hj : j < l.length) :
    1 ≤ occ (sel l K (2 * l.length - 2)) j ∧ occ (sel l K (2 * l.length - 2)) j ≤ K + 1 := by
  have hf := sel_full h.srt h.pos0 h2 K (rowK_enough l hK)
  have hlen := sel_len l K (2 * l.length - 2)
  have hle := occ_le (sel l K (2 * l.length - 2)) j
  refine ⟨?_, by omega⟩
  cases hs : sel l K (2 * l.length - 2) with
  | nil => rw [hs] at hlen; simp at hlen
  | cons c r =>
    rw [hs] at hf
    have hf : c = l.length := hf
    rw [occ_cons, if_pos (by omega)]
    omega

theorem pick_none {l : List Bun} (h : Coins l) (h2 : 2 ≤ l.length) {K : Nat} (hK : l.length ≤ 2 ^ (K + 1)) {s : Int} (hs : ¬ s ∈ syms l) : (pickS l (K + 1)).count s = 0 := by
  rw [pick_count h h2 hK, List.count_eq_zero]
  intro hm
  obtain ⟨c, _, hc⟩ := List.mem_flatMap.1 hm
  exact hs (List.mem_of_mem_take hc)

/-- The powers of two that lengths take, together. -/
def tkN (x : Nat) : Nat := if 0 < x then 2 ^ (15 - x) else 0

theorem sumN_mul (a : Nat) (f : Nat → Nat) : ∀ n, sumN (fun j => a * f j) n = a * sumN f n
  | 0 => rfl
  | n + 1 => by rw [sumN, sumN, sumN_mul a f n, Nat.mul_add]

theorem kraft_best {l : List Bun} (h : Coins l) (h2 : 2 ≤ l.length) {K : Nat} (hK : l.length ≤ 2 ^ (K + 1)) (hm : K + 1 ≤ 15) : ((syms l).map fun s => tkN ((pickS l (K + 1)).count s)).sum = 32768 := by
  have hl := (syms_single h.one).1
  have hlen := sel_len l K (2 * l.length - 2)
  have hk := kraft (n := l.length) (sel l K (2 * l.length - 2)) (sel_inc h.srt h.pos0 K _ (rowK_enough l hK)) (sel_all_le h.srt h.pos0 (rowK_enough l hK))
  rw [sel_V, hlen] at hk
  rw [map_index, hl]
  have e : sumN (fun j => tkN ((pickS l (K + 1)).count ((syms l).getD j 0))) l.length = sumN (fun j => 2 ^ (15 - (K + 1)) * 2 ^ (K + 1 - occ (sel l K (2 * l.length - 2)) j)) l.length := by
    refine sumN_congr _ fun j hj => ?_
    obtain ⟨o1, o2⟩ := occ_bounds h h2 hK hj
    rw [pick_at h h2 hK hj]
    unfold tkN
    rw [if_pos (by omega), ← Nat.pow_add]
    congr 1
    omega
  rw [e, sumN_mul]
  have e2 : 2 ^ (K + 1) = 2 * 2 ^ K := by rw [Nat.pow_succ, Nat.mul_comm]
  have : sumN (fun j => 2 ^ (K + 1 - occ (sel l K (2 * l.length - 2)) j)) l.length = 2 ^ (K + 1) := by
    rw [e2] at hk ⊢
    generalize 2 ^ K = q at *
    generalize sumN _ _ = y at *
    have e3 : l.length * (2 * q) = 2 * l.length * q := by rw [← Nat.mul_assoc, Nat.mul_comm l.length 2]
    rw [Nat.sub_mul, e3] at hk
    have : 2 * q ≤ 2 * l.length * q := Nat.mul_le_mul_right q (by omega)
    omega
  rw [this, ← Nat.pow_add, show 15 - (K + 1) + (K + 1) = 15 by omega]

/-- The cost of what is picked. -/
theorem cost_best {l : List Bun} (h : Coins l) (h2 : 2 ≤ l.length) {K : Nat} (hK : l.length ≤ 2 ^ (K + 1)) :
    wsum ((rowK l K).take (2 * l.length - 2)) = sumI (fun j => (l.getD j (0, [], ())).1 * (occ (sel l K (2 * l.length - 2)) j : Int)) l.length := by
  rw [(sel_syms (l := l) K (2 * l.length - 2) (rowK_enough l hK)).2]
  have hle := sel_all_le h.srt h.pos0 (rowK_enough l hK)
  generalize sel l K (2 * l.length - 2) = lv at *
  have hw : ∀ c, c ≤ l.length → wsum (l.take c) = sumI (fun j => if j < c then (l.getD j (0, [], ())).1 else 0) l.length := by
    intro c hc
    have key : ∀ n, n ≤ l.length → sumI (fun j => if j < c then (l.getD j (0, [], ())).1 else 0) n = wsum (l.take (min n c)) := by
      intro n
      induction n with
      | zero => intro _; simp [sumI, wsum]
      | succ n ih =>
        intro hn
        rw [sumI, ih (by omega)]
        by_cases hnc : n < c
        · rw [if_pos hnc, Nat.min_eq_left (by omega), Nat.min_eq_left (by omega), wsum_take_succ (show n < l.length by omega), List.getD, List.getElem?_eq_getElem (by omega)]
          rfl
        · rw [if_neg hnc, Nat.min_eq_right (by omega), Nat.min_eq_right (by omega), Int.add_zero]
    rw [key l.length (Nat.le_refl _), Nat.min_eq_right hc]
  clear h2 hK
  induction lv with
  | nil =>
    have : sumI (fun j => (l.getD j (0, [], ())).1 * ((occ [] j : Nat) : Int)) l.length = sumI (fun _ => 0) l.length := sumI_congr _ fun j _ => by simp [occ]
    rw [this, sumI_zero]
    rfl
  | cons c lv ih =>
    have ih := ih fun d hd => hle d (List.mem_cons_of_mem _ hd)
    rw [List.map_cons, List.sum_cons, ih, hw c (hle c (List.mem_cons_self ..)), ← sumI_add]
    refine sumI_congr _ fun j hj => ?_
    rw [occ_cons]
    by_cases hjc : j < c
    · rw [if_pos hjc, if_pos hjc, Int.natCast_add, Int.mul_add]
      simp only [Int.natCast_one, Int.mul_one]
      omega
    · rw [if_neg hjc, if_neg hjc, Nat.add_zero, Int.zero_add]
end Go.Am

/- What is true of the best lengths, however many come. -/
namespace Go.Am
set_option linter.unusedSimpArgs false
set_option linter.unusedVariables false

theorem pick_all {l : List Bun} (h : Coins l) {m : Nat} (hm : 1 ≤ m) (hm2 : m ≤ 15) (hn : l.length ≤ 2 ^ m) :
    (∀ s, s ∈ syms l → 1 ≤ (pickS l m).count s ∧ (pickS l m).count s ≤ m) ∧ (∀ s, ¬ s ∈ syms l → (pickS l m).count s = 0) ∧
    ((syms l).map fun s => tkN ((pickS l m).count s)).sum = if 2 ≤ l.length then 32768 else if l.length = 1 then 16384 else 0 := by
  obtain ⟨K, rfl⟩ : ∃ K, m = K + 1 := ⟨m - 1, by omega⟩
  have hl := (syms_single h.one).1
  by_cases h2 : 2 ≤ l.length
  · refine ⟨fun s hs => ?_, fun s hs => pick_none h h2 hn hs, ?_⟩
    · obtain ⟨j, hj, e⟩ := List.getElem_of_mem hs
      have e2 : (syms l).getD j 0 = s := by rw [List.getD, List.getElem?_eq_getElem hj, ← e]; rfl
      rw [← e2, pick_at h h2 hn (by omega)]
      exact occ_bounds h h2 hn (by omega)
    · rw [if_pos h2]
      exact kraft_best h h2 hn hm2
  · rw [if_neg h2]
    by_cases h1 : l.length = 1
    · have hp : pickS l (K + 1) = syms l := by unfold pickS; rw [if_pos h1]
      rw [hp, if_pos h1]
      obtain ⟨x, hx⟩ := List.length_eq_one_iff.1 (hl.trans h1)
      rw [hx]
      refine ⟨fun s hs => ?_, fun s hs => List.count_eq_zero.2 hs, ?_⟩
      · rw [List.mem_singleton.1 hs, List.count_singleton_self]
        omega
      · simp [tkN]
    · have h0 : l = [] := List.eq_nil_of_length_eq_zero (by omega)
      subst h0
      have hp : pickS [] (K + 1) = [] := by unfold pickS; rw [if_neg (by decide), if_pos (by decide)]
      rw [hp, if_neg (by decide)]
      exact ⟨fun s hs => (by cases hs), fun s _ => rfl, rfl⟩

theorem mem_syms {fr : List Int} {i : Nat} (hi : i < fr.length) : ((i : Int) ∈ syms (isort (coinsTo fr fr.length))) ↔ 0 < fr.getD i 0 := by
  rw [(syms_perm (isort_perm _)).mem_iff, coinsTo_syms, List.mem_map]
  constructor
  · rintro ⟨j, hj, e⟩
    have hj := List.mem_filter.1 hj
    have : j = i := by omega
    subst this
    simpa using hj.2
  · intro h
    exact ⟨i, List.mem_filter.2 ⟨List.mem_range.2 hi, by simpa using h⟩, rfl⟩

/-- The room that best lengths take, symbol by symbol. -/
theorem room_best {fr : List Int} {m : Nat} (hm : 1 ≤ m) (hm2 : m ≤ 15) (hn : (isort (coinsTo fr fr.length)).length ≤ 2 ^ m) :
    ((List.range fr.length).map fun (i : Nat) => tkN ((pickS (isort (coinsTo fr fr.length)) m).count (i : Int))).sum =
      if 2 ≤ (isort (coinsTo fr fr.length)).length then 32768 else if (isort (coinsTo fr fr.length)).length = 1 then 16384 else 0 := by
  obtain ⟨p1, p2, p3⟩ := pick_all (coins_ok fr) hm hm2 hn
  rw [← p3, sum_filter (fun j => decide (0 < fr.getD j 0)) _ _ fun i hi hp => ?_]
  · have e := (syms_perm (isort_perm (coinsTo fr fr.length))).map fun s => tkN ((pickS (isort (coinsTo fr fr.length)) m).count s)
    rw [e.sum_nat, coinsTo_syms, List.map_map]
    rfl
  · have hi := List.mem_range.1 hi
    have : ¬ ((i : Int) ∈ syms (isort (coinsTo fr fr.length))) := fun h => by
      have := (mem_syms hi).1 h
      rw [decide_eq_true this] at hp
      cases hp
    rw [p2 _ this]
    rfl
end Go.Am
