/- Best lengths; headers written and read: the Lean function that DeflateLengths comes to answers true at every input. -/
import Derived.Test.YteddgkplkjldcaaGreatAmA
import Derived.Test.YteddgkplkjldcaaGreatPA
import Derived.Test.YteddgkplkjldcaaGreatSB
import Derived.Test.YteddgkplkjldcaaGreatAmC
set_option linter.unusedSimpArgs false
set_option linter.unusedVariables false
namespace Go.Am
abbrev aH := Int × (List Int × Unit)
def iF (x : aH) : List aH → List aH
  | [] => [x]
  | y :: l => if x.1 ≤ y.1 then x :: y :: l else y :: iF x l
def aN : List aH → List aH
  | [] => []
  | x :: l => iF x (aN l)
def gb : List aH → List aH → List aH
  | [], b => b
  | x :: a, [] => x :: a
  | x :: a, y :: b => if y.1 < x.1 then y :: gb (x :: a) b else x :: gb a (y :: b)
def mj (l : List aH) : Prop := l.Pairwise fun x y => x.1 ≤ y.1
theorem lS (x : aH) (a : List aH) (y : aH) (b : List aH) : gb (x :: a) (y :: b) = if y.1 < x.1 then y :: gb (x :: a) b else x :: gb a (y :: b) := by rw [gb]
theorem lR (b : List aH) : gb [] b = b := by rw [gb]
theorem fl (a : List aH) : gb a [] = a := by cases a <;> rw [gb]
theorem ri (x : aH) : ∀ l, (iF x l).Perm (x :: l)
  | [] => .refl _
  | y :: l => by
    rw [iF]
    split
    · exact .refl _
    · exact ((ri x l).cons y).trans (.swap x y l)
theorem eZ : ∀ l, (aN l).Perm l
  | [] => .refl _
  | x :: l => (ri x _).trans ((eZ l).cons x)
theorem a7 (l : List aH) : (aN l).length = l.length := (eZ l).length_eq
theorem E7 (x : aH) : ∀ l, mj l → mj (iF x l)
  | [], _ => List.pairwise_singleton _ _
  | y :: l, h => by
    rw [iF]
    have h' := List.pairwise_cons.1 h
    split
    · rename_i hxy
      exact List.pairwise_cons.2 ⟨fun z hz => by
        rcases List.mem_cons.1 hz with rfl | hz
        · exact hxy
        · exact Int.le_trans hxy (h'.1 z hz), h⟩
    · rename_i hxy
      refine List.pairwise_cons.2 ⟨fun z hz => ?_, E7 x l h'.2⟩
      rcases List.mem_cons.1 ((ri x l).mem_iff.1 hz) with rfl | hz
      · omega
      · exact h'.1 z hz
theorem dy : ∀ l, mj (aN l)
  | [] => .nil
  | x :: l => E7 x _ (dy l)
theorem zV (x : aH) (l : List aH) (h : ∀ y ∈ l, x.1 ≤ y.1) : iF x l = x :: l := by
  cases l with
  | nil => rfl
  | cons y l => rw [iF, if_pos (h y (List.mem_cons_self ..))]
theorem vB : ∀ l, mj l → aN l = l
  | [], _ => rfl
  | x :: l, h => by
    have h' := List.pairwise_cons.1 h
    rw [aN, vB l h'.2, zV x l h'.1]
theorem dm : ∀ a b, (gb a b).Perm (a ++ b)
  | [], b => by rw [gb]; exact .refl _
  | x :: a, [] => by rw [gb, List.append_nil]
  | x :: a, y :: b => by
    rw [gb]
    split
    · exact ((dm (x :: a) b).cons y).trans (List.perm_middle.symm)
    · exact (dm a (y :: b)).cons x
termination_by a b => a.length + b.length
theorem JV (a b : List aH) : (gb a b).length = a.length + b.length := by rw [(dm a b).length_eq, List.length_append]
theorem A5 : ∀ a b, mj a → mj b → mj (gb a b)
  | [], b, _, hb => by rw [gb]; exact hb
  | x :: a, [], ha, _ => by rw [gb]; exact ha
  | x :: a, y :: b, ha, hb => by
    have ha' := List.pairwise_cons.1 ha
    have hb' := List.pairwise_cons.1 hb
    rw [gb]
    split
    · rename_i h
      refine List.pairwise_cons.2 ⟨fun z hz => ?_, A5 (x :: a) b ha hb'.2⟩
      rcases List.mem_append.1 ((dm _ _).mem_iff.1 hz) with hz | hz
      · rcases List.mem_cons.1 hz with rfl | hz
        · omega
        · have := ha'.1 z hz; omega
      · exact hb'.1 z hz
    · rename_i h
      refine List.pairwise_cons.2 ⟨fun z hz => ?_, A5 a (y :: b) ha'.2 hb⟩
      rcases List.mem_append.1 ((dm _ _).mem_iff.1 hz) with hz | hz
      · exact ha'.1 z hz
      · rcases List.mem_cons.1 hz with rfl | hz
        · omega
        · have := hb'.1 z hz; omega
termination_by a b => a.length + b.length
theorem pR (x : aH) : ∀ a b, mj a → mj b → gb (iF x a) b = iF x (gb a b)
  | [], [], _, _ => by simp [iF, gb]
  | [], y :: b, _, hb => by
    have hb' := List.pairwise_cons.1 hb
    rw [iF, gb, gb]
    split
    · rename_i h
      have := pR x [] b .nil hb'.2
      rw [iF, gb] at this
      rw [this, iF, if_neg (by omega)]
    · rename_i h
      rw [gb, iF, if_pos (by omega)]
  | z :: a, [], _, _ => by rw [fl, gb]
  | z :: a, y :: b, ha, hb => by
    have ha' := List.pairwise_cons.1 ha
    have hb' := List.pairwise_cons.1 hb
    rw [iF]
    by_cases hxz : x.1 ≤ z.1
    · rw [if_pos hxz, gb]
      by_cases hyx : y.1 < x.1
      · have ih := pR x (z :: a) b ha hb'.2
        rw [iF, if_pos hxz] at ih
        rw [if_pos hyx, gb, if_pos (by omega), iF, if_neg (by omega), ih]
      · rw [if_neg hyx]
        rw [zV]
        intro w hw
        rcases List.mem_append.1 ((dm _ _).mem_iff.1 hw) with hw | hw
        · rcases List.mem_cons.1 hw with rfl | hw
          · exact hxz
          · have := ha'.1 w hw; omega
        · rcases List.mem_cons.1 hw with rfl | hw
          · omega
          · have := hb'.1 w hw; omega
    · rw [if_neg hxz, gb, gb]
      by_cases hyz : y.1 < z.1
      · have ih := pR x (z :: a) b ha hb'.2
        rw [iF, if_neg hxz] at ih
        rw [if_pos hyz, if_pos hyz, ih, iF, if_neg (by omega)]
      · rw [if_neg hyz, if_neg hyz, pR x a (y :: b) ha'.2 hb, iF, if_neg (by omega)]
termination_by a b => a.length + b.length
theorem jK : ∀ a b, gb (aN a) (aN b) = aN (a ++ b)
  | [], b => by rw [aN, gb]; rfl
  | x :: a, b => by
    rw [aN, pR x _ _ (dy a) (dy b), jK a b]
    rfl
def yO (x : aH) : List aH → List aH
  | [] => [x]
  | y :: l => if x.1 < y.1 then x :: y :: l else y :: yO x l
theorem JU (x : aH) : ∀ a, gb a [x] = yO x a
  | [] => by simp [gb, yO]
  | y :: a => by
    rw [gb, yO, fl]
    split
    · rfl
    · rw [JU x a]
theorem Hp (a : List aH) (x : aH) : aN (a ++ [x]) = yO x (aN a) := by
  rw [← jK, ← JU]
  rfl
theorem dw (a1 a2 b1 b2 : List aH) (h1 : ∀ y ∈ b1, ∀ x ∈ a2, y.1 < x.1) (h2 : ∀ x ∈ a1, ∀ y ∈ b2, x.1 ≤ y.1) : gb (a1 ++ a2) (b1 ++ b2) = gb a1 b1 ++ gb a2 b2 := by
  match a1, b1 with
  | [], [] => simp [gb]
  | [], y :: b1 =>
    rw [List.nil_append]
    have ih := dw [] a2 b1 b2 (fun z hz => h1 z (List.mem_cons_of_mem _ hz)) (fun x hx => by cases hx)
    rw [List.nil_append] at ih
    cases a2 with
    | nil => simp [gb]
    | cons x a2 =>
      rw [List.cons_append, lS, if_pos (h1 y (List.mem_cons_self ..) x (List.mem_cons_self ..)), ih]
      simp [lR]
  | x :: a1, [] =>
    rw [List.nil_append]
    have ih := dw a1 a2 [] b2 (fun z hz => by cases hz) (fun w hw => h2 w (List.mem_cons_of_mem _ hw))
    rw [List.nil_append] at ih
    cases b2 with
    | nil => simp [fl]
    | cons y b2 =>
      have := h2 x (List.mem_cons_self ..) y (List.mem_cons_self ..)
      rw [List.cons_append, lS, if_neg (by omega), ih]
      simp [fl]
  | x :: a1, y :: b1 =>
    rw [List.cons_append, List.cons_append, lS, lS]
    split
    · have ih := dw (x :: a1) a2 b1 b2 (fun z hz => h1 z (List.mem_cons_of_mem _ hz)) h2
      rw [List.cons_append] at ih
      rw [ih]; rfl
    · have ih := dw a1 a2 (y :: b1) b2 h1 (fun w hw => h2 w (List.mem_cons_of_mem _ hw))
      rw [List.cons_append] at ih
      rw [ih]; rfl
termination_by a1.length + b1.length
theorem Pw (a b : List aH) (h : ∀ y ∈ b, ∀ x ∈ a, y.1 < x.1) : gb a b = b ++ a := by
  have := dw [] a b [] h (fun x hx => by cases hx)
  simpa [gb, fl] using this
theorem Me (a b : List aH) (h : ∀ x ∈ a, ∀ y ∈ b, x.1 ≤ y.1) : gb a b = a ++ b := by
  have := dw a [] [] b (fun x hx => by cases hx) h
  simpa [gb, fl] using this
def aD : List aH → List aH
  | x :: y :: l => (x.1 + y.1, x.2.1 ++ y.2.1, ()) :: aD l
  | _ => []
theorem d7 : ∀ l : List aH, (aD l).length = l.length / 2
  | [] => rfl
  | [_] => by simp [aD]
  | x :: y :: l => by rw [aD, List.length_cons, d7 l, List.length_cons, List.length_cons]; omega
theorem nu : ∀ {l : List aH} {z : aH}, z ∈ aD l → ∃ x ∈ l, ∃ y ∈ l, z.1 = x.1 + y.1
  | [], z, h => by cases h
  | [_], z, h => by cases h
  | x :: y :: l, z, h => by
    rw [aD] at h
    rcases List.mem_cons.1 h with rfl | h
    · exact ⟨x, by simp, y, by simp, rfl⟩
    · obtain ⟨a, ha, b, hb, e⟩ := nu h
      exact ⟨a, by simp [ha], b, by simp [hb], e⟩
theorem q8 : ∀ l : List aH, mj l → mj (aD l)
  | [], _ => .nil
  | [_], _ => .nil
  | x :: y :: l, h => by
    have h1 := List.pairwise_cons.1 h
    have h2 := List.pairwise_cons.1 h1.2
    rw [aD]
    refine List.pairwise_cons.2 ⟨fun z hz => ?_, q8 l h2.2⟩
    obtain ⟨a, ha, b, hb, e⟩ := nu hz
    have k1 := h1.1 a (List.mem_cons_of_mem _ ha)
    have k2 := h2.1 b hb
    simp only
    omega
theorem kw : ∀ (l : List aH) (p : Nat), (aD l).take p = aD (l.take (2 * p))
  | [], p => by simp [aD]
  | [x], 0 => by simp [aD]
  | [x], p + 1 => by rw [show 2 * (p + 1) = 2 * p + 1 + 1 by omega]; simp [aD]
  | x :: y :: l, 0 => by simp [aD]
  | x :: y :: l, p + 1 => by
    rw [aD, List.take_succ_cons, kw l p, show 2 * (p + 1) = 2 * p + 1 + 1 by omega, List.take_succ_cons, List.take_succ_cons, aD]
def bn (l : List aH) : List Int := l.flatMap (·.2.1)
def dc (l : List aH) : Int := (l.map (·.1)).sum
theorem bB (x : aH) (l : List aH) : dc (x :: l) = x.1 + dc l := by simp [dc]
theorem iH (a b : List aH) : dc (a ++ b) = dc a + dc b := by simp [dc]
theorem iI (a b : List aH) : bn (a ++ b) = bn a ++ bn b := List.flatMap_append
theorem yZ {a b : List aH} (h : a.Perm b) : dc a = dc b := by
  induction h with
  | nil => rfl
  | cons x _ ih => rw [bB, bB, ih]
  | swap x y l => rw [bB, bB, bB, bB]; omega
  | trans _ _ h1 h2 => exact h1.trans h2
theorem nj {a b : List aH} (h : a.Perm b) : (bn a).Perm (bn b) := h.flatMap_right _
theorem oB : ∀ (l : List aH) (p : Nat), l.length = 2 * p → bn (aD l) = bn l ∧ dc (aD l) = dc l
  | [], p, _ => ⟨rfl, rfl⟩
  | [x], p, h => by simp at h; omega
  | x :: y :: l, 0, h => by simp at h
  | x :: y :: l, p + 1, h => by
    obtain ⟨h1, h2⟩ := oB l p (by simp at h; omega)
    constructor
    · unfold bn at h1 ⊢
      rw [aD, List.flatMap_cons, h1, List.flatMap_cons, List.flatMap_cons, List.append_assoc]
    · rw [aD, bB, h2, bB, bB]
      simp only
      omega
end Go.Am
namespace Go.Am
def cA : List aH → List aH → Nat → Nat
  | _, _, 0 => 0
  | [], _, _ + 1 => 0
  | _ :: a, [], m + 1 => cA a [] m + 1
  | x :: a, y :: b, m + 1 => if y.1 < x.1 then cA (x :: a) b m else cA a (y :: b) m + 1
termination_by a b => a.length + b.length
theorem Bv (a b : List aH) : cA a b 0 = 0 := by cases a <;> cases b <;> rw [cA]
theorem HH (b : List aH) (m : Nat) : cA [] b m = 0 := by cases m <;> rw [cA]
theorem Bw : ∀ (a : List aH) (m : Nat), cA a [] m = min m a.length
  | [], m => by rw [HH]; simp
  | x :: a, 0 => by rw [Bv]; simp
  | x :: a, m + 1 => by rw [cA, Bw a m, List.length_cons]; omega
theorem sV : ∀ (m : Nat) (a b : List aH), cA a b m ≤ m ∧ cA a b m ≤ a.length ∧ (m ≤ a.length + b.length → m - cA a b m ≤ b.length)
  | 0, a, b => by rw [Bv]; omega
  | m + 1, [], b => by rw [HH]; simp
  | m + 1, x :: a, [] => by
    rw [Bw]; simp; omega
  | m + 1, x :: a, y :: b => by
    rw [cA]
    split
    · have ih := sV m (x :: a) b
      simp only [List.length_cons] at ih ⊢
      omega
    · have ih := sV m a (y :: b)
      simp only [List.length_cons] at ih ⊢
      omega
theorem pq : ∀ (m : Nat) (a b : List aH), ((gb a b).take m).Perm (a.take (cA a b m) ++ b.take (m - cA a b m))
  | 0, a, b => by rw [Bv]; simp
  | m + 1, [], b => by rw [HH, lR]; simp
  | m + 1, x :: a, [] => by
    rw [Bw, fl]
    simp only [List.take_nil, List.append_nil]
    rcases Nat.le_total (m + 1) (x :: a).length with h | h
    · rw [Nat.min_eq_left h]
    · rw [Nat.min_eq_right h, List.take_length, List.take_of_length_le h]
  | m + 1, x :: a, y :: b => by
    rw [cA, lS]
    split
    · have ih := pq m (x :: a) b
      have hc := (sV m (x :: a) b).1
      rw [List.take_succ_cons, show m + 1 - cA (x :: a) b m = (m - cA (x :: a) b m) + 1 by omega, List.take_succ_cons]
      exact (ih.cons y).trans List.perm_middle.symm
    · have ih := pq m a (y :: b)
      rw [List.take_succ_cons, List.take_succ_cons, show m + 1 - (cA a (y :: b) m + 1) = m - cA a (y :: b) m by omega]
      exact ih.cons x
theorem By : ∀ (m : Nat) (a b : List aH) (i j : Nat) (hi : i < b.length) (hj : j < a.length), mj a → i < m - cA a b m → a[j].1 ≤ b[i].1 → j < cA a b m
  | 0, a, b, i, j, hi, hj, _, h, _ => by omega
  | m + 1, [], b, i, j, hi, hj, _, h, _ => by cases hj
  | m + 1, x :: a, [], i, j, hi, hj, _, h, _ => by cases hi
  | m + 1, x :: a, y :: b, i, j, hi, hj, hs, h, hle => by
    have hs' := List.pairwise_cons.1 hs
    rw [cA] at h ⊢
    split at h
    · rename_i hlt
      rw [if_pos hlt]
      cases i with
      | zero =>
        exfalso
        have h0 : ((y :: b)[0]).1 = y.1 := rfl
        rw [h0] at hle
        cases j with
        | zero => have : ((x :: a)[0]).1 = x.1 := rfl; rw [this] at hle; omega
        | succ j =>
          have e : (x :: a)[j + 1] = a[j]'(by simpa using hj) := rfl
          rw [e] at hle
          have := hs'.1 _ (List.getElem_mem (l := a) (by simpa using hj))
          omega
      | succ i =>
        have hc := (sV m (x :: a) b).1
        exact By m (x :: a) b i j (by simpa using hi) hj hs (by omega) hle
    · rename_i hlt
      rw [if_neg hlt]
      cases j with
      | zero => omega
      | succ j =>
        have := By m a (y :: b) i j hi (by simpa using hj) hs'.2 (by omega) hle
        omega
def aW (l : List aH) : Nat → List aH
  | 0 => l
  | k + 1 => gb l (aD (aW l k))
theorem uU {l : List aH} (h : mj l) : ∀ k, mj (aW l k)
  | 0 => h
  | k + 1 => A5 _ _ h (q8 _ (uU h k))
theorem lJ {l : List aH} (h : ∀ x ∈ l, 0 ≤ x.1) : ∀ k, ∀ x ∈ aW l k, 0 ≤ x.1
  | 0 => h
  | k + 1 => fun x hx => by
    rcases List.mem_append.1 ((dm _ _).mem_iff.1 hx) with hx | hx
    · exact h x hx
    · obtain ⟨a, ha, b, hb, e⟩ := nu hx
      have h1 := lJ h k a ha
      have h2 := lJ h k b hb
      omega
theorem pG (l : List aH) (k : Nat) : (aW l (k + 1)).length = l.length + (aW l k).length / 2 := by rw [aW, JV, d7]
theorem zI (l : List aH) : ∀ k, 2 * l.length ≤ (aW l k).length + (l.length + 2 ^ k - 1) / 2 ^ k
  | 0 => by rw [aW]; simp; omega
  | k + 1 => by
    have ih := zI l k
    have hp : 0 < 2 ^ k := Nat.pow_pos (by decide)
    have e : (l.length + 2 ^ (k + 1) - 1) / 2 ^ (k + 1) = ((l.length + 2 ^ k - 1) / 2 ^ k + 1) / 2 := by
      have e1 : (l.length + 2 ^ k - 1) / 2 ^ k + 1 = (l.length + 2 ^ k - 1 + 2 ^ k) / 2 ^ k := (Nat.add_div_right _ hp).symm
      rw [e1, Nat.div_div_eq_div_mul, Nat.pow_succ]
      congr 1
      omega
    rw [pG, e]
    omega
theorem fD (l : List aH) {k : Nat} (h : l.length ≤ 2 ^ (k + 1)) : 2 * l.length - 2 ≤ (aW l k).length := by
  have h1 := zI l k
  have hp : 0 < 2 ^ k := Nat.pow_pos (by decide)
  have h2 : (l.length + 2 ^ k - 1) / 2 ^ k < 3 := by
    rw [Nat.div_lt_iff_lt_mul hp]
    rw [Nat.pow_succ] at h
    omega
  omega
def pB (l : List aH) : Nat → Nat → List Nat
  | 0, m => [m]
  | k + 1, m => cA l (aD (aW l k)) m :: pB l k (2 * (m - cA l (aD (aW l k)) m))
theorem pz (l : List aH) : ∀ k m, (pB l k m).length = k + 1
  | 0, m => rfl
  | k + 1, m => by rw [pB, List.length_cons, pz l k]
def G8 : List Nat → Nat
  | [] => 0
  | c :: r => c * 2 ^ r.length + G8 r
theorem VA (l : List aH) : ∀ k m, G8 (pB l k m) = m * 2 ^ k
  | 0, m => by simp [pB, G8]
  | k + 1, m => by
    have hc := (sV m l (aD (aW l k))).1
    rw [pB, G8, pz, VA l k, Nat.pow_succ]
    generalize cA l (aD (aW l k)) m = c at *
    obtain ⟨p, rfl⟩ : ∃ p, m = c + p := ⟨m - c, by omega⟩
    rw [Nat.add_sub_cancel_left, Nat.add_mul, Nat.mul_comm 2 p, Nat.mul_assoc, Nat.mul_comm 2 (2 ^ k)]
theorem py {l : List aH} {k m : Nat} (h : m ≤ (aW l (k + 1)).length) : 2 * (m - cA l (aD (aW l k)) m) ≤ (aW l k).length := by
  have h1 := (sV m l (aD (aW l k))).2.2
  rw [pG] at h
  rw [d7] at h1
  have := h1 h
  omega
theorem uR {l : List aH} : ∀ k m, m ≤ (aW l k).length →
    (bn ((aW l k).take m)).Perm ((pB l k m).flatMap fun c => bn (l.take c)) ∧ dc ((aW l k).take m) = ((pB l k m).map fun c => dc (l.take c)).sum
  | 0, m, h => by simp [pB, aW]
  | k + 1, m, h => by
    have hn := py h
    obtain ⟨ih1, ih2⟩ := uR k _ hn
    have hp := pq m l (aD (aW l k))
    rw [kw] at hp
    obtain ⟨e1, e2⟩ := oB ((aW l k).take (2 * (m - cA l (aD (aW l k)) m))) (m - cA l (aD (aW l k)) m) (by rw [List.length_take]; omega)
    constructor
    · have h1 := nj hp
      rw [iI, e1] at h1
      rw [pB, List.flatMap_cons]
      exact h1.trans (ih1.append_left _)
    · have h1 := yZ hp
      rw [iH, e2] at h1
      rw [pB, List.map_cons, List.sum_cons, ← ih2]
      exact h1
theorem pA {l : List aH} : ∀ k m, m ≤ (aW l k).length → ∀ x ∈ l.take ((pB l k m).headD 0), x ∈ (aW l k).take m
  | 0, m, h, x, hx => hx
  | k + 1, m, h, x, hx => (pq m l (aD (aW l k))).mem_iff.2 (List.mem_append_left _ hx)
theorem sF {l : List aH} : ∀ k m, m ≤ (aW l k).length → (pB l k m).headD 0 ≤ l.length
  | 0, m, h => h
  | k + 1, m, h => (sV m l _).2.1
theorem ET : ∀ (l : List aH), (∀ x ∈ l, 0 ≤ x.1) → ∀ q (hq : q < l.length) (h2 : q / 2 < (aD l).length), l[q].1 ≤ (aD l)[q / 2].1
  | [], _, q, hq, _ => by cases hq
  | [x], _, q, hq, h2 => by cases h2
  | x :: y :: l, h, 0, hq, h2 => by
    have e : (aD (x :: y :: l))[0 / 2]'h2 = (x.1 + y.1, x.2.1 ++ y.2.1, ()) := rfl
    rw [e]
    have := h y (by simp)
    show x.1 ≤ x.1 + y.1
    omega
  | x :: y :: l, h, 1, hq, h2 => by
    have e : (aD (x :: y :: l))[1 / 2]'h2 = (x.1 + y.1, x.2.1 ++ y.2.1, ()) := rfl
    rw [e]
    have := h x (by simp)
    show y.1 ≤ x.1 + y.1
    omega
  | x :: y :: l, h, q + 2, hq, h2 => by
    have hl : q / 2 < (aD l).length := by
      rw [aD, List.length_cons] at h2; omega
    have ih := ET l (fun z hz => h z (by simp [hz])) q (by simpa using hq) hl
    have e1 : (x :: y :: l)[q + 2] = l[q]'(by simpa using hq) := rfl
    have e2 : (aD (x :: y :: l))[(q + 2) / 2]'h2 = (aD l)[q / 2]'hl := by
      have : (q + 2) / 2 = q / 2 + 1 := by omega
      simp only [this, aD, List.getElem_cons_succ]
    rw [e1, e2]
    exact ih
theorem sD {l : List aH} (hs : mj l) (h0 : ∀ x ∈ l, 0 ≤ x.1) {k m j : Nat} (hm : m ≤ (aW l (k + 1)).length) (hj : j < l.length) {p : Nat} (hp : p ≤ m - cA l (aD (aW l k)) m) (hx : l[j] ∈ (aW l k).take (2 * p)) : j < cA l (aD (aW l k)) m := by
  obtain ⟨q, hq, e⟩ := List.getElem_of_mem hx
  rw [List.length_take] at hq
  rw [List.getElem_take] at e
  have hn := py hm
  have hq2 : q / 2 < (aD (aW l k)).length := by rw [d7]; omega
  have hge := ET (aW l k) (lJ h0 k) q (by omega) hq2
  rw [e] at hge
  exact By m l (aD (aW l k)) (q / 2) j hq2 hj hs (by omega) hge
def CY (lv : List Nat) : Prop := lv.Pairwise fun a b => b ≤ a
theorem EX {c : Nat} {lv : List Nat} (h : CY lv) (hc : lv.headD 0 ≤ c) : CY (c :: lv) := by
  refine List.pairwise_cons.2 ⟨fun b hb => ?_, h⟩
  cases lv with
  | nil => cases hb
  | cons d lv =>
    rcases List.mem_cons.1 hb with rfl | hb
    · exact hc
    · have := (List.pairwise_cons.1 h).1 b hb
      exact Nat.le_trans this hc
theorem AR {l : List aH} (hs : mj l) (h0 : ∀ x ∈ l, 0 ≤ x.1) : ∀ k m, m ≤ (aW l k).length → CY (pB l k m)
  | 0, m, _ => List.pairwise_singleton _ _
  | k + 1, m, hm => by
    have hn := py hm
    refine EX (AR hs h0 k _ hn) ?_
    have hle := sF k _ hn
    refine Classical.byContradiction fun hc => ?_
    have hj : (pB l k (2 * (m - cA l (aD (aW l k)) m))).headD 0 - 1 < l.length := by omega
    have hx : l[(pB l k (2 * (m - cA l (aD (aW l k)) m))).headD 0 - 1] ∈ (aW l k).take (2 * (m - cA l (aD (aW l k)) m)) :=
      pA k _ hn _ (List.mem_take_iff_getElem.2 ⟨_, by omega, rfl⟩)
    have := sD hs h0 hm hj (Nat.le_refl _) hx
    omega
theorem G7 {l : List aH} (hs : mj l) (h0 : ∀ x ∈ l, 0 ≤ x.1) {k m : Nat} (hm : m ≤ (aW l k).length) : ∀ c ∈ pB l k m, c ≤ l.length := by
  have h1 := AR hs h0 k m hm
  have h2 := sF k m hm
  intro c hc
  cases hsel : pB l k m with
  | nil => rw [hsel] at hc; cases hc
  | cons d r =>
    rw [hsel] at h1 h2 hc
    rcases List.mem_cons.1 hc with rfl | hc
    · exact h2
    · exact Nat.le_trans ((List.pairwise_cons.1 h1).1 c hc) h2
theorem EK {l : List aH} (hs : mj l) (h0 : ∀ x ∈ l, 0 ≤ x.1) (h2 : 2 ≤ l.length) : ∀ k, 2 * l.length - 2 ≤ (aW l k).length → (pB l k (2 * l.length - 2)).headD 0 = l.length
  | 0, hm => by
    have : (aW l 0).length = l.length := rfl
    show 2 * l.length - 2 = l.length
    omega
  | k + 1, hm => by
    have hc := sV (2 * l.length - 2) l (aD (aW l k))
    show cA l (aD (aW l k)) (2 * l.length - 2) = l.length
    refine Classical.byContradiction fun hne => ?_
    have hn := py hm
    have hlt : 2 * l.length - 2 ≤ (aW l k).length := by omega
    have ih := EK hs h0 h2 k hlt
    have hj : l.length - 1 < l.length := by omega
    have hx : l[l.length - 1] ∈ (aW l k).take (2 * (l.length - 1)) := by
      have := pA k _ hlt (l[l.length - 1]) (List.mem_take_iff_getElem.2 ⟨l.length - 1, by omega, rfl⟩)
      rw [show 2 * (l.length - 1) = 2 * l.length - 2 by omega]
      exact this
    have := sD hs h0 hm hj (p := l.length - 1) (by omega) hx
    omega
end Go.Am
namespace Go.Am
def cB (f : Nat → Nat) : Nat → Nat
  | 0 => 0
  | n + 1 => cB f n + f n
theorem eT {f g : Nat → Nat} : ∀ n, (∀ j, j < n → f j = g j) → cB f n = cB g n
  | 0, _ => rfl
  | n + 1, h => by rw [cB, cB, eT n fun j hj => h j (by omega), h n (by omega)]
theorem pv (f g : Nat → Nat) : ∀ n, cB (fun j => f j + g j) n = cB f n + cB g n
  | 0 => rfl
  | n + 1 => by rw [cB, cB, cB, pv f g n]; omega
theorem ia (a : Nat) : ∀ n, cB (fun _ => a) n = n * a
  | 0 => by simp [cB]
  | n + 1 => by rw [cB, ia a n, Nat.succ_mul]
theorem uI (a c : Nat) : ∀ n, cB (fun j => if j < c then a else 0) n = min n c * a
  | 0 => by simp [cB]
  | n + 1 => by
    rw [cB, uI a c n]
    by_cases h : n < c
    · rw [if_pos h, Nat.min_eq_left (by omega), Nat.min_eq_left (by omega), Nat.succ_mul]
    · rw [if_neg h, Nat.min_eq_right (by omega), Nat.min_eq_right (by omega), Nat.add_zero]
def D6 (lv : List Nat) (j : Nat) : Nat := lv.countP fun c => decide (j < c)
theorem vh (c : Nat) (lv : List Nat) (j : Nat) : D6 (c :: lv) j = D6 lv j + if j < c then 1 else 0 := by
  unfold D6
  rw [List.countP_cons]
  simp
theorem Xp (lv : List Nat) (j : Nat) : D6 lv j ≤ lv.length := List.countP_le_length
theorem HB {ss : List Int} : ∀ (c j : Nat) (hj : j < ss.length), ss.Nodup → (ss.take c).count ss[j] = if j < c then 1 else 0 := by
  induction ss with
  | nil => intro c j hj; cases hj
  | cons x ss ih =>
    intro c j hj hn
    have hn' := List.nodup_cons.1 hn
    cases c with
    | zero => simp
    | succ c =>
      rw [List.take_succ_cons]
      cases j with
      | zero =>
        have : (ss.take c).count x = 0 := List.count_eq_zero.2 fun h => hn'.1 (List.mem_of_mem_take h)
        simp [this]
      | succ j =>
        have hjs : j < ss.length := by simpa using hj
        have hne : x ≠ ss[j] := fun e => hn'.1 (by rw [e]; exact List.getElem_mem hjs)
        have e : (x :: ss)[j + 1] = ss[j] := rfl
        rw [e, List.count_cons, ih c j hjs hn'.2]
        have : (x == ss[j]) = false := by simpa using hne
        rw [this]
        simp
theorem qa {ss : List Int} (hn : ss.Nodup) {j : Nat} (hj : j < ss.length) : ∀ lv : List Nat, (lv.flatMap fun c => ss.take c).count ss[j] = D6 lv j
  | [] => rfl
  | c :: lv => by rw [List.flatMap_cons, List.count_append, HB c j hj hn, qa hn hj lv, vh]; omega
theorem VH {n : Nat} : ∀ (lv : List Nat), CY lv → (∀ c ∈ lv, c ≤ n) → cB (fun j => 2 ^ (lv.length - D6 lv j)) n + G8 lv = n * 2 ^ lv.length
  | [], _, _ => by
    have := ia 1 n
    simp only [D6, List.countP_nil, List.length_nil, G8, Nat.sub_zero, Nat.pow_zero, Nat.add_zero, Nat.mul_one] at this ⊢
    exact this
  | c :: lv, h, hle => by
    have h' := List.pairwise_cons.1 h
    have ih := VH (n := n) lv h'.2 fun d hd => hle d (List.mem_cons_of_mem _ hd)
    have hc := hle c (List.mem_cons_self ..)
    have key : cB (fun j => 2 ^ ((c :: lv).length - D6 (c :: lv) j) + if j < c then 2 ^ lv.length else 0) n = cB (fun j => 2 ^ lv.length + 2 ^ (lv.length - D6 lv j)) n := by
      refine eT n fun j hj => ?_
      rw [vh, List.length_cons]
      by_cases hjc : j < c
      · rw [if_pos hjc, if_pos hjc, show lv.length + 1 - (D6 lv j + 1) = lv.length - D6 lv j by omega, Nat.add_comm]
      · have h0 : D6 lv j = 0 := by
          unfold D6
          rw [List.countP_eq_zero]
          intro d hd
          have := h'.1 d hd
          simp; omega
        rw [if_neg hjc, if_neg hjc, h0, Nat.sub_zero, Nat.add_zero, Nat.sub_zero, Nat.pow_succ]
        omega
    rw [pv, pv, uI, ia, Nat.min_eq_right hc] at key
    rw [G8, List.length_cons, Nat.pow_succ]
    have e : n * (2 ^ lv.length * 2) = n * 2 ^ lv.length + n * 2 ^ lv.length := by rw [Nat.mul_comm (2 ^ lv.length) 2, Nat.two_mul, Nat.mul_add]
    rw [e]
    rw [List.length_cons] at key
    omega
theorem sw : ∀ {l : List aH}, (∀ x ∈ l, 0 ≤ x.1) → 0 ≤ dc l
  | [], _ => by simp [dc]
  | x :: l, h => by
    have h1 := h x (List.mem_cons_self ..)
    have h2 := sw (l := l) fun y hy => h y (List.mem_cons_of_mem _ hy)
    rw [bB]; omega
theorem ly {l : List aH} (h : ∀ x ∈ l, 0 ≤ x.1) {m k : Nat} (hmk : m ≤ k) : dc (l.take m) ≤ dc (l.take k) := by
  have e : l.take k = l.take m ++ (l.drop m).take (k - m) := by
    rw [← List.take_append_drop m (l.take k), List.take_take, Nat.min_eq_left hmk, List.drop_take]
  rw [e, iH]
  have := sw (l := (l.drop m).take (k - m)) fun x hx => h x (List.mem_of_mem_drop (List.mem_of_mem_take hx))
  omega
theorem un {l : List aH} {m : Nat} (h : m < l.length) : dc (l.take (m + 1)) = dc (l.take m) + l[m].1 := by
  rw [List.take_add_one, List.getElem?_eq_getElem h, iH]
  simp [dc]
theorem Oj {R S : List aH} (h : S.Sublist R) : mj R → dc (R.take S.length) ≤ dc S := by
  induction h with
  | slnil => intro _; simp [dc]
  | @cons S R a hs ih =>
    intro hR
    have hR' := List.pairwise_cons.1 hR
    have ih := ih hR'.2
    have hl := hs.length_le
    cases hm : S.length with
    | zero =>
      have : S = [] := List.eq_nil_of_length_eq_zero hm
      subst this
      simp [dc]
    | succ m =>
      rw [hm] at ih hl
      rw [un (by omega)] at ih
      rw [List.take_succ_cons, bB]
      have := hR'.1 R[m] (List.getElem_mem (by omega))
      omega
  | @cons_cons S R a hs ih =>
    intro hR
    have hR' := List.pairwise_cons.1 hR
    rw [List.length_cons, List.take_succ_cons, bB, bB]
    have := ih hR'.2
    omega
theorem JJ {R S B : List aH} (hs : S.Sublist B) (hp : B.Perm R) (hR : mj R) : dc (R.take S.length) ≤ dc S := by
  obtain ⟨S', h1, h2⟩ := List.exists_perm_sublist hs hp
  have := Oj h2 hR
  rw [h1.length_eq, yZ h1] at this
  exact this
def qN (A : Nat → List aH) : Nat → Nat
  | 0 => (A 0).length
  | k + 1 => (A (k + 1)).length + qN A k / 2
def wN (A : Nat → List aH) : Nat → Int
  | 0 => dc (A 0)
  | k + 1 => wN A k + dc (A (k + 1))
theorem EN {coins l : List aH} (hp : coins.Perm l) (hs : mj l) (h0 : ∀ x ∈ l, 0 ≤ x.1) (A : Nat → List aH) (hA : ∀ k, (A k).Sublist coins) : ∀ k, qN A k ≤ (aW l k).length ∧ dc ((aW l k).take (qN A k)) ≤ wN A k
  | 0 => ⟨by have := (hA 0).length_le; rw [hp.length_eq] at this; exact this, JJ (hA 0) hp hs⟩
  | k + 1 => by
    obtain ⟨ih1, ih2⟩ := EN hp hs h0 A hA k
    have hl := (hA (k + 1)).length_le
    rw [hp.length_eq] at hl
    have hP : ((aD (aW l k)).take (qN A k / 2)).length = qN A k / 2 := by rw [List.length_take, d7]; omega
    have hw : dc ((aD (aW l k)).take (qN A k / 2)) ≤ wN A k := by
      rw [kw]
      have e := (oB ((aW l k).take (2 * (qN A k / 2))) (qN A k / 2) (by rw [List.length_take]; omega)).2
      rw [e]
      have := ly (lJ h0 k) (show 2 * (qN A k / 2) ≤ qN A k by omega)
      omega
    have hsub : (A (k + 1) ++ (aD (aW l k)).take (qN A k / 2)).Sublist (coins ++ aD (aW l k)) := (hA (k + 1)).append (List.take_sublist ..)
    have hperm : (coins ++ aD (aW l k)).Perm (aW l (k + 1)) := (hp.append_right _).trans (dm _ _).symm
    have := JJ hsub hperm (uU hs (k + 1))
    rw [List.length_append, hP, iH] at this
    refine ⟨by rw [qN, pG]; omega, ?_⟩
    rw [qN, wN]
    omega
def yN (A : Nat → List aH) (n : Nat) : Nat := cB (fun i => (A i).length * 2 ^ i) n
theorem VC (A : Nat → List aH) : ∀ k, qN A k = yN A (k + 1) / 2 ^ k
  | 0 => by simp [qN, yN, cB]
  | k + 1 => by
    have ih := VC A k
    rw [qN, ih, Nat.div_div_eq_div_mul]
    have e : yN A (k + 1 + 1) = yN A (k + 1) + (A (k + 1)).length * 2 ^ (k + 1) := rfl
    rw [e, Nat.add_mul_div_right _ _ (Nat.pow_pos (by decide)), Nat.pow_succ, Nat.add_comm]
theorem O6 (a : Nat) : ∀ n, a ≤ n → cB (fun i => if a ≤ i then 2 ^ i else 0) n + 2 ^ a = 2 ^ n := by
  intro n
  induction n with
  | zero => intro h; rw [show a = 0 by omega]; rfl
  | succ n ih =>
    intro h
    rw [cB]
    by_cases e : a = n + 1
    · subst e
      have : cB (fun i => if n + 1 ≤ i then 2 ^ i else 0) n = cB (fun _ => 0) n := eT n fun j hj => if_neg (by omega)
      rw [this, ia, if_neg (by omega)]
      omega
    · have := ih (by omega)
      rw [if_pos (by omega), Nat.pow_succ]
      omega
def D7 (z : List (aH × Nat)) (most i : Nat) : List aH := (z.filter fun p => decide (most - p.2 ≤ i)).map (·.1)
def EO (most : Nat) : List (aH × Nat) → Nat
  | [] => 0
  | p :: z => 2 ^ (most - p.2) + EO most z
def J9 : List (aH × Nat) → Int
  | [] => 0
  | p :: z => p.1.1 * p.2 + J9 z
theorem TF (z : List (aH × Nat)) (most i : Nat) : (D7 z most i).Sublist (z.map (·.1)) := (List.filter_sublist).map _
theorem E1 (p : aH × Nat) (z : List (aH × Nat)) (most i : Nat) : D7 (p :: z) most i = if most - p.2 ≤ i then p.1 :: D7 z most i else D7 z most i := by
  unfold D7
  rw [List.filter_cons]
  by_cases h : most - p.2 ≤ i
  · simp [h]
  · simp [h]
theorem Vz (most : Nat) : ∀ z : List (aH × Nat), (∀ p ∈ z, p.2 ≤ most) → yN (D7 z most) most + EO most z = z.length * 2 ^ most
  | [], _ => by
    have : yN (D7 [] most) most = cB (fun _ => 0) most := eT most fun j hj => by simp [D7]
    rw [this, ia]
    simp [EO]
  | p :: z, h => by
    have ih := Vz most z fun q hq => h q (List.mem_cons_of_mem _ hq)
    have hp := h p (List.mem_cons_self ..)
    have e : yN (D7 (p :: z) most) most = cB (fun i => (if most - p.2 ≤ i then 2 ^ i else 0) + (D7 z most i).length * 2 ^ i) most := by
      refine eT most fun j hj => ?_
      rw [E1]
      by_cases hh : most - p.2 ≤ j
      · rw [if_pos hh, if_pos hh, List.length_cons, Nat.succ_mul, Nat.add_comm]
      · rw [if_neg hh, if_neg hh, Nat.zero_add]
    have hs := O6 (most - p.2) most (by omega)
    rw [e, pv, EO, List.length_cons, Nat.succ_mul]
    unfold yN at ih
    omega
def gf (f : Nat → Int) : Nat → Int
  | 0 => 0
  | n + 1 => gf f n + f n
theorem Od (A : Nat → List aH) : ∀ k, wN A k = gf (fun i => dc (A i)) (k + 1)
  | 0 => by simp [wN, gf]
  | k + 1 => by rw [wN, Od A k]; rfl
theorem kl {f g : Nat → Int} : ∀ n, (∀ j, j < n → f j = g j) → gf f n = gf g n
  | 0, _ => rfl
  | n + 1, h => by rw [gf, gf, kl n fun j hj => h j (by omega), h n (by omega)]
theorem EF (f g : Nat → Int) : ∀ n, gf (fun j => f j + g j) n = gf f n + gf g n
  | 0 => rfl
  | n + 1 => by rw [gf, gf, gf, EF f g n]; omega
theorem qU : ∀ n, gf (fun _ => 0) n = 0
  | 0 => rfl
  | n + 1 => by rw [gf, qU n]; rfl
theorem LJ (a : Nat) (w : Int) : ∀ n, a ≤ n → gf (fun i => if a ≤ i then w else 0) n = w * ((n - a : Nat) : Int) := by
  intro n
  induction n with
  | zero => intro h; simp [gf]
  | succ n ih =>
    intro h
    rw [gf]
    by_cases e : a = n + 1
    · subst e
      have : gf (fun i => if n + 1 ≤ i then w else 0) n = gf (fun _ => 0) n := kl n fun j hj => if_neg (by omega)
      rw [this, qU, if_neg (by omega)]
      simp
    · rw [ih (by omega), if_pos (by omega), show n + 1 - a = (n - a) + 1 by omega, Int.natCast_add, Int.mul_add]
      simp
theorem J8 (most : Nat) : ∀ z : List (aH × Nat), (∀ p ∈ z, p.2 ≤ most) → gf (fun i => dc (D7 z most i)) most = J9 z
  | [], _ => by
    have : gf (fun i => dc (D7 [] most i)) most = gf (fun _ => 0) most := kl most fun j hj => by simp [D7, dc]
    rw [this, qU]; rfl
  | p :: z, h => by
    have ih := J8 most z fun q hq => h q (List.mem_cons_of_mem _ hq)
    have hp := h p (List.mem_cons_self ..)
    have e : gf (fun i => dc (D7 (p :: z) most i)) most = gf (fun i => (if most - p.2 ≤ i then p.1.1 else 0) + dc (D7 z most i)) most := by
      refine kl most fun j hj => ?_
      rw [E1]
      by_cases hh : most - p.2 ≤ j
      · rw [if_pos hh, if_pos hh, bB]
      · rw [if_neg hh, if_neg hh, Int.zero_add]
    rw [e, EF, ih, LJ _ _ most (by omega), J9, show most - (most - p.2) = p.2 by omega]
theorem aA2 {coins l : List aH} (hp : coins.Perm l) (hs : mj l) (h0 : ∀ x ∈ l, 0 ≤ x.1) {K : Nat} (z : List (aH × Nat)) (hz : z.map (·.1) = coins) (hm : ∀ p ∈ z, p.2 ≤ K + 1) (hk : EO (K + 1) z ≤ 2 ^ (K + 1)) :
    dc ((aW l K).take (2 * l.length - 2)) ≤ J9 z := by
  have h1 := EN hp hs h0 (D7 z (K + 1)) (fun k => by rw [← hz]; exact TF z (K + 1) k) K
  have h2 := Vz (K + 1) z hm
  have h3 := J8 (K + 1) z hm
  have hl : z.length = l.length := by rw [← hp.length_eq, ← hz, List.length_map]
  rw [Od, h3] at h1
  have hq : 2 * l.length - 2 ≤ qN (D7 z (K + 1)) K := by
    rw [VC, Nat.le_div_iff_mul_le (Nat.pow_pos (by decide))]
    rw [hl] at h2
    have e : 2 ^ (K + 1) = 2 * 2 ^ K := by rw [Nat.pow_succ, Nat.mul_comm]
    rw [e] at h2 hk
    generalize 2 ^ K = q at *
    generalize yN (D7 z (K + 1)) (K + 1) = y at *
    rw [Nat.sub_mul]
    have : l.length * (2 * q) = 2 * l.length * q := by rw [← Nat.mul_assoc, Nat.mul_comm l.length 2]
    omega
  exact Int.le_trans (ly (lJ h0 K) hq) h1.2
end Go.Am
namespace Go.Am
def ay (fr : List Int) : Nat → List aH
  | 0 => []
  | i + 1 => if 0 < fr.getD i 0 then ay fr i ++ [(fr.getD i 0, [(i : Int)], ())] else ay fr i
theorem fO (fr : List Int) : ∀ i, (ay fr i).length ≤ i
  | 0 => Nat.le_refl _
  | i + 1 => by
    have := fO fr i
    rw [ay]
    split
    · rw [List.length_append, List.length_singleton]; omega
    · omega
theorem fM (fr : List Int) : ∀ (i : Nat) (x : aH), x ∈ ay fr i → ∃ j : Nat, j < i ∧ 0 < fr.getD j 0 ∧ x = (fr.getD j 0, [(j : Int)], ())
  | 0, x, h => by cases h
  | i + 1, x, h => by
    rw [ay] at h
    by_cases h0 : 0 < fr.getD i 0
    · rw [if_pos h0] at h
      rcases List.mem_append.1 h with h | h
      · obtain ⟨j, h1, h2⟩ := fM fr i x h
        exact ⟨j, by omega, h2⟩
      · exact ⟨i, by omega, h0, List.mem_singleton.1 h⟩
    · rw [if_neg h0] at h
      obtain ⟨j, h1, h2⟩ := fM fr i x h
      exact ⟨j, by omega, h2⟩
theorem dZ : ∀ {l : List aH}, (∀ x ∈ l, ∃ s, x.2.1 = [s]) → (bn l).length = l.length ∧ ∀ c, bn (l.take c) = (bn l).take c
  | [], _ => ⟨rfl, fun c => by simp [bn]⟩
  | x :: l, h => by
    obtain ⟨s, hs⟩ := h x (List.mem_cons_self ..)
    obtain ⟨h1, h2⟩ := dZ (l := l) fun y hy => h y (List.mem_cons_of_mem _ hy)
    have e : bn (x :: l) = s :: bn l := by unfold bn; rw [List.flatMap_cons, hs]; rfl
    refine ⟨by rw [e, List.length_cons, List.length_cons, h1], fun c => ?_⟩
    cases c with
    | zero => simp [bn]
    | succ c =>
      have e2 : bn (x :: l.take c) = s :: bn (l.take c) := by unfold bn; rw [List.flatMap_cons, hs]; rfl
      rw [List.take_succ_cons, e2, h2 c, e, List.take_succ_cons]
theorem vS (fr : List Int) (i : Nat) : ∀ x ∈ ay fr i, ∃ s, x.2.1 = [s] := fun x hx => by
  obtain ⟨j, _, _, e⟩ := fM fr i x hx
  exact ⟨j, by rw [e]⟩
theorem gr (fr : List Int) : ∀ i, bn (ay fr i) = ((List.range i).filter fun j => decide (0 < fr.getD j 0)).map fun (j : Nat) => (j : Int)
  | 0 => rfl
  | i + 1 => by
    rw [List.range_succ, List.filter_append, List.map_append, ← gr fr i, ay]
    by_cases h : 0 < fr.getD i 0
    · rw [if_pos h, iI]
      simp only [List.filter_cons, decide_eq_true h, if_true, List.filter_nil, List.map_cons, List.map_nil]
      rfl
    · rw [if_neg h]
      simp only [List.filter_cons, decide_eq_false h, Bool.false_eq_true, if_false, List.filter_nil, List.map_nil, List.append_nil]
theorem yQ (fr : List Int) (i : Nat) : (bn (ay fr i)).Nodup := by
  rw [gr]
  have : ((List.range i).filter fun j => decide (0 < fr.getD j 0)).Nodup := List.nodup_range.filter _
  unfold List.Nodup
  rw [List.pairwise_map]
  exact List.Pairwise.imp (fun {a b} hab h => hab (by omega)) this
def fP (n : Nat) (S : List Int) : List Int := (List.range n).map fun (i : Nat) => ((S.count (i : Int) : Nat) : Int)
theorem eE (n : Nat) (S : List Int) : (fP n S).length = n := by simp [fP]
theorem jU (n : Nat) (S : List Int) {i : Nat} (h : i < n) : (fP n S)[i]? = some ((S.count (i : Int) : Nat) : Int) := by
  unfold fP; rw [List.getElem?_map, List.getElem?_range h]; rfl
theorem qd (n : Nat) : fP n [] = List.replicate n 0 := by
  apply List.ext_getElem?
  intro i
  by_cases h : i < n
  · rw [jU n [] h, List.getElem?_replicate, if_pos h]; rfl
  · rw [List.getElem?_eq_none (by rw [eE]; omega), List.getElem?_eq_none (by rw [List.length_replicate]; omega)]
theorem rr (n : Nat) (S : List Int) {x : Nat} (hx : x < n) : (fP n S).set x ((S.count (x : Int) : Int) + 1) = fP n (S ++ [(x : Int)]) := by
  apply List.ext_getElem?
  intro i
  by_cases h : i < n
  · rw [List.getElem?_set, jU n S h, jU n _ h, List.count_append, List.count_singleton, eE]
    by_cases e : x = i
    · subst e
      rw [if_pos rfl, if_pos hx]
      simp
    · rw [if_neg e]
      have : ((x : Int) == (i : Int)) = false := by simpa using (by omega : (x : Int) ≠ (i : Int))
      rw [this]
      simp
  · rw [List.getElem?_eq_none (by rw [List.length_set, eE]; omega), List.getElem?_eq_none (by rw [eE]; omega)]
def bW (l : List aH) (most : Nat) : List Int :=
  if l.length = 1 then bn l else if l.length < 2 then [] else bn ((aW l (most - 1)).take (2 * l.length - 2))
def okF (fr : List Int) : Bool := fr.all fun x => decide (0 ≤ x) && decide (x ≤ 1073741824)
def lU (fr : List Int) (most : Int) : Int × List Int :=
  if 320 < fr.length ∨ most < 1 ∨ 15 < most ∨ okF fr = false then (1, []) else
  if 2 ^ most.toNat < (ay fr fr.length).length then (50, []) else
  (0, fP fr.length (bW (aN (ay fr fr.length)) most.toNat))
theorem LS {l : List aH} (h : mj l) (k : Nat) : aN (l ++ aD (aW l k)) = aW l (k + 1) := by
  rw [aW, ← jK, vB l h, vB _ (q8 _ (uU h k))]
theorem sH (l : List aH) : ∀ k, (aW l k).length ≤ 2 * l.length
  | 0 => by rw [aW]; omega
  | k + 1 => by have := sH l k; rw [pG]; omega
theorem uV {l : List aH} {w : Int} (h : ∀ x ∈ l, 0 ≤ x.1 ∧ x.1 ≤ w) : ∀ k, ∀ x ∈ aW l k, 0 ≤ x.1 ∧ x.1 ≤ w * 2 ^ k
  | 0 => fun x hx => by rw [Int.pow_zero, Int.mul_one]; exact h x hx
  | k + 1 => fun x hx => by
    have hp : (0 : Int) < 2 ^ k := Int.pow_pos (by decide)
    have e : w * 2 ^ (k + 1) = 2 * (w * 2 ^ k) := by rw [Int.pow_succ]; rw [← Int.mul_assoc, Int.mul_comm _ 2]
    rcases List.mem_append.1 ((dm _ _).mem_iff.1 hx) with hx | hx
    · obtain ⟨h1, h2⟩ := h x hx
      refine ⟨h1, ?_⟩
      have hw : 0 ≤ w := by omega
      have : w * 1 ≤ w * 2 ^ k := Int.mul_le_mul_of_nonneg_left (by omega) hw
      have h3 : 0 ≤ w * 2 ^ k := Int.mul_nonneg hw (by omega)
      rw [e]; omega
    · obtain ⟨a, ha, b, hb, e2⟩ := nu hx
      have h1 := uV h k a ha
      have h2 := uV h k b hb
      rw [e]; omega
end Go.Am
namespace Go.Am
theorem zA (f : Nat → Nat) : ∀ n, ((List.range n).map f).sum = cB f n
  | 0 => rfl
  | n + 1 => by rw [List.range_succ, List.map_append, List.sum_append, zA f n]; simp [cB]
theorem uH {α : Type} (p : α → Bool) (h : α → Nat) : ∀ l : List α, (∀ x ∈ l, p x = false → h x = 0) → (l.map h).sum = ((l.filter p).map h).sum
  | [], _ => rfl
  | x :: l, hx => by
    have ih := uH p h l fun y hy => hx y (List.mem_cons_of_mem _ hy)
    rw [List.filter_cons]
    cases hp : p x with
    | true => simp [ih]
    | false =>
      have := hx x (List.mem_cons_self ..) hp
      simp [ih, this]
theorem Mf (f : Int → Nat) (ss : List Int) : (ss.map f).sum = cB (fun j => f (ss.getD j 0)) ss.length := by
  rw [← zA]
  congr 1
  apply List.ext_getElem?
  intro i
  rw [List.getElem?_map, List.getElem?_map]
  by_cases h : i < ss.length
  · rw [List.getElem?_range h, List.getElem?_eq_getElem h]
    simp [List.getD, h]
  · rw [List.getElem?_eq_none (by omega), List.getElem?_eq_none (by simpa using h)]
    rfl
structure Coins (l : List aH) : Prop where
  srt : mj l
  pos : ∀ x ∈ l, 0 < x.1
  one : ∀ x ∈ l, ∃ s, x.2.1 = [s]
  nodup : (bn l).Nodup
theorem qb (fr : List Int) : Coins (aN (ay fr fr.length)) := by
  have hp := eZ (ay fr fr.length)
  refine ⟨dy _, fun x hx => ?_, fun x hx => vS fr _ x (hp.mem_iff.1 hx), ?_⟩
  · obtain ⟨j, _, h, e⟩ := fM fr _ x (hp.mem_iff.1 hx)
    rw [e]; exact h
  · exact (nj hp).nodup_iff.2 (yQ fr _)
theorem Coins.pos0 {l : List aH} (h : Coins l) : ∀ x ∈ l, 0 ≤ x.1 := fun x hx => Int.le_of_lt (h.pos x hx)
theorem u5 {l : List aH} (h : Coins l) (h2 : 2 ≤ l.length) {K : Nat} (hK : l.length ≤ 2 ^ (K + 1)) (s : Int) :
    (bW l (K + 1)).count s = ((pB l K (2 * l.length - 2)).flatMap fun c => (bn l).take c).count s := by
  unfold bW
  rw [if_neg (by omega), if_neg (by omega), Nat.add_sub_cancel]
  have := (uR (l := l) K (2 * l.length - 2) (fD l hK)).1
  rw [this.count_eq]
  congr 2
  funext c
  exact (dZ h.one).2 c
theorem JO {l : List aH} (h : Coins l) (h2 : 2 ≤ l.length) {K : Nat} (hK : l.length ≤ 2 ^ (K + 1)) {j : Nat} (hj : j < l.length) :
    (bW l (K + 1)).count ((bn l).getD j 0) = D6 (pB l K (2 * l.length - 2)) j := by
  have hl := (dZ h.one).1
  have e : (bn l).getD j 0 = (bn l)[j]'(by omega) := by rw [List.getD, List.getElem?_eq_getElem (by omega)]; rfl
  rw [u5 h h2 hK, e, qa h.nodup]
theorem vj {l : List aH} (h : Coins l) (h2 : 2 ≤ l.length) {K : Nat} (hK : l.length ≤ 2 ^ (K + 1)) {j : Nat} (hj : j < l.length) :
    1 ≤ D6 (pB l K (2 * l.length - 2)) j ∧ D6 (pB l K (2 * l.length - 2)) j ≤ K + 1 := by
  have hf := EK h.srt h.pos0 h2 K (fD l hK)
  have hlen := pz l K (2 * l.length - 2)
  have hle := Xp (pB l K (2 * l.length - 2)) j
  refine ⟨?_, by omega⟩
  cases hs : pB l K (2 * l.length - 2) with
  | nil => rw [hs] at hlen; simp at hlen
  | cons c r =>
    rw [hs] at hf
    have hf : c = l.length := hf
    rw [vh, if_pos (by omega)]
    omega
theorem Ma {l : List aH} (h : Coins l) (h2 : 2 ≤ l.length) {K : Nat} (hK : l.length ≤ 2 ^ (K + 1)) {s : Int} (hs : ¬ s ∈ bn l) : (bW l (K + 1)).count s = 0 := by
  rw [u5 h h2 hK, List.count_eq_zero]
  intro hm
  obtain ⟨c, _, hc⟩ := List.mem_flatMap.1 hm
  exact hs (List.mem_of_mem_take hc)
def S5 (x : Nat) : Nat := if 0 < x then 2 ^ (15 - x) else 0
theorem EE (a : Nat) (f : Nat → Nat) : ∀ n, cB (fun j => a * f j) n = a * cB f n
  | 0 => rfl
  | n + 1 => by rw [cB, cB, EE a f n, Nat.mul_add]
theorem Ho {l : List aH} (h : Coins l) (h2 : 2 ≤ l.length) {K : Nat} (hK : l.length ≤ 2 ^ (K + 1)) (hm : K + 1 ≤ 15) : ((bn l).map fun s => S5 ((bW l (K + 1)).count s)).sum = 32768 := by
  have hl := (dZ h.one).1
  have hlen := pz l K (2 * l.length - 2)
  have hk := VH (n := l.length) (pB l K (2 * l.length - 2)) (AR h.srt h.pos0 K _ (fD l hK)) (G7 h.srt h.pos0 (fD l hK))
  rw [VA, hlen] at hk
  rw [Mf, hl]
  have e : cB (fun j => S5 ((bW l (K + 1)).count ((bn l).getD j 0))) l.length = cB (fun j => 2 ^ (15 - (K + 1)) * 2 ^ (K + 1 - D6 (pB l K (2 * l.length - 2)) j)) l.length := by
    refine eT _ fun j hj => ?_
    obtain ⟨o1, o2⟩ := vj h h2 hK hj
    rw [JO h h2 hK hj]
    unfold S5
    rw [if_pos (by omega), ← Nat.pow_add]
    congr 1
    omega
  rw [e, EE]
  have e2 : 2 ^ (K + 1) = 2 * 2 ^ K := by rw [Nat.pow_succ, Nat.mul_comm]
  have : cB (fun j => 2 ^ (K + 1 - D6 (pB l K (2 * l.length - 2)) j)) l.length = 2 ^ (K + 1) := by
    rw [e2] at hk ⊢
    generalize 2 ^ K = q at *
    generalize cB _ _ = y at *
    have e3 : l.length * (2 * q) = 2 * l.length * q := by rw [← Nat.mul_assoc, Nat.mul_comm l.length 2]
    rw [Nat.sub_mul, e3] at hk
    have : 2 * q ≤ 2 * l.length * q := Nat.mul_le_mul_right q (by omega)
    omega
  rw [this, ← Nat.pow_add, show 15 - (K + 1) + (K + 1) = 15 by omega]
end Go.Am
namespace Go.Am
theorem u6 {l : List aH} (h : Coins l) {m : Nat} (hm : 1 ≤ m) (hm2 : m ≤ 15) (hn : l.length ≤ 2 ^ m) :
    (∀ s, s ∈ bn l → 1 ≤ (bW l m).count s ∧ (bW l m).count s ≤ m) ∧ (∀ s, ¬ s ∈ bn l → (bW l m).count s = 0) ∧
    ((bn l).map fun s => S5 ((bW l m).count s)).sum = if 2 ≤ l.length then 32768 else if l.length = 1 then 16384 else 0 := by
  obtain ⟨K, rfl⟩ : ∃ K, m = K + 1 := ⟨m - 1, by omega⟩
  have hl := (dZ h.one).1
  by_cases h2 : 2 ≤ l.length
  · refine ⟨fun s hs => ?_, fun s hs => Ma h h2 hn hs, ?_⟩
    · obtain ⟨j, hj, e⟩ := List.getElem_of_mem hs
      have e2 : (bn l).getD j 0 = s := by rw [List.getD, List.getElem?_eq_getElem hj, ← e]; rfl
      rw [← e2, JO h h2 hn (by omega)]
      exact vj h h2 hn (by omega)
    · rw [if_pos h2]
      exact Ho h h2 hn hm2
  · rw [if_neg h2]
    by_cases h1 : l.length = 1
    · have hp : bW l (K + 1) = bn l := by unfold bW; rw [if_pos h1]
      rw [hp, if_pos h1]
      obtain ⟨x, hx⟩ := List.length_eq_one_iff.1 (hl.trans h1)
      rw [hx]
      refine ⟨fun s hs => ?_, fun s hs => List.count_eq_zero.2 hs, ?_⟩
      · rw [List.mem_singleton.1 hs, List.count_singleton_self]
        omega
      · simp [S5]
    · have h0 : l = [] := List.eq_nil_of_length_eq_zero (by omega)
      subst h0
      have hp : bW [] (K + 1) = [] := by unfold bW; rw [if_neg (by decide), if_pos (by decide)]
      rw [hp, if_neg (by decide)]
      exact ⟨fun s hs => (by cases hs), fun s _ => rfl, rfl⟩
theorem EY {fr : List Int} {i : Nat} (hi : i < fr.length) : ((i : Int) ∈ bn (aN (ay fr fr.length))) ↔ 0 < fr.getD i 0 := by
  rw [(nj (eZ _)).mem_iff, gr, List.mem_map]
  constructor
  · rintro ⟨j, hj, e⟩
    have hj := List.mem_filter.1 hj
    have : j = i := by omega
    subst this
    simpa using hj.2
  · intro h
    exact ⟨i, List.mem_filter.2 ⟨List.mem_range.2 hi, by simpa using h⟩, rfl⟩
theorem LU {fr : List Int} {m : Nat} (hm : 1 ≤ m) (hm2 : m ≤ 15) (hn : (aN (ay fr fr.length)).length ≤ 2 ^ m) :
    ((List.range fr.length).map fun (i : Nat) => S5 ((bW (aN (ay fr fr.length)) m).count (i : Int))).sum =
      if 2 ≤ (aN (ay fr fr.length)).length then 32768 else if (aN (ay fr fr.length)).length = 1 then 16384 else 0 := by
  obtain ⟨p1, p2, p3⟩ := u6 (qb fr) hm hm2 hn
  rw [← p3, uH (fun j => decide (0 < fr.getD j 0)) _ _ fun i hi hp => ?_]
  · have e := (nj (eZ (ay fr fr.length))).map fun s => S5 ((bW (aN (ay fr fr.length)) m).count s)
    rw [e.sum_nat, gr, List.map_map]
    rfl
  · have hi := List.mem_range.1 hi
    have : ¬ ((i : Int) ∈ bn (aN (ay fr fr.length))) := fun h => by
      have := (EY hi).1 h
      rw [decide_eq_true this] at hp
      cases hp
    rw [p2 _ this]
    rfl
end Go.Am
namespace Go.Proofs.YteddgkplkjldcaaGreat.Am
open Go.Am
theorem gj {D L R : List aH} {x : aH} (h : D = L ++ x :: R) {i : Nat} (hi : i = L.length) : D[i]? = some x := by
  subst h; subst hi
  rw [List.getElem?_append_right (Nat.le_refl _), Nat.sub_self]; rfl
theorem set_mid {D L R : List aH} {x : aH} (h : D = L ++ x :: R) {i : Nat} (hi : i = L.length) (y : aH) : D.set i y = L ++ y :: R := by
  subst h; subst hi
  rw [List.set_append_right _ _ (Nat.le_refl _), Nat.sub_self]; rfl
theorem eta (y : aH) : (y.1, y.2.1, ()) = y := rfl
theorem wi {i n : Nat} (h : i < n) : within (i : Int) n = true := by unfold within; simp only [decide_eq_true_eq]; omega
theorem qp (N : Nat) (x y : aH) : ∃ c, Gk N (x.1, x.2.1, y.1, y.2.1) = some c ∧ (decide (c < 0) = decide (x.1 < y.1)) := by
  have e71 : ∀ z : Int, M8 N z = some false := fun z => by simp [M8]
  simp only [Gk, Vw, ae, e71, Option.bind_some]
  rw [if_neg (by decide), if_neg (by decide)]
  by_cases h : x.1 < y.1
  · rw [if_pos (by simpa using h), Option.bind_some]
    exact ⟨-1, rfl, by rw [decide_eq_true h]; rfl⟩
  · rw [if_neg (by simpa using h), decide_eq_false h]
    by_cases h2 : x.1 > y.1
    · rw [if_pos (by simpa using h2), Option.bind_some]
      exact ⟨1, rfl, rfl⟩
    · rw [if_neg (by simpa using h2), Option.bind_some]
      exact ⟨0, rfl, rfl⟩
theorem MV (N : Nat) (P M S : List aH) (n k a b : Nat) (hn : n ≤ 100000) : ∀ (A2 B2 A1 B1 : List aH) (i f : Nat) (D : List aH), D = P ++ (B1 ++ (A2 ++ (M ++ (A1 ++ (B2 ++ S))))) → D.length = n → P.length = a → A1.length = i → B1.length = i → A2.length = B2.length → i + A2.length = k → a + k + M.length = b → A2.length < f →
    iX N f ((i : Int), (k : Int), (b : Int), 0, n, (a : Int), D) = some (P ++ (B1 ++ (B2 ++ (M ++ (A1 ++ (A2 ++ S)))))) := by
  intro A2
  induction A2 with
  | nil =>
    intro B2 A1 B1 i f D hD hlen hP hA1 hB1 hAB hk hb hf
    cases f with
    | zero => omega
    | succ f =>
      have : B2 = [] := List.eq_nil_of_length_eq_zero (by simpa using hAB.symm)
      subst this
      simp only [List.length_nil, Nat.add_zero] at hk
      simp only [iX, ue, ae]
      rw [aY (by omega), hD]
  | cons x A2 ih =>
    intro B2 A1 B1 i f D hD hlen hP hA1 hB1 hAB hk hb hf
    cases f with
    | zero => omega
    | succ f =>
      cases B2 with
      | nil => simp at hAB
      | cons y B2 =>
        simp only [List.length_cons] at hAB hk hf
        have hlen' : a + i + (A2.length + 1) + M.length + i + (B2.length + 1) + S.length = n := by
          rw [← hlen, hD]; simp only [List.length_append, List.length_cons]; omega
        have e1 : D = (P ++ B1) ++ x :: (A2 ++ (M ++ (A1 ++ (y :: B2 ++ S)))) := by rw [hD]; simp
        have e2 : D = (P ++ (B1 ++ (x :: A2 ++ (M ++ A1)))) ++ y :: (B2 ++ S) := by rw [hD]; simp
        have i1 : IntKind.wrap .i64 ((a : Int) + (i : Int)) = ((a + i : Nat) : Int) := by rw [wrap_i64 (by omega) (by omega)]; omega
        have i2 : IntKind.wrap .i64 ((b : Int) + (i : Int)) = ((b + i : Nat) : Int) := by rw [wrap_i64 (by omega) (by omega)]; omega
        have i3 : IntKind.wrap .i64 ((i : Int) + 1) = ((i + 1 : Nat) : Int) := by rw [wrap_i64 (by omega) (by omega)]; omega
        have l1 : a + i = (P ++ B1).length := by rw [List.length_append]; omega
        have l2 : b + i = (P ++ (B1 ++ (x :: A2 ++ (M ++ A1)))).length := by simp only [List.length_append, List.length_cons]; omega
        have s1 := set_mid e1 l1 y
        have e3 : D.set (a + i) y = (P ++ (B1 ++ (y :: A2 ++ (M ++ A1)))) ++ y :: (B2 ++ S) := by rw [s1]; simp
        have l3 : b + i = (P ++ (B1 ++ (y :: A2 ++ (M ++ A1)))).length := by simp only [List.length_append, List.length_cons]; omega
        simp only [iX, ue, ae]
        rw [bd (by omega)]
        simp only [i1, i2, i3, wi (show a + i < n by omega), wi (show b + i < n by omega), if_true, Int.toNat_natCast, Nat.zero_add, gj e1 l1, gj e2 l2, Option.bind_some, eta]
        rw [gj e3 l3, Option.bind_some, set_mid e3 l3 x]
        rw [ih B2 (A1 ++ [x]) (B1 ++ [y]) (i + 1) f _ (by simp) (by simp only [List.length_append, List.length_cons]; omega) hP (by simp [hA1]) (by simp [hB1]) (by omega) (by omega) hb (by omega)]
        simp
theorem so {N : Nat} (P A M B S : List aH) (hAB : A.length = B.length) (hN : A.length < N) (n a b : Nat) (hn : n ≤ 100000) (hlen : (P ++ (A ++ (M ++ (B ++ S)))).length = n) (ha : P.length = a) (hb : a + A.length + M.length = b) :
    tg N (0, n, (a : Int), (b : Int), (A.length : Int), P ++ (A ++ (M ++ (B ++ S)))) = some (P ++ (B ++ (M ++ (A ++ S)))) := by
  simp only [tg, ae]
  have := MV N P M S n A.length a b hn A B [] [] 0 N _ rfl (by simpa using hlen) ha rfl rfl hAB (by omega) hb hN
  simp only [List.nil_append] at this
  rw [show ((0 : Nat) : Int) = 0 from rfl] at this
  rw [this, Option.bind_some]
theorem rh (x : aH) : ∀ (A1 A2 : List aH), (∀ y ∈ A1, y.1 ≤ x.1) → (∀ y ∈ A2, x.1 < y.1) → yO x (A1 ++ A2) = A1 ++ x :: A2
  | [], [], _, _ => rfl
  | [], y :: A2, _, h => by rw [List.nil_append, yO, if_pos (h y (List.mem_cons_self ..))]; rfl
  | y :: A1, A2, h1, h2 => by
    rw [List.cons_append, yO, if_neg (by have := h1 y (List.mem_cons_self ..); omega), rh x A1 A2 (fun z hz => h1 z (List.mem_cons_of_mem _ hz)) h2]
    rfl
theorem I0 (N : Nat) (P S : List aH) (x : aH) (n a : Nat) (hn : n ≤ 100000) (ha : P.length = a) (x2 x3 : Int) (A1 : List aH) : ∀ (A2 : List aH) (f : Nat) (D : List aH), D = P ++ (A1 ++ (x :: (A2 ++ S))) → D.length = n → mj (A1 ++ A2) → (∀ y ∈ A2, x.1 < y.1) → A1.length < f →
    db N f (((a + A1.length : Nat) : Int), (a : Int), x2, x3, 0, n, D) = some (x3, x2, (a : Int), 0, n, P ++ (yO x (A1 ++ A2) ++ S)) := by
  refine uL (motive := fun A1 => ∀ (A2 : List aH) (f : Nat) (D : List aH), D = P ++ (A1 ++ (x :: (A2 ++ S))) → D.length = n → mj (A1 ++ A2) → (∀ y ∈ A2, x.1 < y.1) → A1.length < f →
    db N f (((a + A1.length : Nat) : Int), (a : Int), x2, x3, 0, n, D) = some (x3, x2, (a : Int), 0, n, P ++ (yO x (A1 ++ A2) ++ S))) ?_ (fun A1 y ih => ?_) A1
  · intro A2 f D hD hlen hs hA2 hf
    cases f with
    | zero => omega
    | succ f =>
      simp only [db, nW, ae]
      rw [if_neg (by simp), rh x [] A2 (fun _ h => by cases h) hA2, hD]
      simp
  · intro A2 f D hD hlen hs hA2 hf
    cases f with
    | zero => omega
    | succ f =>
      simp only [List.length_append, List.length_singleton] at hf ⊢
      have hlen' : a + A1.length + 1 + 1 + A2.length + S.length = n := by
        rw [← hlen, hD]; simp only [List.length_append, List.length_cons, List.length_nil]; omega
      have e1 : D = (P ++ (A1 ++ [y])) ++ x :: (A2 ++ S) := by rw [hD]; simp
      have e2 : D = (P ++ A1) ++ y :: (x :: (A2 ++ S)) := by rw [hD]; simp
      have l1 : a + (A1.length + 1) = (P ++ (A1 ++ [y])).length := by simp only [List.length_append, List.length_singleton]; omega
      have l2 : a + A1.length = (P ++ A1).length := by rw [List.length_append]; omega
      have i1 : IntKind.wrap .i64 (((a + (A1.length + 1) : Nat) : Int) - 1) = ((a + A1.length : Nat) : Int) := by rw [wrap_i64 (by omega) (by omega)]; omega
      obtain ⟨c, c1, c2⟩ := qp N x y
      simp only [db, nW, ae]
      rw [bd (by omega)]
      simp only [i1, wi (show a + (A1.length + 1) < n by omega), wi (show a + A1.length < n by omega), if_true, Int.toNat_natCast, Nat.zero_add, gj e1 l1, gj e2 l2, Option.bind_some, c1, c2, eta]
      by_cases hxy : x.1 < y.1
      · rw [if_pos (by simpa using hxy)]
        have s1 := set_mid e1 l1 y
        have e3 : D.set (a + (A1.length + 1)) y = (P ++ A1) ++ y :: (y :: (A2 ++ S)) := by rw [s1]; simp
        rw [gj e3 l2, Option.bind_some, set_mid e3 l2 x]
        have hs' : mj (A1 ++ (y :: A2)) := by
          have e : A1 ++ [y] ++ A2 = A1 ++ (y :: A2) := by simp
          rw [e] at hs; exact hs
        rw [ih (y :: A2) f _ (by simp) (by simp only [List.length_append, List.length_cons]; omega) hs' (fun z hz => by
          rcases List.mem_cons.1 hz with rfl | hz
          · exact hxy
          · exact hA2 z hz) (by omega)]
        simp
      · rw [if_neg (by simpa using hxy), hD]
        rw [rh x (A1 ++ [y]) A2 (fun z hz => ?_) hA2]
        · simp
        · rcases List.mem_append.1 hz with hz | hz
          · have hp := List.pairwise_append.1 hs
            have := (List.pairwise_append.1 hp.1).2.2 z hz y (List.mem_singleton_self _)
            omega
          · rw [List.mem_singleton.1 hz]; omega
theorem IZ (N : Nat) (P S : List aH) (n a b : Nat) (hn : n ≤ 100000) (hN : 100000 < N) (ha : P.length = a) : ∀ (M2 M1 : List aH) (f : Nat) (D : List aH), D = P ++ (aN M1 ++ (M2 ++ S)) → D.length = n → a + M1.length + M2.length = b → 0 < M1.length → M2.length < f →
    fv N f ((b : Int), (a : Int), ((a + M1.length : Nat) : Int), 0, n, D) = some (P ++ (aN (M1 ++ M2) ++ S)) := by
  intro M2
  induction M2 with
  | nil =>
    intro M1 f D hD hlen hb h0 hf
    cases f with
    | zero => omega
    | succ f =>
      simp only [List.length_nil] at hb
      simp only [fv, qF, ae]
      rw [aY (by omega), hD]
      simp
  | cons x M2 ih =>
    intro M1 f D hD hlen hb h0 hf
    cases f with
    | zero => omega
    | succ f =>
      simp only [List.length_cons] at hb hf
      have hl1 := a7 M1
      have hlen' : a + M1.length + (M2.length + 1) + S.length = n := by
        rw [← hlen, hD]; simp only [List.length_append, List.length_cons]; omega
      simp only [fv, qF, ae]
      rw [bd (by omega)]
      have hin := I0 N P (M2 ++ S) x n a hn ha (b : Int) ((a + M1.length : Nat) : Int) (aN M1) [] N D (by rw [hD]; simp) hlen (by rw [List.append_nil]; exact dy M1) (fun _ h => by cases h) (by omega)
      rw [hl1, List.append_nil, ← Hp] at hin
      have i3 : IntKind.wrap .i64 (((a + M1.length : Nat) : Int) + 1) = ((a + (M1 ++ [x]).length : Nat) : Int) := by rw [wrap_i64 (by omega) (by omega), List.length_append, List.length_singleton]; omega
      rw [hin, Option.bind_some]
      simp only
      rw [i3, ih (M1 ++ [x]) f _ rfl (by simp only [List.length_append, a7, List.length_singleton]; omega) (by rw [List.length_append, List.length_singleton]; omega) (by rw [List.length_append, List.length_singleton]; omega) (by omega)]
      simp
theorem Au {N : Nat} (hN : 100000 < N) (P M S : List aH) (n a b : Nat) (hn : n ≤ 100000) (hlen : (P ++ (M ++ S)).length = n) (ha : P.length = a) (hb : a + M.length = b) :
    As N (0, n, (a : Int), (b : Int), P ++ (M ++ S)) = some (P ++ (aN M ++ S)) := by
  have hl : a + M.length + S.length = n := by rw [← hlen]; simp only [List.length_append]; omega
  simp only [As, ae]
  have i1 : IntKind.wrap .i64 ((a : Int) + 1) = ((a + 1 : Nat) : Int) := by rw [wrap_i64 (by omega) (by omega)]; omega
  rw [i1]
  cases M with
  | nil =>
    have key : ∀ f, fv N (f + 1) ((b : Int), (a : Int), ((a + 1 : Nat) : Int), 0, n, P ++ ([] ++ S)) = some (P ++ ([] ++ S)) := fun f => by
      simp only [List.length_nil] at hb
      simp only [fv, qF, ae]
      rw [aY (by omega)]
    obtain ⟨f, rfl⟩ : ∃ f, N = f + 1 := ⟨N - 1, by omega⟩
    rw [key f, Option.bind_some]
    rfl
  | cons x M =>
    simp only [List.length_cons] at hb hl
    have := IZ N P S n a b hn hN ha M [x] N (P ++ (x :: M ++ S)) (by simp [aN, iF]) hlen (by rw [List.length_singleton]; omega) (by simp) (by omega)
    rw [List.length_singleton] at this
    rw [this, Option.bind_some]
    rfl
theorem MW (N : Nat) (n : Nat) (hn : n ≤ 100000) (hN : 100000 < N) : ∀ (t : Nat) (P U V S : List aH) (m f : Nat) (D : List aH), U.length + V.length ≤ t → D = P ++ (U ++ (V ++ S)) → D.length = n → 0 < U.length → 0 < V.length → P.length + U.length = m → t < f →
    ∃ (i : Nat) (D' : List aH), iw N f ((U.length : Int), 0, n, (m : Int), (V.length : Int), D) = some (0, n, (m : Int), (i : Int), D') ∧ tg N (0, n, IntKind.wrap .i64 ((m : Int) - (i : Int)), (m : Int), (i : Int), D') = some (P ++ (V ++ (U ++ S))) := by
  intro t
  induction t with
  | zero => intro P U V S m f D ht _ _ hU _ _ _; omega
  | succ t ih =>
    intro P U V S m f D ht hD hlen hU hV hm hf
    cases f with
    | zero => omega
    | succ f =>
      have hl : P.length + U.length + V.length + S.length = n := by rw [← hlen, hD]; simp only [List.length_append]; omega
      have i1 : IntKind.wrap .i64 ((m : Int) - (U.length : Int)) = ((m - U.length : Nat) : Int) := by rw [wrap_i64 (by omega) (by omega)]; omega
      simp only [iw, yx, ae]
      by_cases he : U.length = V.length
      · rw [if_neg (by simp [he])]
        refine ⟨U.length, D, rfl, ?_⟩
        rw [i1, hD]
        have := so (N := N) P U [] V S he (by omega) n (m - U.length) m hn (by rw [← hlen, hD]; simp) (by omega) (by simp; omega)
        simpa using this
      · rw [if_pos (by simp; omega)]
        by_cases hgt : U.length > V.length
        · rw [if_pos (by simpa using hgt)]
          -- the first part is longer
          have hsw := so (N := N) P (U.take V.length) (U.drop V.length) V S (by rw [List.length_take]; omega) (by rw [List.length_take]; omega) n (m - U.length) m hn (by
            rw [← hlen, hD, ← List.append_assoc (U.take V.length), List.take_append_drop]) (by omega) (by rw [List.length_take, List.length_drop]; omega)
          rw [List.length_take, Nat.min_eq_left (by omega), ← List.append_assoc (U.take V.length), List.take_append_drop, ← hD] at hsw
          rw [i1, hsw, Option.bind_some]
          have i2 : IntKind.wrap .i64 ((U.length : Int) - (V.length : Int)) = ((U.drop V.length).length : Int) := by rw [wrap_i64 (by omega) (by omega), List.length_drop]; omega
          have hlV : (U.take V.length).length = V.length := by rw [List.length_take]; omega
          obtain ⟨i, D', g1, g2⟩ := ih (P ++ V) (U.drop V.length) (U.take V.length) S m f (P ++ (V ++ (U.drop V.length ++ (U.take V.length ++ S)))) (by rw [List.length_drop, List.length_take]; omega) (by simp) (by simp only [List.length_append, List.length_drop, List.length_take]; omega) (by rw [List.length_drop]; omega) (by omega) (by rw [List.length_append, List.length_drop]; omega) (by omega)
          rw [hlV] at g1
          refine ⟨i, D', by rw [i2, g1]; rfl, ?_⟩
          rw [g2, ← List.append_assoc (U.take V.length), List.take_append_drop]
          simp
        · rw [if_neg (by simpa using hgt)]
          have hsw := so (N := N) P U (V.take (V.length - U.length)) (V.drop (V.length - U.length)) S (by rw [List.length_drop]; omega) (by omega) n (m - U.length) (m + V.length - U.length) hn (by
            rw [← hlen, hD]; simp only [List.length_append, List.length_take, List.length_drop]; omega) (by omega) (by rw [List.length_take]; omega)
          have e1 : P ++ (U ++ (V.take (V.length - U.length) ++ (V.drop (V.length - U.length) ++ S))) = D := by
            rw [hD, ← List.append_assoc (V.take _), List.take_append_drop]
          rw [e1] at hsw
          have i3 : IntKind.wrap .i64 (IntKind.wrap .i64 ((m : Int) + (V.length : Int)) - (U.length : Int)) = ((m + V.length - U.length : Nat) : Int) := by
            rw [wrap_i64 (z := (m : Int) + (V.length : Int)) (by omega) (by omega), wrap_i64 (by omega) (by omega)]; omega
          rw [i1, i3, hsw, Option.bind_some]
          have hlD : (V.drop (V.length - U.length)).length = U.length := by rw [List.length_drop]; omega
          have hlT : (V.take (V.length - U.length)).length = V.length - U.length := by rw [List.length_take]; omega
          have i2 : IntKind.wrap .i64 ((V.length : Int) - (U.length : Int)) = ((V.take (V.length - U.length)).length : Int) := by rw [wrap_i64 (by omega) (by omega), hlT]; omega
          obtain ⟨i, D', g1, g2⟩ := ih P (V.drop (V.length - U.length)) (V.take (V.length - U.length)) (U ++ S) m f (P ++ (V.drop (V.length - U.length) ++ (V.take (V.length - U.length) ++ (U ++ S)))) (by omega) rfl (by simp only [List.length_append]; omega) (by omega) (by omega) (by omega) (by omega)
          rw [hlD] at g1
          refine ⟨i, D', by rw [i2, g1]; rfl, ?_⟩
          rw [g2, ← List.append_assoc (V.take _), List.take_append_drop]
theorem FX {N : Nat} (hN : 100000 < N) (P U V S : List aH) (n a m b : Nat) (hn : n ≤ 100000) (hlen : (P ++ (U ++ (V ++ S))).length = n) (hU : 0 < U.length) (hV : 0 < V.length) (ha : P.length = a) (hm : a + U.length = m) (hb : m + V.length = b) :
    ti N (0, n, (a : Int), (m : Int), (b : Int), P ++ (U ++ (V ++ S))) = some (P ++ (V ++ (U ++ S))) := by
  have hl : P.length + U.length + V.length + S.length = n := by rw [← hlen]; simp only [List.length_append]; omega
  obtain ⟨i, D', g1, g2⟩ := MW N n hn hN (U.length + V.length) P U V S m N _ (Nat.le_refl _) rfl hlen hU hV (by omega) (by omega)
  simp only [ti, ae]
  have i1 : IntKind.wrap .i64 ((m : Int) - (a : Int)) = (U.length : Int) := by rw [wrap_i64 (by omega) (by omega)]; omega
  have i2 : IntKind.wrap .i64 ((b : Int) - (m : Int)) = (V.length : Int) := by rw [wrap_i64 (by omega) (by omega)]; omega
  rw [i1, i2, g1, Option.bind_some]
  simp only
  rw [g2, Option.bind_some]
end Go.Proofs.YteddgkplkjldcaaGreat.Am
namespace Go.Proofs.YteddgkplkjldcaaGreat.Am
open Go.Am
abbrev GT := (Nat × Nat × Int × Int × Int × List aH) → Option (List aH)
def wt (D : List aH) (c : Nat) : Int := (D.getD c (0, [], ())).1
theorem Ad {D : List aH} {c : Nat} (h : c < D.length) : D[c]? = some (D.getD c (0, [], ())) := by
  rw [List.getD, List.getElem?_eq_getElem h]; rfl
theorem AF {D : List aH} {c : Nat} (h : c < D.length) : wt D c = D[c].1 := by
  unfold wt; rw [List.getD, List.getElem?_eq_getElem h]; rfl
theorem N0 (P X R : List aH) {a i : Nat} (ha : P.length = a) (hi : i < X.length) : wt (P ++ (X ++ R)) (a + i) = wt X i := by
  subst ha
  unfold wt
  rw [List.getD, List.getD, List.getElem?_append_right (by omega), Nat.add_sub_cancel_left, List.getElem?_append_left hi]
theorem iG {X : List aH} (h : mj X) {i j : Nat} (hij : i ≤ j) (hj : j < X.length) : wt X i ≤ wt X j := by
  rw [AF hj, AF (by omega)]
  by_cases e : i = j
  · subst e; exact Int.le_refl _
  · exact List.pairwise_iff_getElem.1 h i j (by omega) hj (by omega)
theorem A7 {i j : Nat} (h : i + j ≤ 1000000) : IntKind.wrap .i64 (Int.fdiv (IntKind.wrap .u64 (IntKind.wrap .i64 ((i : Int) + (j : Int)))) 2) = (((i + j) / 2 : Nat) : Int) := by
  rw [wrap_i64 (z := (i : Int) + j) (by omega) (by omega), wrap_u64, Int.emod_eq_of_lt (by omega) (by omega), Int.fdiv_eq_ediv_of_nonneg _ (by decide), wrap_i64 (by omega) (by omega)]
  omega
theorem yW (N : Nat) (G : GT) (n a : Nat) (hn : n ≤ 100000) (D : List aH) (hD : D.length = n) (ha : a < n) (i0 j0 : Nat) (hj0 : j0 ≤ n) (hmono : ∀ c d, i0 ≤ c → c ≤ d → d < j0 → wt D c ≤ wt D d) :
    ∀ (t i j f : Nat), j - i ≤ t → t < f → i0 ≤ i → i ≤ j → j ≤ j0 → (∀ c, i0 ≤ c → c < i → wt D c < wt D a) → (∀ c, j ≤ c → c < j0 → wt D a ≤ wt D c) →
    ∃ s : Nat, em N G f ((i : Int), (j : Int), 0, n, (a : Int), D) = some ((a : Int), (s : Int), 0, n, D) ∧ i0 ≤ s ∧ s ≤ j0 ∧ (∀ c, i0 ≤ c → c < s → wt D c < wt D a) ∧ (∀ c, s ≤ c → c < j0 → wt D a ≤ wt D c) := by
  intro t
  induction t with
  | zero =>
    intro i j f ht hf h1 h2 h3 hlo hhi
    cases f with
    | zero => omega
    | succ f =>
      simp only [em, nV, ae]
      rw [aY (by omega)]
      exact ⟨i, rfl, h1, by omega, hlo, fun c hc => hhi c (by omega)⟩
  | succ t ih =>
    intro i j f ht hf h1 h2 h3 hlo hhi
    cases f with
    | zero => omega
    | succ f =>
      simp only [em, nV, ae]
      by_cases hij : i < j
      · have hm := A7 (i := i) (j := j) (by omega)
        have hh : (i + j) / 2 < n := by omega
        rw [bd (by omega), hm]
        have i3 : IntKind.wrap .i64 ((((i + j) / 2 : Nat) : Int) + 1) = (((i + j) / 2 + 1 : Nat) : Int) := by rw [wrap_i64 (by omega) (by omega)]; omega
        obtain ⟨c, c1, c2⟩ := qp N (D.getD ((i + j) / 2) (0, [], ())) (D.getD a (0, [], ()))
        simp only [wi hh, wi ha, if_true, Int.toNat_natCast, Nat.zero_add, Ad (show (i + j) / 2 < D.length by omega), Ad (show a < D.length by omega), Option.bind_some, c1, c2, i3]
        by_cases hlt : wt D ((i + j) / 2) < wt D a
        · rw [if_pos (by simpa [wt] using hlt)]
          obtain ⟨s, g1, g2⟩ := ih ((i + j) / 2 + 1) j f (by omega) (by omega) (by omega) (by omega) h3 (fun c hc1 hc2 => by
            have := hmono c ((i + j) / 2) hc1 (by omega) (by omega)
            omega) hhi
          exact ⟨s, by rw [g1]; rfl, g2⟩
        · rw [if_neg (by simpa [wt] using hlt)]
          obtain ⟨s, g1, g2⟩ := ih i ((i + j) / 2) f (by omega) (by omega) h1 (by omega) (by omega) hlo (fun c hc1 hc2 => by
            have := hmono ((i + j) / 2) c (by omega) hc1 hc2
            omega)
          exact ⟨s, by rw [g1]; rfl, g2⟩
      · rw [aY (by omega)]
        exact ⟨i, rfl, h1, by omega, hlo, fun c hc => hhi c (by omega)⟩
theorem yV (N : Nat) (G : GT) (n a : Nat) (hn : n ≤ 100000) (D : List aH) (hD : D.length = n) (ha : a < n) (i0 j0 : Nat) (hj0 : j0 ≤ n) (hmono : ∀ c d, i0 ≤ c → c ≤ d → d < j0 → wt D c ≤ wt D d) :
    ∀ (t i j f : Nat), j - i ≤ t → t < f → i0 ≤ i → i ≤ j → j ≤ j0 → (∀ c, i0 ≤ c → c < i → wt D c ≤ wt D a) → (∀ c, j ≤ c → c < j0 → wt D a < wt D c) →
    ∃ s : Nat, eh N G f ((i : Int), (j : Int), (a : Int), 0, n, D) = some ((a : Int), (s : Int), 0, n, D) ∧ i0 ≤ s ∧ s ≤ j0 ∧ (∀ c, i0 ≤ c → c < s → wt D c ≤ wt D a) ∧ (∀ c, s ≤ c → c < j0 → wt D a < wt D c) := by
  intro t
  induction t with
  | zero =>
    intro i j f ht hf h1 h2 h3 hlo hhi
    cases f with
    | zero => omega
    | succ f =>
      simp only [eh, nU, ae]
      rw [aY (by omega)]
      exact ⟨i, rfl, h1, by omega, hlo, fun c hc => hhi c (by omega)⟩
  | succ t ih =>
    intro i j f ht hf h1 h2 h3 hlo hhi
    cases f with
    | zero => omega
    | succ f =>
      simp only [eh, nU, ae]
      by_cases hij : i < j
      · have hm := A7 (i := i) (j := j) (by omega)
        have hh : (i + j) / 2 < n := by omega
        rw [bd (by omega), hm]
        have i3 : IntKind.wrap .i64 ((((i + j) / 2 : Nat) : Int) + 1) = (((i + j) / 2 + 1 : Nat) : Int) := by rw [wrap_i64 (by omega) (by omega)]; omega
        obtain ⟨c, c1, c2⟩ := qp N (D.getD a (0, [], ())) (D.getD ((i + j) / 2) (0, [], ()))
        simp only [wi hh, wi ha, if_true, Int.toNat_natCast, Nat.zero_add, Ad (show (i + j) / 2 < D.length by omega), Ad (show a < D.length by omega), Option.bind_some, c1, c2, i3]
        by_cases hlt : wt D a < wt D ((i + j) / 2)
        · have hlt' : decide ((D.getD a (0, [], ())).1 < (D.getD ((i + j) / 2) (0, [], ())).1) = true := by simpa [wt] using hlt
          rw [hlt', if_neg (by decide)]
          obtain ⟨s, g1, g2⟩ := ih i ((i + j) / 2) f (by omega) (by omega) h1 (by omega) (by omega) hlo (fun c hc1 hc2 => by
            have := hmono ((i + j) / 2) c (by omega) hc1 hc2
            omega)
          exact ⟨s, by rw [g1]; rfl, g2⟩
        · have hlt' : decide ((D.getD a (0, [], ())).1 < (D.getD ((i + j) / 2) (0, [], ())).1) = false := by simpa [wt] using hlt
          rw [hlt', if_pos (by decide)]
          obtain ⟨s, g1, g2⟩ := ih ((i + j) / 2 + 1) j f (by omega) (by omega) (by omega) (by omega) h3 (fun c hc1 hc2 => by
            have := hmono c ((i + j) / 2) hc1 (by omega) (by omega)
            omega) hhi
          exact ⟨s, by rw [g1]; rfl, g2⟩
      · rw [aY (by omega)]
        exact ⟨i, rfl, h1, by omega, hlo, fun c hc => hhi c (by omega)⟩
theorem Gb (N : Nat) (G : GT) (n : Nat) (hn : n ≤ 100000) (P R : List aH) (x : aH) (s : Nat) : ∀ (Z2 Z1 : List aH) (f : Nat) (D : List aH), D = P ++ (Z1 ++ (x :: (Z2 ++ R))) → D.length = n → P.length + Z1.length + Z2.length + 1 = s → Z2.length < f →
    eg N G f (((P.length + Z1.length : Nat) : Int), (s : Int), 0, n, D) = some (P ++ (Z1 ++ (Z2 ++ (x :: R)))) := by
  intro Z2
  induction Z2 with
  | nil =>
    intro Z1 f D hD hlen hs hf
    cases f with
    | zero => omega
    | succ f =>
      have hl : P.length + Z1.length + 1 + R.length = n := by rw [← hlen, hD]; simp only [List.length_append, List.length_cons, List.length_nil]; omega
      simp only [List.length_nil] at hs
      simp only [eg, nT, ae]
      rw [wrap_i64 (z := (s : Int) - 1) (by omega) (by omega), aY (by omega), hD]
      rfl
  | cons y Z2 ih =>
    intro Z1 f D hD hlen hs hf
    cases f with
    | zero => omega
    | succ f =>
      simp only [List.length_cons] at hs hf
      have hl : P.length + Z1.length + 1 + (Z2.length + 1) + R.length = n := by rw [← hlen, hD]; simp only [List.length_append, List.length_cons]; omega
      have e1 : D = (P ++ Z1) ++ x :: (y :: (Z2 ++ R)) := by rw [hD]; simp
      have e2 : D = (P ++ (Z1 ++ [x])) ++ y :: (Z2 ++ R) := by rw [hD]; simp
      have l1 : P.length + Z1.length = (P ++ Z1).length := by rw [List.length_append]
      have l2 : P.length + Z1.length + 1 = (P ++ (Z1 ++ [x])).length := by simp only [List.length_append, List.length_singleton]; omega
      have s1 := set_mid e1 l1 y
      have e3 : D.set (P.length + Z1.length) y = (P ++ (Z1 ++ [y])) ++ y :: (Z2 ++ R) := by rw [s1]; simp
      have l3 : P.length + Z1.length + 1 = (P ++ (Z1 ++ [y])).length := by simp only [List.length_append, List.length_singleton]; omega
      have i3 : IntKind.wrap .i64 (((P.length + Z1.length : Nat) : Int) + 1) = ((P.length + Z1.length + 1 : Nat) : Int) := by rw [wrap_i64 (by omega) (by omega)]; omega
      simp only [eg, nT, ae]
      rw [wrap_i64 (z := (s : Int) - 1) (by omega) (by omega), bd (by omega)]
      simp only [i3, wi (show P.length + Z1.length < n by omega), wi (show P.length + Z1.length + 1 < n by omega), if_true, Int.toNat_natCast, Nat.zero_add, gj e1 l1, gj e2 l2, Option.bind_some, eta]
      rw [gj e3 l3, Option.bind_some, set_mid e3 l3 x]
      have := ih (Z1 ++ [y]) f ((P ++ (Z1 ++ [y])) ++ x :: (Z2 ++ R)) (by simp) (by simp only [List.length_append, List.length_cons, List.length_nil]; omega) (by rw [List.length_append, List.length_singleton]; omega) (by omega)
      rw [List.length_append, List.length_singleton, ← Nat.add_assoc] at this
      rw [this]
      simp
theorem ye (N : Nat) (G : GT) (n : Nat) (hn : n ≤ 100000) (P S : List aH) (y : aH) (Z1 : List aH) : ∀ (Z2 : List aH) (f : Nat) (D : List aH), D = P ++ (Z1 ++ (y :: (Z2 ++ S))) → D.length = n → Z1.length < f →
    cK N G f (((P.length + Z1.length : Nat) : Int), (P.length : Int), 0, n, D) = some (P ++ (y :: (Z1 ++ (Z2 ++ S)))) := by
  refine uL (motive := fun Z1 => ∀ (Z2 : List aH) (f : Nat) (D : List aH), D = P ++ (Z1 ++ (y :: (Z2 ++ S))) → D.length = n → Z1.length < f →
    cK N G f (((P.length + Z1.length : Nat) : Int), (P.length : Int), 0, n, D) = some (P ++ (y :: (Z1 ++ (Z2 ++ S))))) ?_ (fun Z1 x ih => ?_) Z1
  · intro Z2 f D hD hlen hf
    cases f with
    | zero => omega
    | succ f =>
      simp only [cK, k9, ae]
      rw [if_neg (by simp), hD]
      rfl
  · intro Z2 f D hD hlen hf
    cases f with
    | zero => omega
    | succ f =>
      simp only [List.length_append, List.length_singleton] at hf ⊢
      have hl : P.length + (Z1.length + 1) + 1 + Z2.length + S.length = n := by rw [← hlen, hD]; simp only [List.length_append, List.length_cons, List.length_nil]; omega
      have e1 : D = (P ++ (Z1 ++ [x])) ++ y :: (Z2 ++ S) := by rw [hD]; simp
      have e2 : D = (P ++ Z1) ++ x :: (y :: (Z2 ++ S)) := by rw [hD]; simp
      have l1 : P.length + (Z1.length + 1) = (P ++ (Z1 ++ [x])).length := by simp only [List.length_append, List.length_singleton]
      have l2 : P.length + Z1.length = (P ++ Z1).length := by rw [List.length_append]
      have s1 := set_mid e1 l1 x
      have e3 : D.set (P.length + (Z1.length + 1)) x = (P ++ Z1) ++ x :: (x :: (Z2 ++ S)) := by rw [s1]; simp
      have i3 : IntKind.wrap .i64 (((P.length + (Z1.length + 1) : Nat) : Int) - 1) = ((P.length + Z1.length : Nat) : Int) := by rw [wrap_i64 (by omega) (by omega)]; omega
      simp only [cK, k9, ae]
      rw [bd (by omega)]
      simp only [i3, wi (show P.length + Z1.length < n by omega), wi (show P.length + (Z1.length + 1) < n by omega), if_true, Int.toNat_natCast, Nat.zero_add, gj e1 l1, gj e2 l2, Option.bind_some, eta]
      rw [gj e3 l2, Option.bind_some, set_mid e3 l2 y]
      rw [ih (x :: Z2) f _ (by simp) (by simp only [List.length_append, List.length_cons]; omega) (by omega)]
      simp
theorem mR (N : Nat) (G : GT) (n : Nat) (hn : n ≤ 100000) (D : List aH) (hD : D.length = n) (p i0 j0 : Nat) (x1 x2 x3 x4 x5 : Int) (hj0 : j0 ≤ n) (hp : ∀ c, i0 ≤ c → c < j0 → c ≤ p ∧ p - c < n) (hp2 : p ≤ 1000000)
    (hmono : ∀ c d, i0 ≤ c → c ≤ d → d < j0 → wt D c ≤ wt D d ∧ wt D (p - d) ≤ wt D (p - c)) :
    ∀ (t i j f : Nat), j - i ≤ t → t < f → i0 ≤ i → i ≤ j → j ≤ j0 → (∀ c, i0 ≤ c → c < i → wt D c ≤ wt D (p - c)) → (∀ c, j ≤ c → c < j0 → wt D (p - c) < wt D c) →
    ∃ s : Nat, cj N G f ((i : Int), x1, x2, x3, x4, x5, (j : Int), (p : Int), 0, n, D) = some (x5, x4, x3, (s : Int), 0, n, x2, x1, D) ∧ i0 ≤ s ∧ s ≤ j0 ∧ (∀ c, i0 ≤ c → c < s → wt D c ≤ wt D (p - c)) ∧ (∀ c, s ≤ c → c < j0 → wt D (p - c) < wt D c) := by
  intro t
  induction t with
  | zero =>
    intro i j f ht hf h1 h2 h3 hlo hhi
    cases f with
    | zero => omega
    | succ f =>
      simp only [cj, lc, ae]
      rw [aY (by omega)]
      exact ⟨i, rfl, h1, by omega, hlo, fun c hc => hhi c (by omega)⟩
  | succ t ih =>
    intro i j f ht hf h1 h2 h3 hlo hhi
    cases f with
    | zero => omega
    | succ f =>
      simp only [cj, lc, ae]
      by_cases hij : i < j
      · have hm := A7 (i := i) (j := j) (by omega)
        obtain ⟨q1, q2⟩ := hp ((i + j) / 2) (by omega) (by omega)
        have hh : (i + j) / 2 < n := by omega
        rw [bd (by omega), hm]
        have i3 : IntKind.wrap .i64 ((((i + j) / 2 : Nat) : Int) + 1) = (((i + j) / 2 + 1 : Nat) : Int) := by rw [wrap_i64 (by omega) (by omega)]; omega
        have i4 : IntKind.wrap .i64 ((p : Int) - (((i + j) / 2 : Nat) : Int)) = ((p - (i + j) / 2 : Nat) : Int) := by rw [wrap_i64 (by omega) (by omega)]; omega
        obtain ⟨c, c1, c2⟩ := qp N (D.getD (p - (i + j) / 2) (0, [], ())) (D.getD ((i + j) / 2) (0, [], ()))
        simp only [i4, wi hh, wi q2, if_true, Int.toNat_natCast, Nat.zero_add, Ad (show (i + j) / 2 < D.length by omega), Ad (show p - (i + j) / 2 < D.length by omega), Option.bind_some, c1, c2, i3]
        by_cases hlt : wt D (p - (i + j) / 2) < wt D ((i + j) / 2)
        · have hlt' : decide ((D.getD (p - (i + j) / 2) (0, [], ())).1 < (D.getD ((i + j) / 2) (0, [], ())).1) = true := by simpa [wt] using hlt
          rw [hlt', if_neg (by decide)]
          obtain ⟨s, g1, g2⟩ := ih i ((i + j) / 2) f (by omega) (by omega) h1 (by omega) (by omega) hlo (fun c hc1 hc2 => by
            have := hmono ((i + j) / 2) c (by omega) hc1 hc2
            omega)
          exact ⟨s, by rw [g1]; rfl, g2⟩
        · have hlt' : decide ((D.getD (p - (i + j) / 2) (0, [], ())).1 < (D.getD ((i + j) / 2) (0, [], ())).1) = false := by simpa [wt] using hlt
          rw [hlt', if_pos (by decide)]
          obtain ⟨s, g1, g2⟩ := ih ((i + j) / 2 + 1) j f (by omega) (by omega) (by omega) (by omega) h3 (fun c hc1 hc2 => by
            have := hmono c ((i + j) / 2) hc1 (by omega) (by omega)
            omega) hhi
          exact ⟨s, by rw [g1]; rfl, g2⟩
      · rw [aY (by omega)]
        exact ⟨i, rfl, h1, by omega, hlo, fun c hc => hhi c (by omega)⟩
noncomputable def oE (N : Nat) (G : GT) (y : Int × Int × Int × Int × Nat × Nat × Int × Int × List aH) : Option (List aH) :=
  Option.bind (ac (decide (y.2.2.2.1 < y.2.1)) (ac (decide (y.2.1 < IntKind.wrap .i64 (y.1 - y.2.2.2.1))) (ti N (y.2.2.2.2.1, y.2.2.2.2.2.1, y.2.2.2.1, y.2.1, IntKind.wrap .i64 (y.1 - y.2.2.2.1), y.2.2.2.2.2.2.2.2)) (some y.2.2.2.2.2.2.2.2)) (some y.2.2.2.2.2.2.2.2)) fun d1 =>
  Option.bind (ac (decide (y.2.2.1 < y.2.2.2.1)) (ac (decide (y.2.2.2.1 < y.2.2.2.2.2.2.1)) (G (y.2.2.2.2.1, y.2.2.2.2.2.1, y.2.2.1, y.2.2.2.1, y.2.2.2.2.2.2.1, d1)) (some d1)) (some d1)) fun d2 =>
  ac (decide (y.2.2.2.2.2.2.1 < IntKind.wrap .i64 (y.1 - y.2.2.2.1))) (ac (decide (IntKind.wrap .i64 (y.1 - y.2.2.2.1) < y.2.2.2.2.2.2.2.1)) (Option.bind (G (y.2.2.2.2.1, y.2.2.2.2.2.1, y.2.2.2.2.2.2.1, IntKind.wrap .i64 (y.1 - y.2.2.2.1), y.2.2.2.2.2.2.2.1, d2)) fun d3 => some d3) (some d2)) (some d2)
theorem M3 (N : Nat) (G : GT) (o len : Nat) (a m b : Int) (D : List aH) : Dw N G (o, len, a, m, b, D) =
    ac (IntKind.wrap .i64 (m - a) == 1) (
      Option.bind (em N G N (m, b, o, len, a, D)) fun y0 =>
      Option.bind (eg N G N (y0.1, y0.2.1, y0.2.2.1, y0.2.2.2.1, y0.2.2.2.2)) fun y1 => some y1) (
    ac (IntKind.wrap .i64 (b - m) == 1) (
      Option.bind (eh N G N (a, m, m, o, len, D)) fun y2 =>
      Option.bind (cK N G N (y2.1, y2.2.1, y2.2.2.1, y2.2.2.2.1, y2.2.2.2.2)) fun y3 => some y3) (
    ac (decide (m > IntKind.wrap .i64 (Int.fdiv (IntKind.wrap .u64 (IntKind.wrap .i64 (a + b))) 2))) (
      Option.bind (cj N G N (IntKind.wrap .i64 (IntKind.wrap .i64 (IntKind.wrap .i64 (Int.fdiv (IntKind.wrap .u64 (IntKind.wrap .i64 (a + b))) 2) + m) - b), b, IntKind.wrap .i64 (Int.fdiv (IntKind.wrap .u64 (IntKind.wrap .i64 (a + b))) 2), a, m, IntKind.wrap .i64 (IntKind.wrap .i64 (Int.fdiv (IntKind.wrap .u64 (IntKind.wrap .i64 (a + b))) 2) + m), IntKind.wrap .i64 (Int.fdiv (IntKind.wrap .u64 (IntKind.wrap .i64 (a + b))) 2), IntKind.wrap .i64 (IntKind.wrap .i64 (IntKind.wrap .i64 (Int.fdiv (IntKind.wrap .u64 (IntKind.wrap .i64 (a + b))) 2) + m) - 1), o, len, D)) (oE N G)) (
      Option.bind (cj N G N (a, b, IntKind.wrap .i64 (Int.fdiv (IntKind.wrap .u64 (IntKind.wrap .i64 (a + b))) 2), a, m, IntKind.wrap .i64 (IntKind.wrap .i64 (Int.fdiv (IntKind.wrap .u64 (IntKind.wrap .i64 (a + b))) 2) + m), m, IntKind.wrap .i64 (IntKind.wrap .i64 (IntKind.wrap .i64 (Int.fdiv (IntKind.wrap .u64 (IntKind.wrap .i64 (a + b))) 2) + m) - 1), o, len, D)) (oE N G)))) := by
  unfold Dw
  simp only
  have key : ∀ y : Int × Int × Int × Int × Nat × Nat × Int × Int × List aH, ∀ z, z = oE N G y → z = oE N G y := fun _ _ h => h
  congr 2
  congr 1
  all_goals
    congr 1
    funext y
    unfold oE
    generalize decide (y.2.2.2.1 < y.2.1) = c1
    generalize decide (y.2.1 < IntKind.wrap .i64 (y.1 - y.2.2.2.1)) = c2
    generalize decide (y.2.2.1 < y.2.2.2.1) = c3
    generalize decide (y.2.2.2.1 < y.2.2.2.2.2.2.1) = c4
    generalize decide (y.2.2.2.2.2.2.1 < IntKind.wrap .i64 (y.1 - y.2.2.2.1)) = c5
    generalize decide (IntKind.wrap .i64 (y.1 - y.2.2.2.1) < y.2.2.2.2.2.2.2.1) = c6
    cases c1 <;> cases c2 <;> cases c3 <;> cases c4 <;> cases c5 <;> cases c6 <;> rfl
end Go.Proofs.YteddgkplkjldcaaGreat.Am
namespace Go.Proofs.YteddgkplkjldcaaGreat.Am
open Go.Am
theorem mem_left {A B : List aH} {y : aH} (h : y ∈ A) : ∃ i, i < A.length ∧ wt (A ++ B) i = y.1 := by
  obtain ⟨i, hi, e⟩ := List.getElem_of_mem h
  refine ⟨i, hi, ?_⟩
  rw [AF (by rw [List.length_append]; omega), List.getElem_append_left hi, e]
theorem mem_right {A B : List aH} {y : aH} (h : y ∈ B) : ∃ i, A.length ≤ i ∧ i < (A ++ B).length ∧ wt (A ++ B) i = y.1 := by
  obtain ⟨i, hi, e⟩ := List.getElem_of_mem h
  refine ⟨A.length + i, by omega, by rw [List.length_append]; omega, ?_⟩
  rw [AF (by rw [List.length_append]; omega), List.getElem_append_right (by omega)]
  simp only [Nat.add_sub_cancel_left, e]
theorem Br (X : List aH) (k : Nat) (h : k ≤ X.length) : ∃ X1 X2, X = X1 ++ X2 ∧ X1.length = k :=
  ⟨X.take k, X.drop k, (List.take_append_drop ..).symm, by rw [List.length_take]; omega⟩
theorem Sm {N : Nat} (hN : 100000 < N) (n : Nat) (hn : n ≤ 100000) (k : Nat) (ih : ∀ (P X Y S : List aH) (a m b : Nat), X.length + Y.length < k → (P ++ (X ++ (Y ++ S))).length = n → P.length = a → a + X.length = m → m + Y.length = b → 0 < X.length → 0 < Y.length → mj X → mj Y →
      bA N k (0, n, (a : Int), (m : Int), (b : Int), P ++ (X ++ (Y ++ S))) = some (P ++ (gb X Y ++ S)))
    (P X Y S : List aH) (a m b mid : Nat) (hk : X.length + Y.length < k + 1) (hlen : (P ++ (X ++ (Y ++ S))).length = n) (ha : P.length = a) (hm : a + X.length = m) (hb : m + Y.length = b) (hX : 0 < X.length) (hY : 0 < Y.length) (hsX : mj X) (hsY : mj Y) (hmid2 : 2 * mid ≤ a + b ∧ a + b ≤ 2 * mid + 1)
    (hl : a + X.length + Y.length + S.length = n) (wX : ∀ i, i < X.length → wt (P ++ (X ++ (Y ++ S))) (a + i) = wt X i) (wY : ∀ i, i < Y.length → wt (P ++ (X ++ (Y ++ S))) (m + i) = wt Y i) :
    ∀ (lo r s : Nat), ((mid < m ∧ lo + b = mid + m ∧ r = mid) ∨ (m ≤ mid ∧ lo = a ∧ r = m)) → lo ≤ s → s ≤ r → (∀ c, lo ≤ c → c < s → wt (P ++ (X ++ (Y ++ S))) c ≤ wt (P ++ (X ++ (Y ++ S))) (mid + m - 1 - c)) → (∀ c, s ≤ c → c < r → wt (P ++ (X ++ (Y ++ S))) (mid + m - 1 - c) < wt (P ++ (X ++ (Y ++ S))) c) →
      oE N (bA N k) (((mid + m : Nat) : Int), (m : Int), (a : Int), (s : Int), 0, n, (mid : Int), (b : Int), P ++ (X ++ (Y ++ S))) = some (P ++ (gb X Y ++ S)) := by
  intro lo r s hlo h3 h4 h5 h6
  obtain ⟨e, he⟩ : ∃ e, e + s = mid + m := ⟨mid + m - s, by omega⟩
  have hs1 : a ≤ s ∧ s ≤ m ∧ m ≤ e ∧ e ≤ b := by omega
  obtain ⟨X1, X2, rfl, hX1⟩ := Br X (s - a) (by omega)
  obtain ⟨Y1, Y2, rfl, hY1⟩ := Br Y (e - m) (by omega)
  rw [List.length_append] at hm hb hX hY
  simp only [List.length_append] at hl
  have c1 : ∀ y ∈ Y1, ∀ x ∈ X2, y.1 < x.1 := fun y hy x hx => by
    obtain ⟨i, hi, ei⟩ := mem_left (B := Y2) hy
    obtain ⟨j, hj1, hj2, ej⟩ := mem_right (A := X1) hx
    have hY1p : 0 < Y1.length := List.length_pos_of_mem hy
    have hX2p : 0 < X2.length := List.length_pos_of_mem hx
    have := h6 s (Nat.le_refl _) (by omega)
    rw [show mid + m - 1 - s = m + (Y1.length - 1) by omega, wY _ (by rw [List.length_append]; omega), show s = a + X1.length by omega, wX _ (by rw [List.length_append]; omega)] at this
    have k1 := iG hsY (i := i) (j := Y1.length - 1) (by omega) (by rw [List.length_append]; omega)
    have k2 := iG hsX (i := X1.length) (j := j) hj1 hj2
    omega
  have c2 : ∀ x ∈ X1, ∀ y ∈ Y2, x.1 ≤ y.1 := fun x hx y hy => by
    obtain ⟨i, hi, ei⟩ := mem_left (B := X2) hx
    obtain ⟨j, hj1, hj2, ej⟩ := mem_right (A := Y1) hy
    have hX1p : 0 < X1.length := List.length_pos_of_mem hx
    have hY2p : 0 < Y2.length := List.length_pos_of_mem hy
    have := h5 (s - 1) (by omega) (by omega)
    rw [show mid + m - 1 - (s - 1) = m + Y1.length by omega, wY _ (by rw [List.length_append]; omega), show s - 1 = a + (X1.length - 1) by omega, wX _ (by rw [List.length_append]; omega)] at this
    have k1 := iG hsX (i := i) (j := X1.length - 1) (by omega) (by rw [List.length_append]; omega)
    have k2 := iG hsY (i := Y1.length) (j := j) hj1 hj2
    omega
  have sX := List.pairwise_append.1 hsX
  have sY := List.pairwise_append.1 hsY
  rw [dw X1 X2 Y1 Y2 c1 c2]
  have jE : IntKind.wrap .i64 (((mid + m : Nat) : Int) - (s : Int)) = (e : Int) := by rw [wrap_i64 (by omega) (by omega)]; omega
  unfold oE
  simp only [jE, ae]
  -- turned
  have d1 : (if decide ((s : Int) < (m : Int)) = true then (if decide ((m : Int) < (e : Int)) = true then ti N (0, n, (s : Int), (m : Int), (e : Int), P ++ (X1 ++ X2 ++ (Y1 ++ Y2 ++ S))) else some (P ++ (X1 ++ X2 ++ (Y1 ++ Y2 ++ S)))) else some (P ++ (X1 ++ X2 ++ (Y1 ++ Y2 ++ S)))) = some (P ++ (X1 ++ (Y1 ++ (X2 ++ (Y2 ++ S))))) := by
    by_cases q1 : s < m
    · rw [bd (by omega)]
      by_cases q2 : m < e
      · rw [bd (by omega)]
        have := FX hN (P ++ X1) X2 Y1 (Y2 ++ S) n s m e hn (by rw [← hlen]; simp only [List.length_append]; omega) (by omega) (by omega) (by rw [List.length_append]; omega) (by omega) (by omega)
        simpa only [List.append_assoc] using this
      · rw [aY (by omega)]
        have : Y1 = [] := List.eq_nil_of_length_eq_zero (by omega)
        subst this
        simp
    · rw [aY (by omega)]
      have : X2 = [] := List.eq_nil_of_length_eq_zero (by omega)
      subst this
      simp
  rw [d1, Option.bind_some]
  -- the lower part
  have d2 : (if decide ((a : Int) < (s : Int)) = true then (if decide ((s : Int) < (mid : Int)) = true then bA N k (0, n, (a : Int), (s : Int), (mid : Int), P ++ (X1 ++ (Y1 ++ (X2 ++ (Y2 ++ S))))) else some (P ++ (X1 ++ (Y1 ++ (X2 ++ (Y2 ++ S)))))) else some (P ++ (X1 ++ (Y1 ++ (X2 ++ (Y2 ++ S)))))) = some (P ++ (gb X1 Y1 ++ (X2 ++ (Y2 ++ S)))) := by
    by_cases q1 : a < s
    · rw [bd (by omega)]
      by_cases q2 : s < mid
      · rw [bd (by omega)]
        exact ih P X1 Y1 (X2 ++ (Y2 ++ S)) a s mid (by simp only [List.length_append] at hk; omega) (by rw [← hlen]; simp only [List.length_append]; omega) ha (by omega) (by omega) (by omega) (by omega) sX.1 sY.1
      · rw [aY (by omega)]
        have : Y1 = [] := List.eq_nil_of_length_eq_zero (by omega)
        subst this
        simp [fl]
    · rw [aY (by omega)]
      have : X1 = [] := List.eq_nil_of_length_eq_zero (by omega)
      subst this
      simp [lR]
  rw [d2, Option.bind_some]
  -- the upper part
  have hml := JV X1 Y1
  by_cases q1 : mid < e
  · rw [bd (by omega)]
    by_cases q2 : e < b
    · rw [bd (by omega)]
      have := ih (P ++ gb X1 Y1) X2 Y2 S mid e b (by simp only [List.length_append] at hk; omega) (by rw [← hlen]; simp only [List.length_append, hml]; omega) (by rw [List.length_append, hml]; omega) (by omega) (by omega) (by omega) (by omega) sX.2.1 sY.2.1
      rw [List.append_assoc] at this
      rw [this, Option.bind_some]
      simp
    · rw [aY (by omega)]
      have : Y2 = [] := List.eq_nil_of_length_eq_zero (by omega)
      subst this
      simp [fl]
  · rw [aY (by omega)]
    have : X2 = [] := List.eq_nil_of_length_eq_zero (by omega)
    subst this
    simp [lR]
theorem yd {N : Nat} (hN : 100000 < N) (n : Nat) (hn : n ≤ 100000) : ∀ (k : Nat) (P X Y S : List aH) (a m b : Nat), X.length + Y.length < k → (P ++ (X ++ (Y ++ S))).length = n → P.length = a → a + X.length = m → m + Y.length = b → 0 < X.length → 0 < Y.length → mj X → mj Y →
    bA N k (0, n, (a : Int), (m : Int), (b : Int), P ++ (X ++ (Y ++ S))) = some (P ++ (gb X Y ++ S)) := by
  intro k
  induction k with
  | zero => intro P X Y S a m b h; omega
  | succ k ih =>
    intro P X Y S a m b hk hlen ha hm hb hX hY hsX hsY
    have hl : a + X.length + Y.length + S.length = n := by rw [← hlen]; simp only [List.length_append]; omega
    have wX : ∀ i, i < X.length → wt (P ++ (X ++ (Y ++ S))) (a + i) = wt X i := fun i hi => N0 P X (Y ++ S) ha hi
    have wY : ∀ i, i < Y.length → wt (P ++ (X ++ (Y ++ S))) (m + i) = wt Y i := fun i hi => by
      have := N0 (P ++ X) Y S (a := m) (by rw [List.length_append]; omega) hi
      rwa [List.append_assoc] at this
    have i1 : IntKind.wrap .i64 ((m : Int) - (a : Int)) = (X.length : Int) := by rw [wrap_i64 (by omega) (by omega)]; omega
    have i2 : IntKind.wrap .i64 ((b : Int) - (m : Int)) = (Y.length : Int) := by rw [wrap_i64 (by omega) (by omega)]; omega
    show Dw N (bA N k) (0, n, (a : Int), (m : Int), (b : Int), P ++ (X ++ (Y ++ S))) = _
    rw [M3, ae, ae, ae, i1, i2, A7 (by omega)]
    by_cases h1 : X.length = 1
    · -- one goes up
      rw [if_pos (by simp only [beq_iff_eq]; omega)]
      obtain ⟨x, rfl⟩ := List.length_eq_one_iff.1 h1
      obtain ⟨s, g1, g2, g3, g4, g5⟩ := yW N (bA N k) n a hn _ hlen (by omega) m b (by omega) (fun c d hc hcd hd => by
        have := iG hsY (i := c - m) (j := d - m) (by omega) (by omega)
        rw [← wY (c - m) (by omega), ← wY (d - m) (by omega)] at this
        rwa [show m + (c - m) = c by omega, show m + (d - m) = d by omega] at this) (b - m) m b N (Nat.le_refl _) (by omega) (Nat.le_refl _) (by omega) (Nat.le_refl _) (fun c _ _ => by omega) (fun c _ _ => by omega)
      rw [g1, Option.bind_some]
      have wa : wt (P ++ ([x] ++ (Y ++ S))) a = x.1 := by
        have := wX 0 (by simp)
        simpa [wt] using this
      obtain ⟨Y1, Y2, rfl, hY1⟩ := Br Y (s - m) (by omega)
      have hlow : ∀ y ∈ Y1, y.1 < x.1 := fun y hy => by
        obtain ⟨i, hi, e⟩ := mem_left (B := Y2) hy
        have := g4 (m + i) (by omega) (by omega)
        rw [wY i (by rw [List.length_append]; omega), wa, e] at this
        exact this
      have hhigh : ∀ y ∈ Y2, x.1 ≤ y.1 := fun y hy => by
        obtain ⟨i, hi1, hi2, e⟩ := mem_right (A := Y1) hy
        have := g5 (m + i) (by omega) (by omega)
        rw [wY i hi2, wa, e] at this
        exact this
      have hmv := Gb N (bA N k) n hn P (Y2 ++ S) x s Y1 [] N _ rfl (by rw [← hlen]; simp only [List.length_append, List.length_cons, List.length_nil]; omega) (by simp only [List.length_nil]; simp only [List.length_singleton] at hm; omega) (by rw [List.length_append] at hl; omega)
      simp only [List.length_nil, Nat.add_zero, ha] at hmv
      simp only
      have e1 : P ++ ([x] ++ (Y1 ++ Y2 ++ S)) = P ++ ([] ++ (x :: (Y1 ++ (Y2 ++ S)))) := by simp
      rw [e1, hmv, Option.bind_some]
      have hp := dw [] [x] Y1 Y2 (fun y hy z hz => by rw [List.mem_singleton.1 hz]; exact hlow y hy) (fun z hz => by cases hz)
      rw [List.nil_append, lR, Me [x] Y2 (fun z hz y hy => by rw [List.mem_singleton.1 hz]; exact hhigh y hy)] at hp
      rw [hp]
      simp
    · rw [if_neg (by simp only [beq_iff_eq]; omega)]
      by_cases h2 : Y.length = 1
      · -- one goes down
        rw [if_pos (by simp only [beq_iff_eq]; omega)]
        obtain ⟨y, rfl⟩ := List.length_eq_one_iff.1 h2
        obtain ⟨s, g1, g2, g3, g4, g5⟩ := yV N (bA N k) n m hn _ hlen (by omega) a m (by omega) (fun c d hc hcd hd => by
          have := iG hsX (i := c - a) (j := d - a) (by omega) (by omega)
          rw [← wX (c - a) (by omega), ← wX (d - a) (by omega)] at this
          rwa [show a + (c - a) = c by omega, show a + (d - a) = d by omega] at this) (m - a) a m N (Nat.le_refl _) (by omega) (Nat.le_refl _) (by omega) (Nat.le_refl _) (fun c _ _ => by omega) (fun c _ _ => by omega)
        rw [g1, Option.bind_some]
        have wm : wt (P ++ (X ++ ([y] ++ S))) m = y.1 := by
          have := wY 0 (by simp)
          simpa [wt] using this
        obtain ⟨X1, X2, rfl, hX1⟩ := Br X (s - a) (by omega)
        have hlow : ∀ x ∈ X1, x.1 ≤ y.1 := fun x hx => by
          obtain ⟨i, hi, e⟩ := mem_left (B := X2) hx
          have := g4 (a + i) (by omega) (by omega)
          rw [wX i (by rw [List.length_append]; omega), wm, e] at this
          exact this
        have hhigh : ∀ x ∈ X2, y.1 < x.1 := fun x hx => by
          obtain ⟨i, hi1, hi2, e⟩ := mem_right (A := X1) hx
          have := g5 (a + i) (by omega) (by omega)
          rw [wX i hi2, wm, e] at this
          exact this
        rw [List.length_append] at hm hl
        have hmv := ye N (bA N k) n hn (P ++ X1) S y X2 [] N _ rfl (by rw [← hlen]; simp only [List.length_append, List.length_cons, List.length_nil]; omega) (by omega)
        rw [List.length_append, show P.length + X1.length + X2.length = m by omega, show P.length + X1.length = s by omega] at hmv
        simp only
        have e1 : P ++ (X1 ++ X2 ++ ([y] ++ S)) = P ++ X1 ++ (X2 ++ (y :: ([] ++ S))) := by simp
        rw [e1, hmv, Option.bind_some]
        have hp := dw X1 X2 [] [y] (fun z hz => by cases hz) (fun x hx z hz => by rw [List.mem_singleton.1 hz]; exact hlow x hx)
        rw [List.nil_append, fl, Pw X2 [y] (fun z hz x hx => by rw [List.mem_singleton.1 hz]; exact hhigh x hx)] at hp
        rw [hp]
        simp
      · rw [if_neg (by simp only [beq_iff_eq]; omega)]
        -- what stands behind both ways
        obtain ⟨mid, hmid⟩ : ∃ mid, mid = (a + b) / 2 := ⟨_, rfl⟩
        rw [← hmid]
        have hmid2 : 2 * mid ≤ a + b ∧ a + b ≤ 2 * mid + 1 := by omega
        clear hmid
        have j1 : IntKind.wrap .i64 ((mid : Int) + (m : Int)) = ((mid + m : Nat) : Int) := by rw [wrap_i64 (by omega) (by omega)]; omega
        have j2 : IntKind.wrap .i64 (((mid + m : Nat) : Int) - (b : Int)) = ((mid : Int) + m - b) := by rw [wrap_i64 (by omega) (by omega)]; omega
        have j3 : IntKind.wrap .i64 (((mid + m : Nat) : Int) - 1) = ((mid + m - 1 : Nat) : Int) := by rw [wrap_i64 (by omega) (by omega)]; omega
        rw [j1, j2, j3]
        have fin := Sm hN n hn k ih P X Y S a m b mid hk hlen ha hm hb hX hY hsX hsY hmid2 hl wX wY
        have mono : ∀ c d, a ≤ c → c ≤ d → d < m → m + d < b + d + 1 → m ≤ mid + m - 1 - d → mid + m - 1 - c < b → c ≤ mid + m - 1 → wt (P ++ (X ++ (Y ++ S))) c ≤ wt (P ++ (X ++ (Y ++ S))) d ∧ wt (P ++ (X ++ (Y ++ S))) (mid + m - 1 - d) ≤ wt (P ++ (X ++ (Y ++ S))) (mid + m - 1 - c) := by
          intro c d q1 q2 q3 _ q4 q5 q6
          constructor
          · have := iG hsX (i := c - a) (j := d - a) (by omega) (by omega)
            rw [← wX (c - a) (by omega), ← wX (d - a) (by omega)] at this
            rwa [show a + (c - a) = c by omega, show a + (d - a) = d by omega] at this
          · have := iG hsY (i := mid + m - 1 - d - m) (j := mid + m - 1 - c - m) (by omega) (by omega)
            rw [← wY (mid + m - 1 - d - m) (by omega), ← wY (mid + m - 1 - c - m) (by omega)] at this
            rwa [show m + (mid + m - 1 - d - m) = mid + m - 1 - d by omega, show m + (mid + m - 1 - c - m) = mid + m - 1 - c by omega] at this
        by_cases hmm : mid < m
        · rw [bd (by omega)]
          obtain ⟨lo, hlo⟩ : ∃ lo, lo + b = mid + m := ⟨mid + m - b, by omega⟩
          rw [show (mid : Int) + m - b = (lo : Int) by omega]
          obtain ⟨s, g1, g2, g3, g4, g5⟩ := mR N (bA N k) n hn _ hlen (mid + m - 1) lo mid (b : Int) (mid : Int) (a : Int) (m : Int) ((mid + m : Nat) : Int) (by omega) (fun c q1 q2 => by omega) (by omega) (fun c d q1 q2 q3 => mono c d (by omega) q2 (by omega) (by omega) (by omega) (by omega) (by omega)) (mid - lo) lo mid N (Nat.le_refl _) (by omega) (Nat.le_refl _) (by omega) (Nat.le_refl _) (fun c _ _ => by omega) (fun c _ _ => by omega)
          rw [g1, Option.bind_some]
          exact fin lo mid s (.inl ⟨hmm, hlo, rfl⟩) g2 g3 g4 g5
        · rw [aY (by omega)]
          obtain ⟨s, g1, g2, g3, g4, g5⟩ := mR N (bA N k) n hn _ hlen (mid + m - 1) a m (b : Int) (mid : Int) (a : Int) (m : Int) ((mid + m : Nat) : Int) (by omega) (fun c q1 q2 => by omega) (by omega) (fun c d q1 q2 q3 => mono c d (by omega) q2 (by omega) (by omega) (by omega) (by omega) (by omega)) (m - a) a m N (Nat.le_refl _) (by omega) (Nat.le_refl _) (by omega) (Nat.le_refl _) (fun c _ _ => by omega) (fun c _ _ => by omega)
          rw [g1, Option.bind_some]
          exact fin a m s (.inr ⟨by omega, rfl, rfl⟩) g2 g3 g4 g5
end Go.Proofs.YteddgkplkjldcaaGreat.Am
namespace Go.Proofs.YteddgkplkjldcaaGreat.Am
open Go.Am
def blk (bs : Nat) : Nat → List aH → List aH
  | 0, _ => []
  | k + 1, L => aN (L.take bs) ++ blk bs k (L.drop bs)
theorem tM (bs : Nat) : ∀ k, blk bs k [] = []
  | 0 => rfl
  | k + 1 => by rw [blk, List.take_nil, List.drop_nil, tM bs k]; rfl
theorem fb {bs : Nat} {L : List aH} (h : L.length ≤ bs) (k : Nat) : blk bs (k + 1) L = aN L := by
  rw [blk, List.take_of_length_le h, List.drop_of_length_le h, tM, List.append_nil]
theorem Kb {bs : Nat} : ∀ (k : Nat) (L : List aH), L.length ≤ bs * k → (blk bs k L).length = L.length
  | 0, L, h => by have : L.length = 0 := by omega
                  rw [blk, this]; rfl
  | k + 1, L, h => by
    rw [Nat.mul_succ] at h
    rw [blk, List.length_append, a7, Kb k (L.drop bs) (by rw [List.length_drop]; omega), List.length_take, List.length_drop]
    omega
theorem FD {bs : Nat} : ∀ (k k' : Nat) (L : List aH), L.length ≤ bs * k → k ≤ k' → blk bs k' L = blk bs k L
  | 0, k', L, h, _ => by
    have : L = [] := List.eq_nil_of_length_eq_zero (by omega)
    rw [this, tM, tM]
  | k + 1, 0, L, _, h => by omega
  | k + 1, k' + 1, L, h, hk => by
    rw [Nat.mul_succ] at h
    rw [blk, blk, FD k k' (L.drop bs) (by rw [List.length_drop]; omega) (by omega)]
theorem DC {N : Nat} (hN : 100000 < N) (n : Nat) (hn : n ≤ 50000) : ∀ (k : Nat) (P L : List aH) (a f : Nat), P.length = a → a + L.length = n → L.length ≤ 20 * k → k < f →
    ∃ (a' : Nat) (P' R : List aH), dR N f ((a : Int), ((a + 20 : Nat) : Int), (n : Int), 0, n, 20, P ++ L) = some ((a' : Int), (n : Int), 0, n, 20, P' ++ R) ∧ P'.length = a' ∧ a' + R.length = n ∧ P' ++ aN R = P ++ blk 20 k L := by
  intro k
  induction k with
  | zero =>
    intro P L a f ha hl hk hf
    cases f with
    | zero => omega
    | succ f =>
      simp only [dR, qI, ae]
      rw [aY (by omega)]
      have : L = [] := List.eq_nil_of_length_eq_zero (by omega)
      subst this
      exact ⟨a, P, [], rfl, ha, hl, rfl⟩
  | succ k ih =>
    intro P L a f ha hl hk hf
    cases f with
    | zero => omega
    | succ f =>
      simp only [dR, qI, ae]
      by_cases h : 20 ≤ L.length
      · rw [bd (by omega)]
        have hs := Au hN P (L.take 20) (L.drop 20) n a (a + 20) (by omega) (by rw [List.take_append_drop, List.length_append]; omega) ha (by rw [List.length_take]; omega)
        rw [List.take_append_drop] at hs
        rw [hs, Option.bind_some]
        have i1 : IntKind.wrap .i64 (((a + 20 : Nat) : Int) + 20) = ((a + 20 + 20 : Nat) : Int) := by rw [wrap_i64 (by omega) (by omega)]; omega
        obtain ⟨a', P', R, g1, g2, g3, g4⟩ := ih (P ++ aN (L.take 20)) (L.drop 20) (a + 20) f (by rw [List.length_append, a7, List.length_take]; omega) (by rw [List.length_drop]; omega) (by rw [List.length_drop]; omega) (by omega)
        rw [List.append_assoc] at g1
        exact ⟨a', P', R, by rw [i1, g1]; rfl, g2, g3, by rw [g4, blk, List.append_assoc]⟩
      · rw [aY (by omega)]
        exact ⟨a, P, L, rfl, ha, hl, by rw [fb (by omega)]⟩
theorem yi {N : Nat} (hN : 100000 < N) (n bs : Nat) (hn : n ≤ 50000) (hb : 0 < bs) (hb2 : bs ≤ 50000) : ∀ (k : Nat) (P L : List aH) (a f : Nat), P.length = a → a + L.length = n → L.length ≤ 2 * bs * k → k < f →
    ∃ (a' : Nat) (D' : List aH), cM N f ((a : Int), ((a + 2 * bs : Nat) : Int), (n : Int), 0, n, (bs : Int), P ++ blk bs (2 * k) L) = some ((a' : Int), (bs : Int), (n : Int), 0, n, D') ∧ a' ≤ n ∧
      (a' + bs < n → Ga N (0, n, (a' : Int), ((a' + bs : Nat) : Int), (n : Int), D') = some (P ++ blk (2 * bs) k L)) ∧ (¬ a' + bs < n → D' = P ++ blk (2 * bs) k L) := by
  intro k
  induction k with
  | zero =>
    intro P L a f ha hl hk hf
    cases f with
    | zero => omega
    | succ f =>
      simp only [cM, li, ae]
      rw [aY (by omega)]
      exact ⟨a, _, rfl, by omega, fun h => by omega, fun _ => rfl⟩
  | succ k ih =>
    intro P L a f ha hl hk hf
    cases f with
    | zero => omega
    | succ f =>
      rw [Nat.mul_succ] at hk
      simp only [cM, li, ae]
      have e2 : 2 * (k + 1) = 2 * k + 1 + 1 := by omega
      have i2 : IntKind.wrap .i64 ((2 : Int) * (bs : Int)) = ((2 * bs : Nat) : Int) := by rw [wrap_i64 (by omega) (by omega)]; omega
      by_cases h : 2 * bs ≤ L.length
      · rw [bd (by omega)]
        have i1 : IntKind.wrap .i64 ((a : Int) + (bs : Int)) = ((a + bs : Nat) : Int) := by rw [wrap_i64 (by omega) (by omega)]; omega
        have i3 : IntKind.wrap .i64 (((a + 2 * bs : Nat) : Int) + ((2 * bs : Nat) : Int)) = ((a + 2 * bs + 2 * bs : Nat) : Int) := by rw [wrap_i64 (by omega) (by omega)]; omega
        have hbl := Kb (bs := bs) (2 * k) ((L.drop bs).drop bs) (by
          rw [List.length_drop, List.length_drop]
          have : bs * (2 * k) = 2 * bs * k := by rw [← Nat.mul_assoc, Nat.mul_comm bs 2]
          omega)
        have hm := yd hN n (by omega) N P (aN (L.take bs)) (aN ((L.drop bs).take bs)) (blk bs (2 * k) ((L.drop bs).drop bs)) a (a + bs) (a + 2 * bs)
          (by simp only [a7, List.length_take, List.length_drop]; omega)
          (by simp only [List.length_append, a7, List.length_take, List.length_drop, hbl]; omega) ha (by rw [a7, List.length_take]; omega) (by rw [a7, List.length_take, List.length_drop]; omega)
          (by rw [a7, List.length_take]; omega) (by rw [a7, List.length_take, List.length_drop]; omega) (dy _) (dy _)
        have et : L.take bs ++ (L.drop bs).take bs = L.take (2 * bs) := by
          rw [show 2 * bs = bs + bs by omega, List.take_add]
        have ed : (L.drop bs).drop bs = L.drop (2 * bs) := by rw [List.drop_drop]; congr 1; omega
        rw [jK, et, ed] at hm
        rw [e2, blk, blk, i1, ed]
        have hm' : Ga N (0, n, (a : Int), ((a + bs : Nat) : Int), ((a + 2 * bs : Nat) : Int), P ++ (aN (L.take bs) ++ (aN ((L.drop bs).take bs) ++ blk bs (2 * k) (L.drop (2 * bs))))) = some (P ++ (aN (L.take (2 * bs)) ++ blk bs (2 * k) (L.drop (2 * bs)))) := hm
        rw [hm', Option.bind_some, i2, i3]
        obtain ⟨a', D', g1, g2, g3, g4⟩ := ih (P ++ aN (L.take (2 * bs))) (L.drop (2 * bs)) (a + 2 * bs) f (by rw [List.length_append, a7, List.length_take]; omega) (by rw [List.length_drop]; omega) (by rw [List.length_drop]; omega) (by omega)
        rw [List.append_assoc] at g1 g3 g4
        exact ⟨a', D', by rw [g1]; rfl, g2, by rw [blk]; exact g3, by rw [blk]; exact g4⟩
      · rw [aY (by omega)]
        refine ⟨a, _, rfl, by omega, fun h2 => ?_, fun h2 => ?_⟩
        · have hm := yd hN n (by omega) N P (aN (L.take bs)) (aN (L.drop bs)) [] a (a + bs) n
            (by simp only [a7, List.length_take, List.length_drop]; omega)
            (by simp only [List.length_append, a7, List.length_take, List.length_drop, List.length_nil]; omega) ha (by rw [a7, List.length_take]; omega) (by rw [a7, List.length_drop]; omega)
            (by rw [a7, List.length_take]; omega) (by rw [a7, List.length_drop]; omega) (dy _) (dy _)
          rw [jK, List.take_append_drop, List.append_nil, List.append_nil] at hm
          rw [e2, blk, fb (by rw [List.length_drop]; omega), fb (by omega)]
          exact hm
        · rw [e2, fb (by omega), fb (by omega)]
theorem Dz {N : Nat} (hN : 100000 < N) (n : Nat) (hn : n ≤ 20000) (L : List aH) (hL : L.length = n) : ∀ (t bs f : Nat), n ≤ bs * 2 ^ t → 0 < bs → bs ≤ 40000 → t < f →
    fT N f ((n : Int), 0, n, (bs : Int), blk bs (2 * n) L) = some (aN L) := by
  intro t
  induction t with
  | zero =>
    intro bs f ht hb hb2 hf
    cases f with
    | zero => omega
    | succ f =>
      rw [Nat.pow_zero, Nat.mul_one] at ht
      simp only [fT, qH, ae]
      rw [aY (by omega)]
      congr 1
      cases n with
      | zero =>
        have : L = [] := List.eq_nil_of_length_eq_zero hL
        subst this
        rfl
      | succ n =>
        rw [show 2 * (n + 1) = 2 * n + 1 + 1 by omega, fb (by omega)]
  | succ t ih =>
    intro bs f ht hb hb2 hf
    cases f with
    | zero => omega
    | succ f =>
      simp only [fT, qH, ae]
      by_cases h : bs < n
      · rw [bd (by omega)]
        have i2 : IntKind.wrap .i64 ((2 : Int) * (bs : Int)) = ((0 + 2 * bs : Nat) : Int) := by rw [wrap_i64 (by omega) (by omega)]; omega
        have hle : n ≤ 2 * bs * n := by
          have : 1 * n ≤ 2 * bs * n := Nat.mul_le_mul_right n (by omega)
          omega
        obtain ⟨a', D', g1, g2, g3, g4⟩ := yi hN n bs (by omega) hb (by omega) n [] L 0 N rfl (by omega) (by omega) (by omega)
        rw [show ((0 : Nat) : Int) = 0 from rfl, List.nil_append] at g1
        rw [i2, g1, Option.bind_some]
        simp only
        have i3 : IntKind.wrap .i64 ((a' : Int) + (bs : Int)) = ((a' + bs : Nat) : Int) := by rw [wrap_i64 (by omega) (by omega)]; omega
        have i4 : IntKind.wrap .i64 ((bs : Int) * 2) = ((2 * bs : Nat) : Int) := by rw [wrap_i64 (by omega) (by omega)]; omega
        have hbk : blk (2 * bs) (2 * n) L = blk (2 * bs) n L := FD n (2 * n) L (by omega) (by omega)
        have ih' := ih (2 * bs) f (by rw [Nat.pow_succ] at ht; rw [Nat.mul_assoc, Nat.mul_left_comm, Nat.mul_comm 2]; exact ht) (by omega) (by omega) (by omega)
        rw [hbk] at ih'
        rw [i3, i4]
        by_cases hm : a' + bs < n
        · rw [bd (by omega), g3 hm, Option.bind_some, List.nil_append, ih', Option.bind_some]
        · rw [aY (by omega), g4 hm, List.nil_append, ih', Option.bind_some]
      · rw [aY (by omega)]
        congr 1
        cases n with
        | zero =>
          have : L = [] := List.eq_nil_of_length_eq_zero hL
          subst this
          rfl
        | succ n =>
          rw [show 2 * (n + 1) = 2 * n + 1 + 1 by omega, fb (by omega)]
theorem Nq {N : Nat} (hN : 100000 < N) (L : List aH) (hn : L.length ≤ 10000) : Gl N (0, L.length, L) = some (aN L) := by
  simp only [Gl, KC, ae]
  obtain ⟨a', P', R, g1, g2, g3, g4⟩ := DC hN L.length (by omega) (2 * L.length) [] L 0 N rfl (by omega) (by omega) (by omega)
  rw [show ((0 : Nat) : Int) = 0 from rfl, show ((0 + 20 : Nat) : Int) = 20 from rfl, List.nil_append] at g1
  rw [g1, Option.bind_some]
  simp only
  have hs := Au hN P' R [] L.length a' L.length (by omega) (by simp only [List.length_append, List.length_nil]; omega) g2 (by omega)
  rw [List.append_nil, List.append_nil, g4, List.nil_append] at hs
  rw [hs, Option.bind_some]
  have := Dz hN L.length (by omega) L rfl 10 20 N (by omega) (by decide) (by omega) (by omega)
  rw [show ((20 : Nat) : Int) = 20 from rfl] at this
  rw [this, Option.bind_some, Option.bind_some]
end Go.Proofs.YteddgkplkjldcaaGreat.Am
namespace Go.Proofs.YteddgkplkjldcaaGreat.Am
open Go.Am
theorem M9 {N : Nat} (k : Nat) (hk : k ≤ 1000000) : (∃ z, Na N (k : Int) = some (.inl z)) ∨ (Na N (k : Int) = some (.inr [])) := by
  simp only [Na, ae]
  have e : IntKind.wrap .i64 ((k : Int) - 0) = (k : Int) := by rw [wrap_i64 (by omega) (by omega)]; omega
  rw [e, aY (by omega)]
  by_cases h : 0 < k
  · rw [bd (by omega), bd (by omega), bd (by omega)]
    exact .inl ⟨_, rfl⟩
  · rw [aY (by omega)]
    exact .inr rfl
theorem RF {N : Nat} (k : Nat) (hk : k ≤ 1000000) : (∃ z, Y5 N (k : Int) = some (.inl z)) ∨ (Y5 N (k : Int) = some (.inr [])) := by
  simp only [Y5, ae]
  have e : IntKind.wrap .i64 ((k : Int) - 0) = (k : Int) := by rw [wrap_i64 (by omega) (by omega)]; omega
  rw [e, aY (by omega)]
  by_cases h : 0 < k
  · rw [bd (by omega), bd (by omega), bd (by omega)]
    exact .inl ⟨_, rfl⟩
  · rw [aY (by omega)]
    exact .inr rfl
theorem SE {N : Nat} (hN : 3 < N) (a b : List aH) (h : a.length + b.length ≤ 100000) : SF N [a, b] = some (a ++ b) := by
  obtain ⟨M, rfl⟩ : ∃ M, N = M + 3 := ⟨N - 3, by omega⟩
  have e1 : IntKind.wrap .i64 ((0 : Int) + (a.length : Int)) = (a.length : Int) := by rw [wrap_i64 (by omega) (by omega)]; omega
  have e2 : IntKind.wrap .i64 ((a.length : Int) + (b.length : Int)) = ((a.length + b.length : Nat) : Int) := by rw [wrap_i64 (by omega) (by omega)]; omega
  have h1 : i6 (M + 3) (M + 3) (0, 0, 2, [a, b]) = some (((a.length + b.length : Nat) : Int), [a, b]) := by
    simp only [i6, D5, ae]
    rw [if_pos (by decide), if_pos (by rfl)]
    simp only [Int.toNat_zero, List.getElem?_cons_zero, Option.bind_some]
    rw [e1, aY (by omega)]
    rw [show IntKind.wrap .i64 ((0 : Int) + 1) = 1 from by decide +kernel]
    rw [if_pos (by decide), if_pos (by rfl)]
    simp only [show Int.toNat 1 = 1 from rfl, List.getElem?_cons_succ, List.getElem?_cons_zero, Option.bind_some]
    rw [e2, aY (by omega)]
    rw [show IntKind.wrap .i64 ((1 : Int) + 1) = 2 from by decide +kernel]
    rw [if_neg (by decide)]
    rfl
  have h2 : fX (M + 3) (M + 3) (0, 2, [], [a, b]) = some (a ++ b) := by
    simp only [fX, yA, ae]
    rw [if_pos (by decide), if_pos (by rfl)]
    simp only [Int.toNat_zero, List.getElem?_cons_zero, Option.bind_some]
    rw [if_pos (by simp only [decide_eq_true_eq, List.length_nil]; omega)]
    rw [show IntKind.wrap .i64 ((0 : Int) + 1) = 1 from by decide +kernel]
    rw [if_pos (by decide), if_pos (by rfl)]
    simp only [show Int.toNat 1 = 1 from rfl, List.getElem?_cons_succ, List.getElem?_cons_zero, Option.bind_some, List.nil_append]
    rw [bd (by omega)]
    rw [show IntKind.wrap .i64 ((1 : Int) + 1) = 2 from by decide +kernel]
    rw [if_neg (by decide)]
    rfl
  simp only [SF]
  have el : ((([a, b] : List (List aH)).length : Nat) : Int) = 2 := rfl
  rw [el, h1, Option.bind_some]
  simp only
  rcases M9 (N := M + 3) (a.length + b.length) (by omega) with ⟨z, hz⟩ | hz
  · rw [hz, Option.bind_some]
    simp only
    rw [el, h2, Option.bind_some]
  · rw [hz, Option.bind_some]
    simp only
    rw [el, h2, Option.bind_some]
theorem Kx {N : Nat} (hN : 3 < N) (a b : List Int) (h : a.length + b.length ≤ 100000) : Za N [a, b] = some (a ++ b) := by
  obtain ⟨M, rfl⟩ : ∃ M, N = M + 3 := ⟨N - 3, by omega⟩
  have e1 : IntKind.wrap .i64 ((0 : Int) + (a.length : Int)) = (a.length : Int) := by rw [wrap_i64 (by omega) (by omega)]; omega
  have e2 : IntKind.wrap .i64 ((a.length : Int) + (b.length : Int)) = ((a.length + b.length : Nat) : Int) := by rw [wrap_i64 (by omega) (by omega)]; omega
  have h1 : mK (M + 3) (M + 3) (0, 0, 2, [a, b], [a, b]) = some (((a.length + b.length : Nat) : Int), [a, b]) := by
    simp only [mK, JF, ae]
    rw [if_pos (by decide), if_pos (by rfl)]
    simp only [Int.toNat_zero, List.getElem?_cons_zero, Option.bind_some]
    rw [e1, aY (by omega)]
    rw [show IntKind.wrap .i64 ((0 : Int) + 1) = 1 from by decide +kernel]
    rw [if_pos (by decide), if_pos (by rfl)]
    simp only [show Int.toNat 1 = 1 from rfl, List.getElem?_cons_succ, List.getElem?_cons_zero, Option.bind_some]
    rw [e2, aY (by omega)]
    rw [show IntKind.wrap .i64 ((1 : Int) + 1) = 2 from by decide +kernel]
    rw [if_neg (by decide)]
    rfl
  have h2 : iU (M + 3) (M + 3) (0, 2, [a, b], []) = some (a ++ b) := by
    simp only [iU, DW, ae]
    rw [if_pos (by decide), if_pos (by rfl)]
    simp only [Int.toNat_zero, List.getElem?_cons_zero, Option.bind_some]
    rw [if_pos (by simp only [decide_eq_true_eq, List.length_nil]; omega)]
    rw [show IntKind.wrap .i64 ((0 : Int) + 1) = 1 from by decide +kernel]
    rw [if_pos (by decide), if_pos (by rfl)]
    simp only [show Int.toNat 1 = 1 from rfl, List.getElem?_cons_succ, List.getElem?_cons_zero, Option.bind_some, List.nil_append]
    rw [bd (by omega)]
    rw [show IntKind.wrap .i64 ((1 : Int) + 1) = 2 from by decide +kernel]
    rw [if_neg (by decide)]
    rfl
  simp only [Za]
  have el : ((([a, b] : List (List Int)).length : Nat) : Int) = 2 := rfl
  rw [el, h1, Option.bind_some]
  simp only
  rcases RF (N := M + 3) (a.length + b.length) (by omega) with ⟨z, hz⟩ | hz
  · rw [hz, Option.bind_some]
    simp only
    rw [el, h2, Option.bind_some]
  · rw [hz, Option.bind_some]
    simp only
    rw [el, h2, Option.bind_some]
theorem xU {N : Nat} (hN : 100000 < N) (a b : List aH) (h : a.length + b.length ≤ 10000) : Y4 N (a, b) = some (aN (a ++ b)) := by
  simp only [Y4]
  rw [SE (by omega) a b (by omega), Option.bind_some, Nq hN (a ++ b) (by rw [List.length_append]; omega), Option.bind_some]
theorem RD {N : Nat} (hN : 3 < N) (L : List aH) (hL : L.length ≤ 10000) (hw : ∀ x ∈ L, 0 ≤ x.1 ∧ x.1 ≤ 1000000000000000) (hs : ∀ x ∈ L, x.2.1.length ≤ 50000) : ∀ (d i f : Nat), L.length ≤ i + 2 * d → 2 * (i / 2) = i → d < f → i ≤ L.length + 1 →
    mF N f ((i : Int), L, aD (L.take i)) = some (aD L) := by
  intro d
  induction d with
  | zero =>
    intro i f hd he hf hi
    cases f with
    | zero => omega
    | succ f =>
      simp only [mF, DL, ae]
      rw [wrap_i64 (by omega) (by omega), aY (by omega), List.take_of_length_le (by omega)]
  | succ d ih =>
    intro i f hd he hf hi
    cases f with
    | zero => omega
    | succ f =>
      simp only [mF, DL, ae]
      have i1 : IntKind.wrap .i64 ((i : Int) + 1) = ((i + 1 : Nat) : Int) := by rw [wrap_i64 (by omega) (by omega)]; omega
      have i2 : IntKind.wrap .i64 ((i : Int) + 2) = ((i + 2 : Nat) : Int) := by rw [wrap_i64 (by omega) (by omega)]; omega
      rw [i1]
      by_cases h : i + 1 < L.length
      · have hp := d7 (L.take i)
        rw [List.length_take, Nat.min_eq_left (by omega)] at hp
        have g1 : L[i]? = some L[i] := List.getElem?_eq_getElem (by omega)
        have g2 : L[i + 1]? = some L[i + 1] := List.getElem?_eq_getElem h
        obtain ⟨w1, w2⟩ := hw L[i] (List.getElem_mem _)
        obtain ⟨w3, w4⟩ := hw L[i + 1] (List.getElem_mem _)
        have s1 := hs L[i] (List.getElem_mem _)
        have s2 := hs L[i + 1] (List.getElem_mem _)
        rw [bd (by omega)]
        simp only [wi (show i < L.length by omega), wi h, if_true, Int.toNat_natCast, g1, g2, Option.bind_some, i2]
        rw [Kx hN _ _ (by omega), Option.bind_some, wrap_i64 (by omega) (by omega), if_pos (by simp only [decide_eq_true_eq, List.length_singleton]; omega)]
        have et : aD (L.take i) ++ [(L[i].1 + L[i + 1].1, L[i].2.1 ++ L[i + 1].2.1, ())] = aD (L.take (i + 2)) := by
          have e : ∀ (p : Nat) (A : List aH), A.length = 2 * p → ∀ x y : aH, aD (A ++ [x, y]) = aD A ++ [(x.1 + y.1, x.2.1 ++ y.2.1, ())] := by
            intro p
            induction p with
            | zero =>
              intro A hA x y
              have : A = [] := List.eq_nil_of_length_eq_zero (by omega)
              subst this
              rfl
            | succ p ih =>
              intro A hA x y
              match A, hA with
              | a :: b :: A, hA =>
                rw [List.cons_append, List.cons_append, aD, ih A (by simp at hA; omega) x y, aD]
                rfl
          rw [← e (i / 2) (L.take i) (by rw [List.length_take]; omega)]
          congr 1
          have t1 : L.take (i + 1) = L.take i ++ [L[i]] := by rw [List.take_add_one, g1]; rfl
          have t2 : L.take (i + 2) = L.take (i + 1) ++ [L[i + 1]] := by rw [show i + 2 = i + 1 + 1 by omega, List.take_add_one, g2]; rfl
          rw [t2, t1, List.append_assoc]
          rfl
        rw [et, ih (i + 2) f (by omega) (by omega) (by omega) (by omega), Option.bind_some]
      · rw [aY (by omega)]
        congr 1
        by_cases h1 : L.length ≤ i
        · rw [List.take_of_length_le h1]
        · have hi1 : i < L.length := by omega
          have : aD L = (aD L).take (i / 2) := by rw [List.take_of_length_le]; rw [d7]; omega
          rw [this, kw, he]
theorem ME {N : Nat} (hN : 10000 < N) (L : List aH) (hL : L.length ≤ 10000) (hw : ∀ x ∈ L, 0 ≤ x.1 ∧ x.1 ≤ 1000000000000000) (hs : ∀ x ∈ L, x.2.1.length ≤ 50000) : F95 N L = some (aD L) := by
  simp only [F95]
  have := RD (N := N) (by omega) L hL hw hs L.length 0 N (by omega) (by omega) (by omega) (by omega)
  rw [List.take_zero, show ((0 : Nat) : Int) = 0 from rfl, show aD [] = [] from rfl] at this
  rw [this, Option.bind_some]
theorem Pr {fr : List Int} (h : okF fr = true) {i : Nat} (hi : i < fr.length) : 0 ≤ fr.getD i 0 ∧ fr.getD i 0 ≤ 1073741824 := by
  unfold okF at h
  have := List.all_eq_true.1 h (fr[i]) (List.getElem_mem hi)
  rw [Bool.and_eq_true, decide_eq_true_eq, decide_eq_true_eq] at this
  rw [List.getD, List.getElem?_eq_getElem hi]
  exact this
theorem ae2 {a : List Int} {i : Nat} (h : i < a.length) : a[i]? = some (a.getD i 0) := by
  rw [List.getD, List.getElem?_eq_getElem h]; rfl
theorem RE (N : Nat) (fr : List Int) (hl : fr.length ≤ 1000) : ∀ (d i f : Nat), i + d = fr.length → d < f →
    ((∀ j, i ≤ j → j < fr.length → 0 ≤ fr.getD j 0 ∧ fr.getD j 0 ≤ 1073741824) → kR N f ((fr.length : Int), fr, (i : Int), ay fr i) = some (.inr (ay fr fr.length))) ∧
    ((∃ j, i ≤ j ∧ j < fr.length ∧ ¬ (0 ≤ fr.getD j 0 ∧ fr.getD j 0 ≤ 1073741824)) → kR N f ((fr.length : Int), fr, (i : Int), ay fr i) = some (.inl (1, []))) := by
  intro d
  induction d with
  | zero =>
    intro i f hi hf
    cases f with
    | zero => omega
    | succ f =>
      simp only [kR, DN, ae]
      rw [aY (by omega), show i = fr.length by omega]
      exact ⟨fun _ => rfl, fun ⟨j, h1, h2, _⟩ => by omega⟩
  | succ d ih =>
    intro i f hi hf
    cases f with
    | zero => omega
    | succ f =>
      obtain ⟨ih1, ih2⟩ := ih (i + 1) f (by omega) (by omega)
      have hil : i < fr.length := by omega
      have i1 : IntKind.wrap .i64 ((i : Int) + 1) = ((i + 1 : Nat) : Int) := by rw [wrap_i64 (by omega) (by omega)]; omega
      have hcl := fO fr i
      simp only [kR, DN, ae]
      rw [bd (by omega)]
      simp only [wi hil, if_true, Int.toNat_natCast, ae2 hil, Option.bind_some, i1]
      by_cases h1 : fr.getD i 0 < 0
      · rw [if_pos (by simpa using h1)]
        exact ⟨fun h => by have := h i (Nat.le_refl _) hil; omega, fun _ => rfl⟩
      rw [if_neg (by simpa using h1)]
      by_cases h2 : fr.getD i 0 > 1073741824
      · rw [if_pos (by simpa using h2)]
        exact ⟨fun h => by have := h i (Nat.le_refl _) hil; omega, fun _ => rfl⟩
      rw [if_neg (by simpa using h2)]
      have hex : (∃ j, i ≤ j ∧ j < fr.length ∧ ¬ (0 ≤ fr.getD j 0 ∧ fr.getD j 0 ≤ 1073741824)) → ∃ j, i + 1 ≤ j ∧ j < fr.length ∧ ¬ (0 ≤ fr.getD j 0 ∧ fr.getD j 0 ≤ 1073741824) := by
        rintro ⟨j, q1, q2, q3⟩
        refine ⟨j, ?_, q2, q3⟩
        by_cases e : j = i
        · subst e; omega
        · omega
      by_cases h3 : 0 < fr.getD i 0
      · have e : ay fr (i + 1) = ay fr i ++ [(fr.getD i 0, [(i : Int)], ())] := by rw [ay, if_pos h3]
        rw [if_pos (by simpa using h3), if_pos (by simp only [decide_eq_true_eq, List.length_singleton]; omega), ← e]
        exact ⟨fun h => by rw [ih1 fun j q1 q2 => h j (by omega) q2]; rfl, fun h => by rw [ih2 (hex h)]; rfl⟩
      · have e : ay fr (i + 1) = ay fr i := by rw [ay, if_neg h3]
        rw [if_neg (by simpa using h3), ← e]
        exact ⟨fun h => by rw [ih1 fun j q1 q2 => h j (by omega) q2]; rfl, fun h => by rw [ih2 (hex h)]; rfl⟩
theorem MF {N : Nat} (hN : 100000 < N) (fr : List Int) (hl : fr.length ≤ 1000) : F93 N fr = some (if okF fr = true then .inr (aN (ay fr fr.length), 0) else .inl (1, [])) := by
  simp only [F93]
  obtain ⟨h1, h2⟩ := RE N fr hl fr.length 0 N (by omega) (by omega)
  rw [show ((0 : Nat) : Int) = 0 from rfl, show ay fr 0 = [] from rfl] at h1 h2
  cases ho : okF fr with
  | true =>
    rw [h1 fun j _ hj => Pr ho hj, Option.bind_some]
    have hcl := fO fr fr.length
    simp only [if_true]
    rw [xU hN _ _ (by simp; omega), Option.bind_some, List.append_nil]
  | false =>
    have : ∃ j, 0 ≤ j ∧ j < fr.length ∧ ¬ (0 ≤ fr.getD j 0 ∧ fr.getD j 0 ≤ 1073741824) := by
      refine Classical.byContradiction fun hn => ?_
      have : okF fr = true := by
        unfold okF
        rw [List.all_eq_true]
        intro x hx
        obtain ⟨j, hj, e⟩ := List.getElem_of_mem hx
        have hg : fr.getD j 0 = x := by rw [List.getD, List.getElem?_eq_getElem hj, ← e]; rfl
        rw [Bool.and_eq_true, decide_eq_true_eq, decide_eq_true_eq]
        refine Classical.byContradiction fun hh => hn ⟨j, Nat.zero_le _, hj, ?_⟩
        rw [hg]; exact hh
      rw [ho] at this; cases this
    rw [h2 this, Option.bind_some]
    rfl
theorem yJ {l : List aH} {w : Nat} (h : ∀ x ∈ l, x.2.1.length ≤ w) : ∀ z ∈ aD l, z.2.1.length ≤ 2 * w := by
  intro z hz
  have key : ∀ (l : List aH), (∀ x ∈ l, x.2.1.length ≤ w) → z ∈ aD l → z.2.1.length ≤ 2 * w := by
    intro l
    induction l using aD.induct with
    | case1 x y l ih =>
      intro h hz
      rw [aD] at hz
      rcases List.mem_cons.1 hz with rfl | hz
      · have h1 := h x (by simp)
        have h2 := h y (by simp)
        simp only [List.length_append]
        omega
      · exact ih (fun a ha => h a (by simp [ha])) hz
    | case2 l hl =>
      intro h hz
      match l, hl with
      | [], _ => cases hz
      | [x], _ => cases hz
      | x :: y :: l, hl => exact absurd rfl (hl x y l)
  exact key l h hz
theorem ko {l : List aH} (h : ∀ x ∈ l, x.2.1.length ≤ 1) : ∀ k, ∀ x ∈ aW l k, x.2.1.length ≤ 2 ^ k
  | 0 => h
  | k + 1 => fun x hx => by
    rcases List.mem_append.1 ((dm _ _).mem_iff.1 hx) with hx | hx
    · have := h x hx
      have hp : 1 ≤ 2 ^ (k + 1) := Nat.one_le_two_pow
      omega
    · have := yJ (ko h k) x hx
      rw [Nat.pow_succ]; omega
theorem RR {N : Nat} (hN : 100000 < N) {l : List aH} (hs : mj l) (hl : l.length ≤ 320) (hw : ∀ x ∈ l, 0 ≤ x.1 ∧ x.1 ≤ 1073741824) (h1 : ∀ x ∈ l, x.2.1.length ≤ 1) (out : List Int) (m : Nat) (hm : m ≤ 14) : ∀ (d k f : Nat), k + d = m → d < f →
    cb N f (aW l k, (k : Int), (m : Int), l, out) = some (aW l m, l, out) := by
  intro d
  induction d with
  | zero =>
    intro k f hk hf
    cases f with
    | zero => omega
    | succ f =>
      simp only [cb, qD, ae]
      rw [aY (by omega), show k = m by omega]
  | succ d ih =>
    intro k f hk hf
    cases f with
    | zero => omega
    | succ f =>
      have i1 : IntKind.wrap .i64 ((k : Int) + 1) = ((k + 1 : Nat) : Int) := by rw [wrap_i64 (by omega) (by omega)]; omega
      have hlen := sH l k
      have hp : (2 : Nat) ^ k ≤ 2 ^ 14 := Nat.pow_le_pow_right (by decide) (by omega)
      have hp2 : (2 : Int) ^ k ≤ 16384 := by
        have : ((2 ^ k : Nat) : Int) ≤ ((2 ^ 14 : Nat) : Int) := Int.ofNat_le.2 hp
        simpa using this
      simp only [cb, qD, ae]
      rw [bd (by omega), ME (by omega) _ (by omega) (fun x hx => by
        have := uV hw k x hx
        have h3 : (1073741824 : Int) * 2 ^ k ≤ 1073741824 * 16384 := Int.mul_le_mul_of_nonneg_left hp2 (by decide)
        omega) (fun x hx => by
        have := ko h1 k x hx
        omega), Option.bind_some, xU hN _ _ (by rw [d7]; omega), Option.bind_some, LS hs, i1, ih (k + 1) f (by omega) (by omega), Option.bind_some]
theorem MO (N n : Nat) (x2 : List aH) (x3 x4 : Int) (C : List Int) (hC : C.length ≤ 50000) (hC2 : ∀ s ∈ C, ∃ j : Nat, j < n ∧ s = (j : Int)) (S0 : List Int) (hS : S0.length + C.length ≤ 1000000) : ∀ (d i f : Nat), i + d = C.length → d < f →
    cd N f ((i : Int), (C.length : Int), x2, x3, x4, C, fP n (S0 ++ C.take i)) = some (x4, x3, x2, fP n (S0 ++ C)) := by
  intro d
  induction d with
  | zero =>
    intro i f hi hf
    cases f with
    | zero => omega
    | succ f =>
      simp only [cd, je, ae]
      rw [aY (by omega), List.take_of_length_le (by omega)]
  | succ d ih =>
    intro i f hi hf
    cases f with
    | zero => omega
    | succ f =>
      have hil : i < C.length := by omega
      have i1 : IntKind.wrap .i64 ((i : Int) + 1) = ((i + 1 : Nat) : Int) := by rw [wrap_i64 (by omega) (by omega)]; omega
      have hg : C[i]? = some C[i] := List.getElem?_eq_getElem hil
      obtain ⟨j, hj, ej⟩ := hC2 C[i] (List.getElem_mem hil)
      have hcl := eE n (S0 ++ C.take i)
      have hcnt : (S0 ++ C.take i).count (j : Int) ≤ 1000000 := Nat.le_trans List.count_le_length (by rw [List.length_append, List.length_take]; omega)
      have ih' := ih (i + 1) f (by omega) (by omega)
      have et : S0 ++ C.take (i + 1) = (S0 ++ C.take i) ++ [(j : Int)] := by rw [List.take_add_one, hg, ← ej]; simp
      rw [et] at ih'
      simp only [cd, je, ae]
      rw [bd (by omega)]
      simp only [wi hil, if_true, Int.toNat_natCast, hg, Option.bind_some, i1, ej, hcl, wi hj, jU n _ hj]
      rw [wrap_i64 (by omega) (by omega), rr n _ hj, ih', Option.bind_some]
theorem MN {N : Nat} (hN : 100000 < N) (n : Nat) (T : List aH) (hT : T.length ≤ 1000) (hs : ∀ x ∈ T, x.2.1.length ≤ 50000 ∧ ∀ s ∈ x.2.1, ∃ j : Nat, j < n ∧ s = (j : Int)) (htot : (bn T).length ≤ 900000) : ∀ (d i f : Nat), i + d = T.length → d < f →
    du N f ((T.length : Int), T, (i : Int), fP n (bn (T.take i))) = some (fP n (bn T)) := by
  intro d
  induction d with
  | zero =>
    intro i f hi hf
    cases f with
    | zero => omega
    | succ f =>
      simp only [du, qC, ae]
      rw [aY (by omega), List.take_of_length_le (by omega)]
  | succ d ih =>
    intro i f hi hf
    cases f with
    | zero => omega
    | succ f =>
      have hil : i < T.length := by omega
      have i1 : IntKind.wrap .i64 ((i : Int) + 1) = ((i + 1 : Nat) : Int) := by rw [wrap_i64 (by omega) (by omega)]; omega
      have hg : T[i]? = some T[i] := List.getElem?_eq_getElem hil
      obtain ⟨s1, s2⟩ := hs T[i] (List.getElem_mem hil)
      have hsplit : bn T = bn (T.take i) ++ bn (T.drop i) := by rw [← iI, List.take_append_drop]
      have hle : (bn (T.take i)).length ≤ 900000 := by
        have := congrArg List.length hsplit
        rw [List.length_append] at this
        omega
      have hin := MO N n T (T.length : Int) (i : Int) T[i].2.1 s1 s2 (bn (T.take i)) (by omega) T[i].2.1.length 0 N (by omega) (by omega)
      rw [List.take_zero, List.append_nil, show ((0 : Nat) : Int) = 0 from rfl] at hin
      have et : bn (T.take i) ++ T[i].2.1 = bn (T.take (i + 1)) := by
        rw [List.take_add_one, hg, iI]
        simp [bn]
      rw [et] at hin
      simp only [du, qC, ae]
      rw [bd (by omega)]
      simp only [wi hil, if_true, Int.toNat_natCast, hg, Option.bind_some]
      rw [hin, Option.bind_some]
      simp only
      rw [i1, ih (i + 1) f (by omega) (by omega), Option.bind_some]
end Go.Proofs.YteddgkplkjldcaaGreat.Am
namespace Go.Proofs.YteddgkplkjldcaaGreat.Am
open Go.Am
theorem pF {l : List aH} {Q : Int → Prop} (h : ∀ x ∈ l, ∀ s ∈ x.2.1, Q s) : ∀ k, ∀ x ∈ aW l k, ∀ s ∈ x.2.1, Q s
  | 0 => h
  | k + 1 => fun x hx => by
    rcases List.mem_append.1 ((dm _ _).mem_iff.1 hx) with hx | hx
    · exact h x hx
    · have key : ∀ (l : List aH), (∀ x ∈ l, ∀ s ∈ x.2.1, Q s) → x ∈ aD l → ∀ s ∈ x.2.1, Q s := by
        intro l
        induction l using aD.induct with
        | case1 a b l ih =>
          intro h hz
          rw [aD] at hz
          rcases List.mem_cons.1 hz with rfl | hz
          · intro s hs
            rcases List.mem_append.1 hs with hs | hs
            · exact h a (by simp) s hs
            · exact h b (by simp) s hs
          · exact ih (fun y hy => h y (by simp [hy])) hz
        | case2 l hl =>
          intro h hz
          match l, hl with
          | [], _ => cases hz
          | [a], _ => cases hz
          | a :: b :: l, hl => exact absurd rfl (hl a b l)
      exact key _ (pF h k) hx
theorem Fe {l : List aH} (h1 : ∀ x ∈ l, ∃ s, x.2.1 = [s]) : ∀ lv : List Nat, (lv.flatMap fun c => bn (l.take c)).length ≤ lv.length * l.length
  | [] => by simp
  | c :: lv => by
    have ih := Fe h1 lv
    obtain ⟨e1, e2⟩ := dZ h1
    rw [List.flatMap_cons, List.length_append, e2 c, List.length_take, e1, List.length_cons, Nat.succ_mul]
    omega
theorem VD (k : Nat) : ((2 ^ k : Nat) : Int) = (2 : Int) ^ k := by simp
theorem ya (fr : List Int) (most : Int) : Y9 200000 (fr, most) = some (lU fr most) := by
  unfold lU
  simp only [Y9, ae]
  by_cases h1 : 320 < fr.length
  · rw [bd (by omega), if_pos (.inl h1)]
  rw [aY (by omega)]
  by_cases h2 : most < 1
  · rw [if_pos (by simpa using h2), if_pos (.inr (.inl h2))]
  rw [if_neg (by simpa using h2)]
  by_cases h3 : 15 < most
  · rw [if_pos (by simpa using h3), if_pos (.inr (.inr (.inl h3)))]
  rw [if_neg (by simpa using h3), MF (by decide) fr (by omega), Option.bind_some]
  cases ho : okF fr with
  | false =>
    simp only [Bool.false_eq_true, if_false]
    rw [if_pos (show ((1 : Int) != 0) = true by decide), if_pos (.inr (.inr (.inr trivial)))]
  | true =>
    simp only [if_true]
    rw [if_neg (show ¬ (320 < fr.length ∨ most < 1 ∨ 15 < most ∨ true = false) by simp; omega)]
    have hco := qb fr
    have hp := eZ (ay fr fr.length)
    have hlen := a7 (ay fr fr.length)
    have hcl := fO fr fr.length
    have hin : ∀ x ∈ aN (ay fr fr.length), (0 ≤ x.1 ∧ x.1 ≤ 1073741824) ∧ ∃ j : Nat, j < fr.length ∧ x.2.1 = [(j : Int)] := fun x hx => by
      obtain ⟨j, j1, j2, e⟩ := fM fr _ x (hp.mem_iff.1 hx)
      have := Pr ho j1
      rw [e]
      exact ⟨this, j, j1, rfl⟩
    rw [← hlen]
    generalize aN (ay fr fr.length) = l at *
    obtain ⟨m, hm⟩ : ∃ m : Nat, most = (m : Int) := ⟨most.toNat, by omega⟩
    subst hm
    have hm15 : m ≤ 15 := by omega
    have hp15 : 2 ^ m ≤ 2 ^ 15 := Nat.pow_le_pow_right (by decide) hm15
    have ew : IntKind.wrap .i64 ((1 : Int) * 2 ^ min (Int.toNat (m : Int)) 64) = ((2 ^ m : Nat) : Int) := by
      rw [Int.toNat_natCast, Nat.min_eq_left (by omega), Int.one_mul, ← VD]
      generalize 2 ^ m = q at *
      exact wrap_i64 (by omega) (by omega)
    have hpw : ∃ q, q = 2 ^ m := ⟨_, rfl⟩
    obtain ⟨q, hq⟩ := hpw
    rw [← hq] at ew hp15
    rw [if_neg (show ¬ ((0 : Int) != 0) = true by decide), if_neg (show ¬ decide ((m : Int) < 0) = true by simp only [decide_eq_true_eq]; omega), ew]
    simp only [Int.toNat_natCast]
    rw [← hq]
    by_cases h4 : q < l.length
    · rw [bd (by omega), if_pos h4]
    rw [aY (by omega), if_neg h4, bd (by omega)]
    by_cases h5 : l.length = 1
    · obtain ⟨x, rfl⟩ := List.length_eq_one_iff.1 h5
      obtain ⟨_, j, hj, ex⟩ := hin x (List.mem_singleton_self _)
      rw [if_pos (by simp), if_pos (by rfl), List.getElem?_cons_zero, Option.bind_some, ex, if_pos (by rfl), List.getElem?_cons_zero, Option.bind_some, List.length_replicate, if_pos (wi hj), Int.toNat_natCast, List.getElem?_replicate, if_pos hj, Option.bind_some, if_pos (by simp)]
      have hc := rr fr.length [] hj
      rw [qd] at hc
      have e : bW [x] m = [(j : Int)] := by
        unfold bW
        rw [if_pos h5]
        simp [bn, ex]
      rw [e]
      exact congrArg (fun z => some ((0 : Int), z)) hc
    · rw [if_neg (by simp only [beq_iff_eq]; omega)]
      by_cases h6 : l.length < 2
      · rw [bd (by omega)]
        unfold bW
        rw [if_neg h5, if_pos h6, qd]
      · rw [aY (by omega)]
        obtain ⟨K, rfl⟩ : ∃ K, m = K + 1 := ⟨m - 1, by omega⟩
        have i1 : IntKind.wrap .i64 (((K + 1 : Nat) : Int) - 1) = (K : Int) := by rw [wrap_i64 (by omega) (by omega)]; omega
        have h1' : ∀ x ∈ l, x.2.1.length ≤ 1 := fun x hx => by
          obtain ⟨_, j, _, e⟩ := hin x hx
          rw [e]; exact Nat.le_refl _
        have hr := RR (N := 200000) (by decide) hco.srt (by omega) (fun x hx => (hin x hx).1) h1' (List.replicate fr.length 0) K (by omega) K 0 200000 (by omega) (by omega)
        have hr' : cb 200000 200000 (l, 0, (K : Int), l, List.replicate fr.length 0) = some (aW l K, l, List.replicate fr.length 0) := hr
        have hen := fD l (k := K) (by omega)
        have i2 : IntKind.wrap .i64 (IntKind.wrap .i64 ((2 : Int) * (l.length : Int)) - 2) = ((2 * l.length - 2 : Nat) : Int) := by
          rw [wrap_i64 (z := (2 : Int) * (l.length : Int)) (by omega) (by omega), wrap_i64 (by omega) (by omega)]; omega
        rw [i1, hr', Option.bind_some]
        simp only
        rw [i2, bd (by omega), Int.toNat_natCast, Nat.sub_zero, List.drop_zero]
        have hall : ∀ x ∈ aW l K, ∀ s ∈ x.2.1, ∃ j : Nat, j < fr.length ∧ s = (j : Int) := pF (Q := fun s => ∃ j : Nat, j < fr.length ∧ s = (j : Int)) (fun x hx s hs => by
          obtain ⟨_, j, hj, e⟩ := hin x hx
          rw [e] at hs
          exact ⟨j, hj, List.mem_singleton.1 hs⟩) K
        have hp14 : (2 : Nat) ^ K ≤ 2 ^ 14 := Nat.pow_le_pow_right (by decide) (by omega)
        have htot : (bn ((aW l K).take (2 * l.length - 2))).length ≤ 900000 := by
          have hs := (uR (l := l) K (2 * l.length - 2) hen).1.length_eq
          have hf := Fe hco.one (pB l K (2 * l.length - 2))
          rw [pz] at hf
          have : (K + 1) * l.length ≤ 15 * 320 := Nat.mul_le_mul (by omega) (by omega)
          omega
        have ho := MN (N := 200000) (by decide) fr.length ((aW l K).take (2 * l.length - 2)) (by rw [List.length_take]; omega) (fun x hx => ⟨by
          have := ko h1' K x (List.mem_of_mem_take hx)
          omega, hall x (List.mem_of_mem_take hx)⟩) htot ((aW l K).take (2 * l.length - 2)).length 0 200000 (by omega) (by rw [List.length_take]; omega)
        rw [List.take_zero, show bn [] = [] from rfl, qd, show ((0 : Nat) : Int) = 0 from rfl] at ho
        rw [ho, Option.bind_some]
        unfold bW
        rw [if_neg h5, if_neg h6, Nat.add_sub_cancel]
end Go.Proofs.YteddgkplkjldcaaGreat.Am
namespace Go.Proofs.YteddgkplkjldcaaGreat.Am
open Go.Am
theorem Ed (g : Nat → Nat) : ∀ L : List Nat, dU (L.map fun (i : Nat) => ((g i : Nat) : Int)) = (((L.map fun i => S5 (g i)).sum : Nat) : Int)
  | [] => rfl
  | x :: L => by
    rw [List.map_cons, dU, Ed g L, List.map_cons, List.sum_cons, Int.natCast_add]
    congr 1
    unfold S5
    by_cases h : 0 < g x
    · rw [if_pos (by omega), if_pos h, show (15 - ((g x : Nat) : Int)).toNat = 15 - g x by omega, VD]
    · rw [if_neg (by omega), if_neg h]; rfl
theorem Qy {fr : List Int} (hl : fr.length ≤ 320) {m : Nat} (hm : 1 ≤ m) (hm2 : m ≤ 15) (hn : (aN (ay fr fr.length)).length ≤ 2 ^ m) :
    chk (fP fr.length (bW (aN (ay fr fr.length)) m)) = (if 2 ≤ (aN (ay fr fr.length)).length then 0 else if (aN (ay fr fr.length)).length = 1 then 16384 else 32768, 0) := by
  obtain ⟨p1, p2, p3⟩ := u6 (qb fr) hm hm2 hn
  have hb : okB (fP fr.length (bW (aN (ay fr fr.length)) m)) = true := by
    unfold okB
    rw [List.all_eq_true]
    intro x hx
    obtain ⟨i, _, rfl⟩ := List.mem_map.1 hx
    rw [Bool.and_eq_true, decide_eq_true_eq, decide_eq_true_eq]
    by_cases h : ((i : Int) ∈ bn (aN (ay fr fr.length)))
    · have := p1 _ h; omega
    · rw [p2 _ h]; omega
  have hr := LU hm hm2 hn
  have ht := pW (fP fr.length (bW (aN (ay fr fr.length)) m)) 15 (Nat.le_refl _)
  rw [gZ _ hb] at ht
  have htk : dU (fP fr.length (bW (aN (ay fr fr.length)) m)) = _ := Ed (fun i => (bW (aN (ay fr fr.length)) m).count (i : Int)) (List.range fr.length)
  rw [htk, hr] at ht
  have hok : yL (fP fr.length (bW (aN (ay fr fr.length)) m)) = true := by
    unfold yL
    rw [hb, eE, decide_eq_true hl]
    rfl
  have e0 : lf (fP fr.length (bW (aN (ay fr fr.length)) m)) 15 * 2 ^ (15 - 15) = lf (fP fr.length (bW (aN (ay fr fr.length)) m)) 15 := by simp
  rw [e0] at ht
  unfold chk
  rw [hok]
  generalize (aN (ay fr fr.length)).length = n at *
  by_cases h2 : 2 ≤ n
  · rw [if_pos h2] at ht ⊢
    rw [ht, if_pos ⟨rfl, by decide⟩]
    rfl
  · rw [if_neg h2] at ht ⊢
    by_cases h1 : n = 1
    · rw [if_pos h1] at ht ⊢
      rw [ht, if_pos ⟨rfl, by decide⟩]
      rfl
    · rw [if_neg h1] at ht ⊢
      rw [ht, if_pos ⟨rfl, by decide⟩]
      rfl
end Go.Proofs.YteddgkplkjldcaaGreat.Am
namespace Go.Proofs.YteddgkplkjldcaaGreat.Am
open Go.Am
abbrev wn := Int × (Int × (Int × Unit))
def pE (L : List Int) (i most : Nat) : Nat → Nat → Nat
  | 0, n => n
  | d + 1, n => if n < most ∧ i + n < L.length ∧ L.getD (i + n) 0 = L.getD i 0 then pE L i most d (n + 1) else n
theorem Ha (L : List Int) (i most : Nat) : ∀ (d n : Nat), n ≤ most → i + n ≤ L.length → (∀ k, k < n → L.getD (i + k) 0 = L.getD i 0) →
    n ≤ pE L i most d n ∧ pE L i most d n ≤ most ∧ i + pE L i most d n ≤ L.length ∧ ∀ k, k < pE L i most d n → L.getD (i + k) 0 = L.getD i 0 := by
  intro d
  induction d with
  | zero => intro n h1 h2 h3; exact ⟨Nat.le_refl _, h1, h2, h3⟩
  | succ d ih =>
    intro n h1 h2 h3
    unfold pE
    by_cases h : n < most ∧ i + n < L.length ∧ L.getD (i + n) 0 = L.getD i 0
    · rw [if_pos h]
      obtain ⟨a, b, c, e⟩ := ih (n + 1) (by omega) (by omega) fun k hk => by
        by_cases hkn : k < n
        · exact h3 k hkn
        · rw [show k = n by omega]; exact h.2.2
      exact ⟨by omega, b, c, e⟩
    · rw [if_neg h]
      exact ⟨Nat.le_refl _, h1, h2, h3⟩
def runN (L : List Int) (i : Nat) : Nat := pE L i 138 138 1
theorem zH {L : List Int} {i : Nat} (hi : i < L.length) : 1 ≤ runN L i ∧ runN L i ≤ 138 ∧ i + runN L i ≤ L.length ∧ ∀ k, k < runN L i → L.getD (i + k) 0 = L.getD i 0 :=
  Ha L i 138 138 1 (by omega) (by omega) fun k hk => by rw [show k = 0 by omega]; rfl
def j8 (L : List Int) (i : Nat) : wn × Nat :=
  if L.getD i 0 = 0 ∧ 10 < runN L i then ((18, 7, ((runN L i : Nat) : Int) - 11, ()), runN L i)
  else if L.getD i 0 = 0 ∧ 2 < runN L i then ((17, 3, ((runN L i : Nat) : Int) - 3, ()), runN L i)
  else if (0 < i ∧ L.getD i 0 = L.getD (i - 1) 0) ∧ 2 < runN L i then ((16, 2, ((min 6 (runN L i) : Nat) : Int) - 3, ()), min 6 (runN L i))
  else ((L.getD i 0, 0, 0, ()), 1)
theorem ju {L : List Int} {v : Int} {i : Nat} : ∀ (c : Nat), i + c ≤ L.length → (∀ k, k < c → L.getD (i + k) 0 = v) → L.take (i + c) = L.take i ++ List.replicate c v := by
  intro c
  induction c with
  | zero => intro _ _; simp
  | succ c ih =>
    intro h1 h2
    have hlt : i + c < L.length := by omega
    have e := h2 c (by omega)
    rw [List.getD, List.getElem?_eq_getElem hlt, Option.getD_some] at e
    rw [← Nat.add_assoc, List.take_add_one, ih (by omega) fun k hk => h2 k (by omega), List.getElem?_eq_getElem hlt, e, List.replicate_succ', List.append_assoc]
    rfl
inductive Means (L : List Int) (i : Nat) : wn → Nat → Prop
  | zeros (c : Nat) (h1 : 11 ≤ c) (h2 : c ≤ 138) (h3 : L.take (i + c) = L.take i ++ List.replicate c 0) : Means L i (18, 7, ((c : Nat) : Int) - 11, ()) c
  | few (c : Nat) (h1 : 3 ≤ c) (h2 : c ≤ 10) (h3 : L.take (i + c) = L.take i ++ List.replicate c 0) : Means L i (17, 3, ((c : Nat) : Int) - 3, ()) c
  | again (c : Nat) (h0 : 0 < i) (h1 : 3 ≤ c) (h2 : c ≤ 6) (h3 : L.take (i + c) = L.take i ++ List.replicate c (L.getD (i - 1) 0)) : Means L i (16, 2, ((c : Nat) : Int) - 3, ()) c
  | one (h3 : L.take (i + 1) = L.take i ++ [L.getD i 0]) : Means L i (L.getD i 0, 0, 0, ()) 1
theorem pL {L : List Int} {i : Nat} (hi : i < L.length) : Means L i (j8 L i).1 (j8 L i).2 ∧ 1 ≤ (j8 L i).2 ∧ i + (j8 L i).2 ≤ L.length := by
  obtain ⟨r1, r2, r3, r4⟩ := zH hi
  unfold j8
  by_cases h1 : L.getD i 0 = 0 ∧ 10 < runN L i
  · rw [if_pos h1]
    exact ⟨.zeros _ (by omega) r2 (ju _ r3 fun k hk => by rw [r4 k hk, h1.1]), by show 1 ≤ runN L i; omega, r3⟩
  · rw [if_neg h1]
    by_cases h2 : L.getD i 0 = 0 ∧ 2 < runN L i
    · rw [if_pos h2]
      exact ⟨.few _ (by omega) (by omega) (ju _ r3 fun k hk => by rw [r4 k hk, h2.1]), by show 1 ≤ runN L i; omega, r3⟩
    · rw [if_neg h2]
      by_cases h3 : (0 < i ∧ L.getD i 0 = L.getD (i - 1) 0) ∧ 2 < runN L i
      · rw [if_pos h3]
        refine ⟨.again _ h3.1.1 (by omega) (by omega) (ju _ (by omega) fun k hk => by rw [r4 k (by omega), h3.1.2]), by show 1 ≤ min 6 (runN L i); omega, by show i + min 6 (runN L i) ≤ L.length; omega⟩
      · rw [if_neg h3]
        exact ⟨.one (ju 1 (by omega) fun k hk => by rw [show k = 0 by omega]; rfl), Nat.le_refl _, by show i + 1 ≤ L.length; omega⟩
def bg (L : List Int) : Nat → Nat → List wn
  | 0, _ => []
  | d + 1, i => if i < L.length then (j8 L i).1 :: bg L d (i + (j8 L i).2) else []
theorem zN (L : List Int) : ∀ d i, (bg L d i).length ≤ d
  | 0, _ => Nat.le_refl _
  | d + 1, i => by
    unfold bg
    split
    · rw [List.length_cons]; have := zN L d (i + (j8 L i).2); omega
    · exact Nat.zero_le _
theorem tE {L : List Int} (h : okB L = true) {i : Nat} (hi : i < L.length) : 0 ≤ L.getD i 0 ∧ L.getD i 0 ≤ 15 := by
  have := dV h hi
  rwa [List.getD, List.getElem?_eq_getElem hi, Option.getD_some]
def zz (s : wn) : Prop := 0 ≤ s.1 ∧ s.1 < 19 ∧ 0 ≤ s.2.1 ∧ s.2.1 ≤ 7 ∧ 0 ≤ s.2.2.1 ∧ s.2.2.1 < 2 ^ s.2.1.toNat
theorem vo {L : List Int} (h : okB L = true) {i : Nat} (hi : i < L.length) {s : wn} {c : Nat} (hm : Means L i s c) : zz s := by
  cases hm with
  | zeros c h1 h2 h3 => exact ⟨(by decide : (0 : Int) ≤ 18), (by decide : (18 : Int) < 19), (by decide : (0 : Int) ≤ 7), (by decide : (7 : Int) ≤ 7), by show (0 : Int) ≤ (c : Int) - 11; omega, by show (c : Int) - 11 < 2 ^ 7; omega⟩
  | few c h1 h2 h3 => exact ⟨(by decide : (0 : Int) ≤ 17), (by decide : (17 : Int) < 19), (by decide : (0 : Int) ≤ 3), (by decide : (3 : Int) ≤ 7), by show (0 : Int) ≤ (c : Int) - 3; omega, by show (c : Int) - 3 < 2 ^ 3; omega⟩
  | again c h0 h1 h2 h3 => exact ⟨(by decide : (0 : Int) ≤ 16), (by decide : (16 : Int) < 19), (by decide : (0 : Int) ≤ 2), (by decide : (2 : Int) ≤ 7), by show (0 : Int) ≤ (c : Int) - 3; omega, by show (c : Int) - 3 < 2 ^ 2; omega⟩
  | one h3 =>
    obtain ⟨a, b⟩ := tE h hi
    exact ⟨a, by show L.getD i 0 < 19; omega, (by decide : (0 : Int) ≤ 0), (by decide : (0 : Int) ≤ 7), (by decide : (0 : Int) ≤ 0), (by decide : (0 : Int) < 2 ^ (0 : Int).toNat)⟩
theorem EU {L : List Int} (h : okB L = true) : ∀ d i, ∀ s ∈ bg L d i, zz s
  | 0, _, s, hs => by cases hs
  | d + 1, i, s, hs => by
    unfold bg at hs
    split at hs
    · rename_i hi
      rcases List.mem_cons.1 hs with rfl | hs
      · exact vo h hi (pL hi).1
      · exact EU h d _ s hs
    · cases hs
end Go.Proofs.YteddgkplkjldcaaGreat.Am
namespace Go.Proofs.YteddgkplkjldcaaGreat.Am
open Go.Am
theorem au {i n : Nat} (h : i < n) : within (i : Int) n = true := by unfold within; simp only [decide_eq_true_eq]; omega
theorem bp {L : List Int} {i : Nat} (h : i < L.length) : L[i]? = some (L.getD i 0) := by rw [List.getD, List.getElem?_eq_getElem h]; rfl
theorem RG (N : Nat) (L : List Int) (hL : L.length ≤ 1000) {i : Nat} (hi : i < L.length) : ∀ (d n f : Nat), n ≤ 138 → d + n = 139 → d < f → pb N f ((n : Int), 138, L, (i : Int)) = some ((pE L i 138 d n : Nat) : Int) := by
  intro d
  induction d with
  | zero => intro n f h1 h2 hf; omega
  | succ d ih =>
    intro n f h1 h2 hf
    cases f with
    | zero => omega
    | succ f =>
      have w1 : IntKind.wrap .i64 ((i : Int) + (n : Int)) = ((i + n : Nat) : Int) := by rw [wrap_i64 (by omega) (by omega)]; omega
      have w2 : IntKind.wrap .i64 ((n : Int) + 1) = ((n + 1 : Nat) : Int) := by rw [wrap_i64 (by omega) (by omega)]; omega
      simp only [pb, JE, ae]
      unfold pE
      by_cases hn : n < 138
      · rw [bd (by omega), w1]
        by_cases hin : i + n < L.length
        · rw [bd (by omega), if_pos (au hin), Int.toNat_natCast, bp hin, Option.bind_some, if_pos (au hi), Int.toNat_natCast, bp hi, Option.bind_some]
          by_cases he : L.getD (i + n) 0 = L.getD i 0
          · rw [if_pos (by rw [he]; exact beq_self_eq_true _), if_pos ⟨hn, hin, he⟩, w2, ih (n + 1) f (by omega) (by omega) (by omega)]
            rfl
          · rw [if_neg (by simpa using he), if_neg (fun h => he h.2.2)]
        · rw [aY (by omega), if_neg (fun h => hin h.2.1)]
      · rw [aY (by omega), if_neg (fun h => hn h.1)]
theorem U5 {N : Nat} (hN : 200 ≤ N) (L : List Int) (hL : L.length ≤ 1000) {i : Nat} (hi : i < L.length) : F91 N (L, (i : Int), 138) = some ((runN L i : Nat) : Int) := by
  simp only [F91]
  have := RG N L hL hi 138 1 N (by omega) (by omega) (by omega)
  rw [show ((1 : Nat) : Int) = 1 from rfl] at this
  rw [this, Option.bind_some]
  rfl
theorem QD {α : Type} {P : List α} {x : α} (h : P.length ≤ 1000) (k : Nat) (hk : k ≤ 100) : decide ((P.length + [x].length) * k ≤ 140737488355328 ∧ P.length + [x].length ≤ 140737488355328) = true := by
  rw [decide_eq_true_eq, List.length_singleton]
  have : (P.length + 1) * k ≤ 1001 * 100 := Nat.mul_le_mul (by omega) hk
  omega
theorem V6 {N : Nat} (L : List Int) (hL : L.length ≤ 1000) {i n : Nat} (hi : i < L.length) (hn : n ≤ 138) (b : Bool) (P : List wn) (hP : P.length ≤ 1000) :
    dD N (b, (i : Int), (n : Int), L, P) = some (if b = true then ((i : Int), (n : Int), L, P ++ [(17, 3, (n : Int) - 3, ())]) else
      if (0 < i ∧ L.getD i 0 = L.getD (i - 1) 0) ∧ 2 < n then ((i : Int), ((min 6 n : Nat) : Int), L, P ++ [(16, 2, ((min 6 n : Nat) : Int) - 3, ())]) else ((i : Int), 1, L, P ++ [(L.getD i 0, 0, 0, ())])) := by
  have w3 : IntKind.wrap .i64 ((n : Int) - 3) = (n : Int) - 3 := wrap_i64 (by omega) (by omega)
  have hmin : (if (6 : Int) < (n : Int) then (6 : Int) else (n : Int)) = ((min 6 n : Nat) : Int) := by split <;> omega
  have w4 : IntKind.wrap .i64 (((min 6 n : Nat) : Int) - 3) = ((min 6 n : Nat) : Int) - 3 := wrap_i64 (by omega) (by omega)
  have hw := au hi
  simp only [dD, ae, hmin, w3, w4, hw, if_true, Int.toNat_natCast, bp hi, Option.bind_some, QD hP 24 (by decide)]
  cases b with
  | true => rfl
  | false =>
    simp only [Bool.false_eq_true, if_false]
    by_cases h0 : 0 < i
    · have w5 : IntKind.wrap .i64 ((i : Int) - 1) = ((i - 1 : Nat) : Int) := by rw [wrap_i64 (by omega) (by omega)]; omega
      have hw1 := au (show i - 1 < L.length by omega)
      rw [bd (by omega), w5]
      simp only [hw1, if_true, Int.toNat_natCast, bp (show i - 1 < L.length by omega), Option.bind_some]
      by_cases he : L.getD i 0 = L.getD (i - 1) 0
      · rw [if_pos (by rw [he]; exact beq_self_eq_true _)]
        by_cases h2 : 2 < n
        · rw [bd (by omega), if_pos ⟨⟨h0, he⟩, h2⟩]
        · rw [aY (by omega), if_neg (fun h => h2 h.2)]
      · rw [if_neg (by simpa using he), if_neg (fun h => he h.1.2)]
    · rw [aY (by omega), if_neg (fun h => h0 h.1.1)]
theorem an5 {N : Nat} (L : List Int) (hL : L.length ≤ 1000) {i n : Nat} (hi : i < L.length) (hn : n ≤ 138) (b : Bool) (P : List wn) (hP : P.length ≤ 1000) :
    eN N (b, (i : Int), (n : Int), L, P) = some (if b = true then ((i : Int), (n : Int), L, P ++ [(18, 7, (n : Int) - 11, ())]) else
      if L.getD i 0 = 0 ∧ 2 < n then ((i : Int), (n : Int), L, P ++ [(17, 3, (n : Int) - 3, ())]) else
      if (0 < i ∧ L.getD i 0 = L.getD (i - 1) 0) ∧ 2 < n then ((i : Int), ((min 6 n : Nat) : Int), L, P ++ [(16, 2, ((min 6 n : Nat) : Int) - 3, ())]) else ((i : Int), 1, L, P ++ [(L.getD i 0, 0, 0, ())])) := by
  have w3 : IntKind.wrap .i64 ((n : Int) - 11) = (n : Int) - 11 := wrap_i64 (by omega) (by omega)
  have hw := au hi
  simp only [eN, ae, w3, hw, if_true, Int.toNat_natCast, bp hi, Option.bind_some, QD hP 24 (by decide)]
  cases b with
  | true => rfl
  | false =>
    simp only [Bool.false_eq_true, if_false]
    by_cases hz : L.getD i 0 = 0
    · rw [if_pos (by rw [hz]; rfl), V6 L hL hi hn _ P hP, Option.bind_some]
      by_cases h2 : 2 < n
      · rw [bd (by omega), if_pos ⟨hz, h2⟩]
      · rw [aY (by omega), if_neg (show ¬ (L.getD i 0 = 0 ∧ 2 < n) from fun h => h2 h.2)]
    · rw [if_neg (by simpa using hz), V6 L hL hi hn _ P hP, Option.bind_some, if_neg (by decide), if_neg (show ¬ (L.getD i 0 = 0 ∧ 2 < n) from fun h => hz h.1)]
theorem RS {N : Nat} (hN : 200 ≤ N) (L : List Int) (hL : L.length ≤ 400) : ∀ (d i f : Nat) (P : List wn), L.length ≤ i + d → P.length ≤ i → i ≤ L.length → d < f →
    jq N f ((i : Int), L, P) = some (P ++ bg L d i) := by
  intro d
  induction d with
  | zero =>
    intro i f P hi hP hle hf
    cases f with
    | zero => omega
    | succ f =>
      simp only [jq, DX, ae]
      rw [aY (by omega)]
      unfold bg
      rw [List.append_nil]
  | succ d ih =>
    intro i f P hi hP hle hf
    cases f with
    | zero => omega
    | succ f =>
      simp only [jq, DX, ae]
      unfold bg
      by_cases hil : i < L.length
      · obtain ⟨r1, r2, r3, r4⟩ := zH hil
        have hs := (pL hil).2
        rw [bd (by omega), U5 hN L (by omega) hil, Option.bind_some, if_pos (au hil), Int.toNat_natCast, bp hil, Option.bind_some, if_pos hil]
        have key : ∀ b : Bool, (b = true ↔ L.getD i 0 = 0 ∧ 10 < runN L i) → eN N (b, (i : Int), ((runN L i : Nat) : Int), L, P) = some ((i : Int), (((j8 L i).2 : Nat) : Int), L, P ++ [(j8 L i).1]) := by
          intro b hb
          rw [an5 L (by omega) hil r2 b P (by omega)]
          unfold j8
          by_cases h1 : L.getD i 0 = 0 ∧ 10 < runN L i
          · rw [if_pos (hb.2 h1), if_pos h1]
          · rw [if_neg (fun h => h1 (hb.1 h)), if_neg h1]
            by_cases h2 : L.getD i 0 = 0 ∧ 2 < runN L i
            · rw [if_pos h2, if_pos h2]
            · rw [if_neg h2, if_neg h2]
              by_cases h3 : (0 < i ∧ L.getD i 0 = L.getD (i - 1) 0) ∧ 2 < runN L i
              · rw [if_pos h3, if_pos h3]
              · rw [if_neg h3, if_neg h3]
                rfl
        have w : IntKind.wrap .i64 ((i : Int) + (((j8 L i).2 : Nat) : Int)) = ((i + (j8 L i).2 : Nat) : Int) := by rw [wrap_i64 (by omega) (by omega)]; omega
        have hI := ih (i + (j8 L i).2) f (P ++ [(j8 L i).1]) (by omega) (by rw [List.length_append, List.length_singleton]; omega) hs.2 (by omega)
        by_cases hz : L.getD i 0 = 0
        · rw [if_pos (by rw [hz]; rfl), key _ (by simp only [decide_eq_true_eq]; omega), Option.bind_some]
          show Option.bind (jq N f (IntKind.wrap .i64 ((i : Int) + (((j8 L i).2 : Nat) : Int)), L, P ++ [(j8 L i).1])) _ = _
          rw [w, hI, Option.bind_some, List.append_assoc]
          rfl
        · rw [if_neg (by simpa using hz), key _ (by simp only [Bool.false_eq_true, false_iff]; exact fun h => hz h.1), Option.bind_some]
          show Option.bind (jq N f (IntKind.wrap .i64 ((i : Int) + (((j8 L i).2 : Nat) : Int)), L, P ++ [(j8 L i).1])) _ = _
          rw [w, hI, Option.bind_some, List.append_assoc]
          rfl
      · rw [aY (by omega), if_neg hil, List.append_nil]
theorem IV {N : Nat} (hN : 500 ≤ N) (L : List Int) (hL : L.length ≤ 400) : F54 N L = some (bg L L.length 0) := by
  simp only [F54]
  have := RS (show 200 ≤ N by omega) L hL L.length 0 N [] (by omega) (by simp) (by omega) (by omega)
  rw [show ((0 : Nat) : Int) = 0 from rfl, List.nil_append] at this
  rw [this, Option.bind_some]
def Ps (x : Int) : Bool := decide (x < 0) || decide (x > 15)
theorem Vg (N : Nat) (x : Int) : F52 N x = some (Ps x) := by
  simp only [F52, ae]
  unfold Ps
  by_cases h : x < 0
  · rw [if_pos (by simpa using h), decide_eq_true h, Bool.true_or]
  · rw [if_neg (by simpa using h), decide_eq_false h, Bool.false_or]
theorem RH (N : Nat) (L : List Int) (hL : L.length ≤ 1000) : ∀ (d i f : Nat), i + d = L.length → d < f →
    (okB (L.drop i) = true → gz N f ((L.length : Int), L, (i : Int)) = some (.inr ())) ∧ (okB (L.drop i) = false → ∃ k : Nat, gz N f ((L.length : Int), L, (i : Int)) = some (.inl (k : Int))) := by
  intro d
  induction d with
  | zero =>
    intro i f hi hf
    cases f with
    | zero => omega
    | succ f =>
      simp only [gz, tX, ae]
      rw [aY (by omega), List.drop_eq_nil_of_le (by omega)]
      exact ⟨fun _ => rfl, fun h => by cases h⟩
  | succ d ih =>
    intro i f hi hf
    cases f with
    | zero => omega
    | succ f =>
      have hil : i < L.length := by omega
      obtain ⟨i1, i2⟩ := ih (i + 1) f (by omega) (by omega)
      have w2 : IntKind.wrap .i64 ((i : Int) + 1) = ((i + 1 : Nat) : Int) := by rw [wrap_i64 (by omega) (by omega)]; omega
      have e : okB (L.drop i) = (!Ps (L.getD i 0) && okB (L.drop (i + 1))) := by
        rw [List.drop_eq_getElem_cons hil]
        unfold okB Ps
        rw [List.all_cons, List.getD, List.getElem?_eq_getElem hil, Option.getD_some]
        congr 1
        rw [Bool.not_or]
        congr 1
        · by_cases h : L[i] < 0
          · rw [decide_eq_true h, decide_eq_false (by omega)]; rfl
          · rw [decide_eq_false h, decide_eq_true (by omega)]; rfl
        · by_cases h : L[i] > 15
          · rw [decide_eq_true h, decide_eq_false (by omega)]; rfl
          · rw [decide_eq_false h, decide_eq_true (by omega)]; rfl
      simp only [gz, tX, ae]
      rw [bd (by omega), if_pos (au hil), Int.toNat_natCast, bp hil, Option.bind_some, Vg, Option.bind_some, e, w2]
      cases ho : Ps (L.getD i 0) with
      | true =>
        rw [if_pos rfl]
        exact ⟨fun h => (by cases h), fun _ => ⟨i, rfl⟩⟩
      | false =>
        rw [if_neg (by decide), Bool.not_false, Bool.true_and]
        refine ⟨fun h => ?_, fun h => ?_⟩
        · rw [i1 h]; rfl
        · obtain ⟨k, hk⟩ := i2 h
          exact ⟨k, by rw [hk]; rfl⟩
theorem Ky {N : Nat} (hN : 2000 ≤ N) (L : List Int) (hL : L.length ≤ 1000) : MP N L = some (!okB L) := by
  obtain ⟨h1, h2⟩ := RH N L hL L.length 0 N (by omega) (by omega)
  rw [List.drop_zero, show ((0 : Nat) : Int) = 0 from rfl] at h1 h2
  simp only [MP, U6]
  cases h : okB L with
  | true => rw [h1 h, Option.bind_some, Option.bind_some]; rfl
  | false =>
    obtain ⟨k, hk⟩ := h2 h
    rw [hk, Option.bind_some, Option.bind_some]
    show some (decide ((k : Int) ≥ 0)) = some true
    rw [decide_eq_true (by omega)]
end Go.Proofs.YteddgkplkjldcaaGreat.Am
namespace Go.Proofs.YteddgkplkjldcaaGreat.Am
open Go.Am
theorem Ac (n : Nat) (S : List Int) {i : Nat} (h : i < n) : (fP n S).getD i 0 = ((S.count (i : Int) : Nat) : Int) := by
  rw [List.getD, jU n S h]; rfl
theorem rz {fr : List Int} {m : Nat} (hl : fr.length ≤ 320) (hm : 1 ≤ m) (hm2 : m ≤ 15) (hn : fr.length ≤ 2 ^ m) (ho : okF fr = true) :
    ∃ r, lU fr (m : Int) = (0, r) ∧ r.length = fr.length ∧ (chk r).2 = 0 ∧ ∀ s, s < fr.length → (0 < fr.getD s 0 → 1 ≤ r.getD s 0) ∧ 0 ≤ r.getD s 0 ∧ r.getD s 0 ≤ (m : Int) := by
  have hc := fO fr fr.length
  have hlen := a7 (ay fr fr.length)
  have hb : (aN (ay fr fr.length)).length ≤ 2 ^ m := by omega
  obtain ⟨p1, p2, p3⟩ := u6 (qb fr) hm hm2 hb
  refine ⟨fP fr.length (bW (aN (ay fr fr.length)) m), ?_, eE _ _, ?_, fun s hs => ?_⟩
  · unfold lU
    rw [if_neg (by simp only [ho, Bool.true_eq_false, or_false]; omega), Int.toNat_natCast, if_neg (by omega)]
  · rw [Qy hl hm hm2 hb]
  · rw [Ac _ _ hs]
    refine ⟨fun h => ?_, by omega, ?_⟩
    · have := p1 _ ((EY hs).2 h)
      omega
    · by_cases h : ((s : Int) ∈ bn (aN (ay fr fr.length)))
      · have := p1 _ h; omega
      · rw [p2 _ h]; omega
def kE (P : List wn) : List Int := P.map (·.1)
def fq (P : List wn) : List Int := fP 19 (kE P)
theorem Xv (P : List wn) (hP : P.length ≤ 1000) : okF (fq P) = true := by
  unfold okF fq fP
  rw [List.all_eq_true]
  intro x hx
  obtain ⟨i, _, rfl⟩ := List.mem_map.1 hx
  have : (kE P).count (i : Int) ≤ (kE P).length := List.count_le_length
  have e : (kE P).length = P.length := by unfold kE; simp
  rw [Bool.and_eq_true, decide_eq_true_eq, decide_eq_true_eq]
  omega
theorem Xu {P : List wn} {s : wn} (hs : s ∈ P) (h0 : 0 ≤ s.1) (h1 : s.1 < 19) : 0 < (fq P).getD s.1.toNat 0 := by
  unfold fq
  rw [Ac _ _ (by omega), Int.toNat_of_nonneg h0]
  have : 0 < (kE P).count s.1 := List.count_pos_iff.2 (List.mem_map.2 ⟨s, hs, rfl⟩)
  omega
theorem Sg (N : Nat) (P : List wn) (hP : P.length ≤ 1000) (hok : ∀ s ∈ P, zz s) (x2 x3 : List Int) (x4 x5 : Int) (x8 : List Int) : ∀ (d i f : Nat), i + d = P.length → d < f →
    dE N f ((i : Int), (P.length : Int), x2, x3, x4, x5, P, fP 19 (kE (P.take i)), x8) = some (x3, x2, x4, x5, fq P, P, x8) := by
  intro d
  induction d with
  | zero =>
    intro i f hi hf
    cases f with
    | zero => omega
    | succ f =>
      simp only [dE, uc, ae]
      rw [aY (by omega), List.take_of_length_le (by omega)]
      rfl
  | succ d ih =>
    intro i f hi hf
    cases f with
    | zero => omega
    | succ f =>
      have hil : i < P.length := by omega
      obtain ⟨o1, o2, _⟩ := hok _ (List.getElem_mem hil)
      obtain ⟨k, hk⟩ := Int.eq_ofNat_of_zero_le o1
      have hk19 : k < 19 := by omega
      have w : IntKind.wrap .i64 ((i : Int) + 1) = ((i + 1 : Nat) : Int) := by rw [wrap_i64 (by omega) (by omega)]; omega
      have hcl : (kE (P.take i)).count (k : Int) ≤ 1000 := by
        have : (kE (P.take i)).count (k : Int) ≤ (kE (P.take i)).length := List.count_le_length
        have e : (kE (P.take i)).length ≤ P.length := by unfold kE; simp; omega
        omega
      have w2 : IntKind.wrap .i64 (((kE (P.take i)).count (k : Int) : Int) + 1) = ((kE (P.take i)).count (k : Int) : Int) + 1 := wrap_i64 (by omega) (by omega)
      have et : kE (P.take (i + 1)) = kE (P.take i) ++ [(k : Int)] := by
        unfold kE
        rw [List.take_add_one, List.getElem?_eq_getElem hil, List.map_append]
        show _ ++ [P[i].1] = _
        rw [hk]
      have hw2 : within (k : Int) (fP 19 (kE (P.take i))).length = true := au (by rw [eE]; exact hk19)
      simp only [dE, uc, ae]
      rw [bd (by omega), if_pos (au hil), Int.toNat_natCast, List.getElem?_eq_getElem hil, Option.bind_some, hk, if_pos hw2, Int.toNat_natCast, jU _ _ hk19, Option.bind_some, if_pos hw2, Option.bind_some, w, w2, rr _ _ hk19, ← et, ih (i + 1) f (by omega) (by omega)]
      rfl
def cf : List Int := [16, 17, 18, 0, 8, 7, 9, 6, 10, 5, 11, 4, 12, 3, 13, 2, 14, 1, 15]
theorem Ao : F58 200000 () = some cf := by kernel_rfl
theorem A3 : ∀ i, i < 19 → 0 ≤ cf.getD i 0 ∧ cf.getD i 0 < 19 := by decide
theorem fj : cf.length = 19 := rfl
def iE (lens : List Int) : Nat → Nat
  | 0 => 0
  | n + 1 => if n + 1 > 4 then (if lens.getD (cf.getD n 0).toNat 0 = 0 then iE lens n else n + 1) else n + 1
theorem nv (lens : List Int) : ∀ n, iE lens n ≤ n
  | 0 => Nat.le_refl _
  | n + 1 => by
    unfold iE
    have := nv lens n
    split
    · split <;> omega
    · omega
theorem tC (lens : List Int) : ∀ n, 4 ≤ n → 4 ≤ iE lens n
  | 0, h => by omega
  | n + 1, h => by
    unfold iE
    split
    · split
      · exact tC lens n (by omega)
      · omega
    · omega
theorem zR (lens : List Int) : ∀ n i, iE lens n ≤ i → i < n → lens.getD (cf.getD i 0).toNat 0 = 0
  | 0, i, _, h => by omega
  | n + 1, i, h1, h2 => by
    unfold iE at h1
    split at h1
    · split at h1
      · by_cases e : i = n
        · subst e; assumption
        · exact zR lens n i h1 (by omega)
      · omega
    · omega
theorem Se (N : Nat) (lens : List Int) (hl : lens.length = 19) (x1 x2 : List Int) (x3 x4 : Int) (x6 : List wn) (x7 : List qO) (x9 : List Int) : ∀ (n f : Nat), n ≤ 19 → n < f → 1 ≤ n →
    dQ N f ((n : Int), x1, x2, x3, x4, lens, x6, x7, cf, x9) = some (x2, x1, ((iE lens n : Nat) : Int), x3, x4, cf, x7, x6, lens, x9) := by
  intro n
  induction n with
  | zero => intro f h1 h2 h3; omega
  | succ n ih =>
    intro f h1 h2 h3
    cases f with
    | zero => omega
    | succ f =>
      have w : IntKind.wrap .i64 (((n + 1 : Nat) : Int) - 1) = (n : Int) := by rw [wrap_i64 (by omega) (by omega)]; omega
      simp only [dQ, yw, ae]
      unfold iE
      rw [w]
      by_cases h4 : n + 1 > 4
      · obtain ⟨o1, o2⟩ := A3 n (by omega)
        have hn19 : n < cf.length := by rw [fj]; omega
        obtain ⟨k, hk⟩ := Int.eq_ofNat_of_zero_le o1
        rw [bd (by omega), if_pos h4, if_pos (au hn19), Int.toNat_natCast, bp hn19, Option.bind_some, hk, if_pos (au (by omega)), Int.toNat_natCast, bp (by omega), Option.bind_some]
        show (if ((lens.getD k 0) == (0 : Int)) = true then _ else _) = some (_, _, (((if lens.getD k 0 = 0 then iE lens n else n + 1) : Nat) : Int), _)
        by_cases hz : lens.getD k 0 = 0
        · rw [if_pos (by rw [hz]; rfl), if_pos hz, ih f (by omega) (by omega) (by omega)]
          rfl
        · rw [if_neg (by simpa using hz), if_neg hz]
      · rw [aY (by omega), if_neg h4]
def dl (lens : List Int) (i : Nat) : List Bool := (cf.take i).flatMap fun a => an 3 (lens.getD a.toNat 0)
theorem nx (lens : List Int) {i : Nat} (h : i < cf.length) : dl lens (i + 1) = dl lens i ++ an 3 (lens.getD (cf.getD i 0).toNat 0) := by
  have e : cf.getD i 0 = cf[i] := by rw [List.getD, List.getElem?_eq_getElem h]; rfl
  unfold dl
  rw [List.take_add_one, List.getElem?_eq_getElem h, List.flatMap_append, e]
  simp
theorem fG (lens : List Int) : ∀ i, i ≤ 19 → (dl lens i).length = 3 * i
  | 0, _ => rfl
  | i + 1, h => by
    rw [nx lens (by rw [fj]; omega), List.length_append, fG lens i (by omega), al, show am 3 = 3 from rfl]
    omega
theorem Vo {N : Nat} (hN : 6 ≤ N) (lens : List Int) (hl : lens.length = 19) (m : List Bool) (hm : m.length ≤ 900000000) (n : Nat) (hn : n ≤ 19) (x5 : List qO) (x6 : List wn) : ∀ (d i f : Nat), i + d = n → d < f →
    bS N f ((i : Int), (n : Int), n, aP (m ++ dl lens i), nF (m ++ dl lens i), x5, x6, cf, lens, bF (m ++ dl lens i)) = some (aP (m ++ dl lens n), nF (m ++ dl lens n), x6, x5, bF (m ++ dl lens n)) := by
  intro d
  induction d with
  | zero =>
    intro i f hi hf
    cases f with
    | zero => omega
    | succ f =>
      simp only [bS, k8, ae]
      rw [aY (by omega), show i = n by omega]
  | succ d ih =>
    intro i f hi hf
    cases f with
    | zero => omega
    | succ f =>
      have w : IntKind.wrap .i64 ((i : Int) + 1) = ((i + 1 : Nat) : Int) := by rw [wrap_i64 (by omega) (by omega)]; omega
      obtain ⟨o1, o2⟩ := A3 i (by omega)
      have hn19 : i < cf.length := by rw [fj]; omega
      obtain ⟨k, hk⟩ := Int.eq_ofNat_of_zero_le o1
      have hb := fG lens i (by omega)
      have hs := nx lens hn19
      rw [hk, Int.toNat_natCast] at hs
      simp only [bS, k8, ae]
      rw [bd (by omega), if_pos (au (by omega)), Int.toNat_natCast, Nat.zero_add, bp hn19, Option.bind_some, hk, if_pos (au (by omega)), Int.toNat_natCast, bp (by omega), Option.bind_some, bj hN _ (by rw [List.length_append]; omega), Option.bind_some, w, List.append_assoc, ← hs, ih (i + 1) f (by omega) (by omega)]
      rfl
def sB (lens : List Int) (s : wn) : List Bool := ag (ap lens s.1.toNat) ++ an s.2.1 s.2.2.1
def km (lens : List Int) (P : List wn) : List Bool := P.flatMap (sB lens)
theorem Xf (lens : List Int) (s : wn) : (sB lens s).length ≤ 64 := by
  unfold sB
  have h1 := cG (ap lens s.1.toNat)
  have h2 := bk s.2.1
  rw [List.length_append, al]
  omega
theorem AS (lens : List Int) : ∀ P, (km lens P).length ≤ 64 * P.length
  | [] => Nat.le_refl _
  | s :: P => by
    have h1 := Xf lens s
    have h2 := AS lens P
    unfold km at h2 ⊢
    rw [List.flatMap_cons, List.length_append, List.length_cons]
    omega
theorem Sf {N : Nat} (hN : 6 ≤ N) (lens : List Int) (hl : lens.length = 19) (P : List wn) (hP : P.length ≤ 1000) (hok : ∀ s ∈ P, zz s) (m : List Bool) (hm : m.length ≤ 900000000) : ∀ (d i f : Nat), i + d = P.length → d < f →
    cJ N f ((i : Int), (P.length : Int), aP (m ++ km lens (P.take i)), nF (m ++ km lens (P.take i)), P, af lens, bF (m ++ km lens (P.take i))) = some (aP (m ++ km lens P), nF (m ++ km lens P), bF (m ++ km lens P)) := by
  intro d
  induction d with
  | zero =>
    intro i f hi hf
    cases f with
    | zero => omega
    | succ f =>
      simp only [cJ, k7, ae]
      rw [aY (by omega), List.take_of_length_le (by omega)]
  | succ d ih =>
    intro i f hi hf
    cases f with
    | zero => omega
    | succ f =>
      have hil : i < P.length := by omega
      obtain ⟨o1, o2, o3, o4, _⟩ := hok _ (List.getElem_mem hil)
      obtain ⟨k, hk⟩ := Int.eq_ofNat_of_zero_le o1
      have hk19 : k < 19 := by omega
      have w : IntKind.wrap .i64 ((i : Int) + 1) = ((i + 1 : Nat) : Int) := by rw [wrap_i64 (by omega) (by omega)]; omega
      have hC : (af lens).length = 19 := by rw [b8, hl]
      have hbl := AS lens (P.take i)
      rw [List.length_take] at hbl
      have hcb := cG (ap lens k)
      have et : km lens (P.take (i + 1)) = km lens (P.take i) ++ (ag (ap lens k) ++ an P[i].2.1 P[i].2.2.1) := by
        unfold km
        rw [List.take_add_one, List.getElem?_eq_getElem hil, List.flatMap_append]
        show _ ++ ([P[i]].flatMap (sB lens)) = _
        rw [List.flatMap_cons, List.flatMap_nil, List.append_nil]
        unfold sB
        rw [hk, Int.toNat_natCast]
      simp only [cJ, k7, ae]
      rw [bd (by omega), if_pos (au hil), Int.toNat_natCast, List.getElem?_eq_getElem hil, Option.bind_some, hk, if_pos (au (by omega)), Int.toNat_natCast, il lens (by omega), Option.bind_some, mJ hN _ (by rw [List.length_append]; omega), Option.bind_some]
      simp only
      rw [bj hN _ (by simp only [List.length_append]; omega), Option.bind_some, w, List.append_assoc, List.append_assoc, ← et]
      simp only
      rw [ih (i + 1) f (by omega) (by omega)]
      rfl
end Go.Proofs.YteddgkplkjldcaaGreat.Am
namespace Go.Proofs.YteddgkplkjldcaaGreat.Am
open Go.Am
def nB (lits dists : List Int) : List wn := bg (lits ++ dists) (lits ++ dists).length 0
def gi (lits dists : List Int) : List Int := (lU (fq (nB lits dists)) 7).2
def fp (lits dists : List Int) : Nat := iE (gi lits dists) 19
def l0 (lits dists : List Int) : List Bool :=
  an 5 (((lits.length - 257 : Nat) : Nat) : Int) ++ (an 5 (((dists.length - 1 : Nat) : Nat) : Int) ++ (an 4 (((fp lits dists - 4 : Nat) : Nat) : Int) ++ (dl (gi lits dists) (fp lits dists) ++ km (gi lits dists) (nB lits dists))))
structure HdOk (lits dists : List Int) : Prop where
  l1 : 257 ≤ lits.length
  l2 : lits.length ≤ 286
  d1 : 1 ≤ dists.length
  d2 : dists.length ≤ 30
  lo : okB lits = true
  dz : okB dists = true
theorem kz (a b : List Int) : okB (a ++ b) = (okB a && okB b) := by unfold okB; rw [List.all_append]
structure LensOk (lens : List Int) (P : List wn) : Prop where
  len : lens.length = 19
  chk : (chk lens).2 = 0
  pos : ∀ s ∈ P, 0 < lens.getD s.1.toNat 0
  bnd : ∀ j, j < 19 → 0 ≤ lens.getD j 0 ∧ lens.getD j 0 ≤ 7
theorem tL {lits dists : List Int} (h : HdOk lits dists) : lU (fq (nB lits dists)) 7 = (0, gi lits dists) ∧ LensOk (gi lits dists) (nB lits dists) ∧ (nB lits dists).length ≤ 316 ∧ (∀ s ∈ nB lits dists, zz s) := by
  obtain ⟨h1, h2, h3, h4, h5, h6⟩ := h
  have hok : okB (lits ++ dists) = true := by rw [kz, h5, h6]; rfl
  have hlen : (nB lits dists).length ≤ 316 := by
    have := zN (lits ++ dists) (lits ++ dists).length 0
    have e : (lits ++ dists).length = lits.length + dists.length := List.length_append
    unfold nB; omega
  have hsy : ∀ s ∈ nB lits dists, zz s := EU hok _ _
  have hfl : (fq (nB lits dists)).length = 19 := eE _ _
  obtain ⟨r, r1, r2, r3, r4⟩ := rz (fr := fq (nB lits dists)) (m := 7) (by omega) (by decide) (by decide) (by rw [hfl]; decide) (Xv _ (by omega))
  have r1 : lU (fq (nB lits dists)) 7 = (0, r) := r1
  have e : gi lits dists = r := by unfold gi; rw [r1]
  rw [e]
  refine ⟨r1, ⟨by omega, r3, fun s hs => ?_, fun j hj => ?_⟩, hlen, hsy⟩
  · obtain ⟨o1, o2, _⟩ := hsy s hs
    have := (r4 s.1.toNat (by omega)).1 (Xu hs o1 o2)
    omega
  · have := (r4 j (by omega)).2
    exact ⟨this.1, this.2⟩
theorem MU {lits dists : List Int} (h : HdOk lits dists) (m : List Bool) (hm : m.length ≤ 800000000) :
    sn 200000 (lits, dists, aP m, nF m, bF m) = some (0, aP (m ++ l0 lits dists), nF (m ++ l0 lits dists), bF (m ++ l0 lits dists)) := by
  obtain ⟨k1, k2, k3, k4⟩ := tL h
  obtain ⟨h1, h2, h3, h4, h5, h6⟩ := h
  have e : (lits ++ dists).length = lits.length + dists.length := List.length_append
  have hfr := Sg 200000 (nB lits dists) (by omega) k4 lits dists (aP m) (nF m) (bF m) (nB lits dists).length 0 200000 (by omega) (by omega)
  have e0 : fP 19 (kE ((nB lits dists).take 0)) = List.replicate 19 0 := qd 19
  rw [e0, show ((0 : Nat) : Int) = 0 from rfl] at hfr
  have hn1 := nv (gi lits dists) 19
  have hn2 := tC (gi lits dists) 19 (by decide)
  have ht := Se 200000 (gi lits dists) k2.len dists lits (aP m) (nF m) (nB lits dists) (af (gi lits dists)) (bF m) 19 200000 (by omega) (by omega) (by omega)
  have p5 : ∀ v, (an 5 v).length = 5 := fun v => by rw [al]; rfl
  have p4 : ∀ v, (an 4 v).length = 4 := fun v => by rw [al]; rfl
  have hob := fG (gi lits dists) (fp lits dists) (by unfold fp; omega)
  have w1 : IntKind.wrap .i64 ((lits.length : Int) - 257) = ((lits.length - 257 : Nat) : Int) := by rw [wrap_i64 (by omega) (by omega)]; omega
  have w2 : IntKind.wrap .i64 ((dists.length : Int) - 1) = ((dists.length - 1 : Nat) : Int) := by rw [wrap_i64 (by omega) (by omega)]; omega
  have w3 : IntKind.wrap .i64 (((iE (gi lits dists) 19 : Nat) : Int) - 4) = ((fp lits dists - 4 : Nat) : Int) := by rw [wrap_i64 (by omega) (by omega)]; unfold fp; omega
  have hC : V5 200000 (gi lits dists) = some (0, af (gi lits dists)) := by rw [sg (by decide), if_pos k2.chk]
  unfold sn
  simp only [ae]
  rw [Kx (by decide) lits dists (by omega), Option.bind_some, IV (by decide) _ (by omega), Option.bind_some]
  show Option.bind (dE 200000 200000 (0, ((nB lits dists).length : Int), lits, dists, aP m, nF m, nB lits dists, List.replicate 19 0, bF m)) _ = _
  rw [hfr, Option.bind_some]
  simp only
  rw [ya, k1, Option.bind_some]
  simp only
  rw [hC, Option.bind_some, Ao, Option.bind_some]
  simp only
  rw [show ((cf.length : Nat) : Int) = ((19 : Nat) : Int) from rfl, ht, Option.bind_some]
  simp only
  rw [w1, w2, w3, bj (by decide) m (by omega), Option.bind_some]
  simp only
  rw [bj (by decide) _ (by rw [List.length_append, p5]; omega), Option.bind_some]
  simp only
  rw [bj (by decide) _ (by rw [List.length_append, List.length_append, p5, p5]; omega), Option.bind_some]
  simp only
  rw [if_pos (by rw [fj]; simp only [decide_eq_true_eq]; omega)]
  have ho := Vo (N := 200000) (by decide) (gi lits dists) k2.len (m ++ an 5 ((lits.length - 257 : Nat) : Int) ++ an 5 ((dists.length - 1 : Nat) : Int) ++ an 4 ((fp lits dists - 4 : Nat) : Int)) (by simp only [List.length_append, p5, p4]; omega) (fp lits dists) (by unfold fp; omega) (af (gi lits dists)) (nB lits dists) (fp lits dists) 0 200000 (by omega) (by unfold fp; omega)
  have eo : dl (gi lits dists) 0 = [] := rfl
  rw [eo, List.append_nil, show ((0 : Nat) : Int) = 0 from rfl] at ho
  rw [Int.toNat_natCast, Nat.sub_zero]
  show Option.bind (bS 200000 200000 (0, ((fp lits dists : Nat) : Int), fp lits dists, _)) _ = _
  rw [ho, Option.bind_some]
  simp only
  have hs := Sf (N := 200000) (by decide) (gi lits dists) k2.len (nB lits dists) (by omega) k4 (m ++ an 5 ((lits.length - 257 : Nat) : Int) ++ an 5 ((dists.length - 1 : Nat) : Int) ++ an 4 ((fp lits dists - 4 : Nat) : Int) ++ dl (gi lits dists) (fp lits dists)) (by
    have : fp lits dists ≤ 19 := hn1
    simp only [List.length_append, p5, p4, hob]; omega) (nB lits dists).length 0 200000 (by omega) (by omega)
  have es : km (gi lits dists) ((nB lits dists).take 0) = [] := rfl
  rw [es, List.append_nil, show ((0 : Nat) : Int) = 0 from rfl] at hs
  rw [hs, Option.bind_some]
  unfold l0
  simp only [List.append_assoc]
theorem YJ {lits dists : List Int} (h : HdOk lits dists) (m : List Bool) (hm : m.length ≤ 800000000) :
    F21 200000 (lits, dists, aP m, nF m, bF m) = some (0, aP (m ++ l0 lits dists), nF (m ++ l0 lits dists), bF (m ++ l0 lits dists)) := by
  have h15 := MU h m hm
  obtain ⟨h1, h2, h3, h4, h5, h6⟩ := h
  simp only [F21, ae]
  rw [aY (by omega), aY (by omega), aY (by omega), aY (by omega), Ky (by decide) _ (by omega), Option.bind_some, h5, if_neg (by decide), Ky (by decide) _ (by omega), Option.bind_some, h6, if_neg (by decide), h15, Option.bind_some]
end Go.Proofs.YteddgkplkjldcaaGreat.Am
namespace Go.Proofs.YteddgkplkjldcaaGreat.Am
open Go.Am
theorem MK : F60 200000 () = some cf := rfl
theorem LN (n : Nat) (f : Nat → Int) {k : Nat} (hk : k < n) (v : Int) : ((List.range n).map f).set k v = (List.range n).map fun j => if j = k then v else f j := by
  apply List.ext_getElem?
  intro i
  rw [List.getElem?_set]
  by_cases hi : i < n
  · simp only [List.getElem?_map, List.getElem?_range hi, Option.map_some, List.length_map, List.length_range]
    by_cases e : k = i
    · subst e; simp [hi]
    · rw [if_neg e, if_neg (fun h => e h.symm)]
  · have e : ¬ k = i := by omega
    rw [if_neg e]
    simp only [List.getElem?_map]
    rw [List.getElem?_eq_none (by simp; omega)]
    rfl
def jB (lens : List Int) (i : Nat) : List Int := (List.range 19).map fun (j : Nat) => bif (cf.take i).contains (j : Int) then lens.getD j 0 else 0
theorem q9 (lens : List Int) (i : Nat) : (jB lens i).length = 19 := by unfold jB; simp
theorem vb (lens : List Int) : jB lens 0 = List.replicate 19 0 := rfl
theorem zP (lens : List Int) {i k : Nat} (hi : i < 19) (hk : cf.getD i 0 = (k : Int)) (hk19 : k < 19) : (jB lens i).set k (lens.getD k 0) = jB lens (i + 1) := by
  unfold jB
  rw [LN 19 _ hk19]
  apply List.map_congr_left
  intro j hj
  have hil : i < cf.length := by rw [fj]; exact hi
  have et : cf.take (i + 1) = cf.take i ++ [(k : Int)] := by
    rw [List.take_add_one, List.getElem?_eq_getElem hil]
    have : cf[i] = (k : Int) := by rw [← hk, List.getD, List.getElem?_eq_getElem hil]; rfl
    rw [this]; rfl
  rw [et]
  by_cases e : j = k
  · subst e
    rw [if_pos rfl]
    have : (cf.take i ++ [(j : Int)]).contains (j : Int) = true := by simp
    rw [this]; rfl
  · rw [if_neg e]
    have : (cf.take i ++ [(k : Int)]).contains (j : Int) = (cf.take i).contains (j : Int) := by
      apply Bool.eq_iff_iff.2
      simp only [List.contains_iff_mem, List.mem_append, List.mem_singleton]
      constructor
      · rintro (h | h)
        · exact h
        · omega
      · exact .inl
    rw [this]
theorem Tu : ∀ j : Nat, j < 19 → ∃ t : Nat, t < 19 ∧ cf.getD t 0 = (j : Int) := by decide
theorem zQ {lens : List Int} (hl : lens.length = 19) : jB lens (iE lens 19) = lens := by
  apply List.ext_getElem?
  intro i
  by_cases hi : i < 19
  · unfold jB
    rw [List.getElem?_map, List.getElem?_range hi, Option.map_some, List.getElem?_eq_getElem (by omega)]
    have e : lens.getD i 0 = lens[i] := getD_at (by omega)
    obtain ⟨t, t1, t2⟩ := Tu i hi
    have htl : t < cf.length := by rw [fj]; exact t1
    by_cases h : t < iE lens 19
    · have : (cf.take (iE lens 19)).contains (i : Int) = true := by
        rw [List.contains_iff_mem, ← t2, List.getD, List.getElem?_eq_getElem htl, Option.getD_some]
        exact List.mem_take_iff_getElem.2 ⟨t, by omega, rfl⟩
      rw [this, cond_true, e]
    · have := zR lens 19 t (by omega) t1
      rw [t2, Int.toNat_natCast] at this
      rw [this]
      cases (cf.take (iE lens 19)).contains (i : Int) <;> simp only [cond_true, cond_false] <;> rw [← e, this]
  · rw [List.getElem?_eq_none (by rw [q9]; omega), List.getElem?_eq_none (by omega)]
theorem Vm (lens : List Int) (hl : lens.length = 19) (hb : ∀ j, j < 19 → 0 ≤ lens.getD j 0 ∧ lens.getD j 0 ≤ 7) (a r : List Bool) (n : Nat) (hn : n ≤ 19) (A B : Int) (hL : (a ++ (dl lens n ++ r)).length ≤ 1000000000) : ∀ (d i f : Nat), i + d = n → d < f →
    cZ 200000 f ((i : Int), (n : Int), B, A, ((a.length + 3 * i : Nat) : Int), 0, jB lens i, cf, a ++ (dl lens n ++ r)) = some (A, B, ((a.length + 3 * n : Nat) : Int), 0, jB lens n, a ++ (dl lens n ++ r)) := by
  intro d
  induction d with
  | zero =>
    intro i f hi hf
    cases f with
    | zero => omega
    | succ f =>
      simp only [cZ, qE, ae]
      rw [aY (by omega), show i = n by omega]
  | succ d ih =>
    intro i f hi hf
    cases f with
    | zero => omega
    | succ f =>
      have w : IntKind.wrap .i64 ((i : Int) + 1) = ((i + 1 : Nat) : Int) := by rw [wrap_i64 (by omega) (by omega)]; omega
      obtain ⟨o1, o2⟩ := A3 i (by omega)
      have hn19 : i < cf.length := by rw [fj]; omega
      obtain ⟨k, hk⟩ := Int.eq_ofNat_of_zero_le o1
      have hk19 : k < 19 := by omega
      obtain ⟨b1, b2⟩ := hb k hk19
      obtain ⟨v, hv⟩ := Int.eq_ofNat_of_zero_le b1
      have hlow : cq 3 (lens.getD k 0) = v := by rw [hv]; exact fI (by decide) (by omega)
      have hsplit : ∃ q, dl lens n = dl lens i ++ (an 3 (lens.getD k 0) ++ q) := by
        refine ⟨((cf.take n).drop (i + 1)).flatMap fun a => an 3 (lens.getD a.toNat 0), ?_⟩
        have e1 := nx lens hn19
        rw [hk, Int.toNat_natCast] at e1
        rw [← List.append_assoc, ← e1]
        unfold dl
        rw [← List.flatMap_append]
        congr 1
        have : cf.take (i + 1) = (cf.take n).take (i + 1) := by rw [List.take_take, show min (i + 1) n = i + 1 by omega]
        rw [this, List.take_append_drop]
      obtain ⟨q, hq⟩ := hsplit
      have hbl := fG lens i (by omega)
      have hLL : a ++ (dl lens n ++ r) = (a ++ dl lens i) ++ (an 3 (lens.getD k 0) ++ (q ++ r)) := by rw [hq]; simp only [List.append_assoc]
      have hrd := jj (N := 200000) (by decide) (a ++ dl lens i) (q ++ r) 3 (lens.getD k 0) (by rw [← hLL]; exact hL)
      rw [← hLL, show am 3 = 3 from rfl, hlow, show (a ++ dl lens i).length = a.length + 3 * i by rw [List.length_append, hbl]] at hrd
      have hset := zP lens (by omega) hk hk19
      rw [hv] at hset
      have hol := q9 lens i
      have hI := ih (i + 1) f (by omega) (by omega)
      rw [show a.length + 3 * (i + 1) = a.length + 3 * i + 3 by omega] at hI
      simp only [cZ, qE, ae]
      rw [bd (by omega), if_pos (au hn19), Int.toNat_natCast, bp hn19, Option.bind_some, hk, hrd, Option.bind_some, if_pos (au (by omega)), Int.toNat_natCast, bp (by omega), Option.bind_some, w, hset, hI]
      rfl
theorem Sa (N : Nat) (c : Nat) (hc : c ≤ 138) (X1 X2 v p : Int) (l : List Int) (hl : l.length ≤ 400) (C : List qO) (L : List Bool) : ∀ (d i f : Nat), i + d = c → d < f →
    ba N f ((i : Int), (c : Int), X1, X2, v, p, 0, l ++ List.replicate i v, C, L) = some (X2, X1, p, 0, C, l ++ List.replicate c v, L) := by
  intro d
  induction d with
  | zero =>
    intro i f hi hf
    cases f with
    | zero => omega
    | succ f =>
      simp only [ba, fw, ae]
      rw [aY (by omega), show i = c by omega]
  | succ d ih =>
    intro i f hi hf
    cases f with
    | zero => omega
    | succ f =>
      have w : IntKind.wrap .i64 ((i : Int) + 1) = ((i + 1 : Nat) : Int) := by rw [wrap_i64 (by omega) (by omega)]; omega
      simp only [ba, fw, ae]
      rw [bd (by omega), if_pos (by rw [decide_eq_true_eq, List.length_append, List.length_replicate, List.length_singleton]; omega), w, List.append_assoc, ← List.replicate_succ', ih (i + 1) f (by omega) (by omega)]
      rfl
theorem Dv {c : Nat} (hc : c ≤ 138) {A B : Nat} (hAB : A + B ≤ 400) (v p : Int) (l : List Int) (hl : l.length + c ≤ A + B) (C : List qO) (L : List Bool) :
    bh 200000 ((c : Int), (B : Int), (A : Int), v, p, 0, l, C, L) = some (.inr ((A : Int), (B : Int), p, 0, C, l ++ List.replicate c v, L)) := by
  have w1 : IntKind.wrap .i64 ((l.length : Int) + (c : Int)) = ((l.length + c : Nat) : Int) := by rw [wrap_i64 (by omega) (by omega)]; omega
  have w2 : IntKind.wrap .i64 ((A : Int) + (B : Int)) = ((A + B : Nat) : Int) := by rw [wrap_i64 (by omega) (by omega)]; omega
  have hr := Sa 200000 c hc (B : Int) (A : Int) v p l (by omega) C L c 0 200000 (by omega) (by omega)
  rw [List.replicate_zero, List.append_nil, show ((0 : Nat) : Int) = 0 from rfl] at hr
  simp only [bh, ae]
  rw [if_neg (by decide), w1, w2, aY (by omega), hr, Option.bind_some]
theorem zi {L : List Int} {i : Nat} (h0 : 0 < i) (hi : i ≤ L.length) : (L.take i).length = i ∧ (L.take i)[i - 1]? = some (L.getD (i - 1) 0) := by
  have e : (L.take i).length = i := by rw [List.length_take]; omega
  refine ⟨e, ?_⟩
  rw [List.getElem?_take_of_lt (by omega), bp (by omega)]
theorem Sb {lens : List Int} (hl : lens.length = 19) (hc : (chk lens).2 = 0) (Lf : List Int) (hLf : Lf.length ≤ 320) (hok : okB Lf = true) (A B : Nat) (hAB : A + B = Lf.length) (r : List Bool) : ∀ (d i : Nat) (a : List Bool) (f : Nat), Lf.length ≤ i + d → i ≤ Lf.length → d < f →
    (∀ s ∈ bg Lf d i, 0 < lens.getD s.1.toNat 0) → (a ++ (km lens (bg Lf d i) ++ r)).length ≤ 1000000000 →
    ci 200000 f ((A : Int), (B : Int), (a.length : Int), 0, af lens, Lf.take i, a ++ (km lens (bg Lf d i) ++ r)) = some (.inr ((A : Int), ((a.length + (km lens (bg Lf d i)).length : Nat) : Int), 0, Lf, a ++ (km lens (bg Lf d i) ++ r))) := by
  have w2 : IntKind.wrap .i64 ((A : Int) + (B : Int)) = ((A + B : Nat) : Int) := by rw [wrap_i64 (by omega) (by omega)]; omega
  have done : ∀ (i : Nat) (p : Int) (f : Nat) (Q : List Bool), ¬ i < Lf.length → i ≤ Lf.length → ci 200000 (f + 1) ((A : Int), (B : Int), p, 0, af lens, Lf.take i, Q) = some (.inr ((A : Int), p, 0, Lf, Q)) := by
    intro i p f Q h1 h2
    simp only [ci, k6, ae]
    rw [w2, if_neg (by rw [List.length_take]; simp only [decide_eq_true_eq]; omega), List.take_of_length_le (by omega)]
  intro d
  induction d with
  | zero =>
    intro i a f h1 h2 hf hp hL
    cases f with
    | zero => omega
    | succ f =>
      have e : km lens (bg Lf 0 i) = [] := rfl
      rw [e, List.length_nil, Nat.add_zero]
      exact done i _ f _ (by omega) h2
  | succ d ih =>
    intro i a f h1 h2 hf hp hL
    cases f with
    | zero => omega
    | succ f =>
      by_cases hil : i < Lf.length
      · have ep : bg Lf (d + 1) i = (j8 Lf i).1 :: bg Lf d (i + (j8 Lf i).2) := by rw [bg, if_pos hil]
        have es : km lens (bg Lf (d + 1) i) = sB lens (j8 Lf i).1 ++ km lens (bg Lf d (i + (j8 Lf i).2)) := by rw [ep]; unfold km; rw [List.flatMap_cons]
        obtain ⟨m1, m2, m3⟩ := pL hil
        have hI := fun a => ih (i + (j8 Lf i).2) a f (by omega) m3 (by omega) (fun s hs => hp s (by rw [ep]; exact List.mem_cons_of_mem _ hs))
        have hpos := hp (j8 Lf i).1 (by rw [ep]; exact List.mem_cons_self ..)
        rw [es] at hL ⊢
        generalize hS : km lens (bg Lf d (i + (j8 Lf i).2)) = S at *
        obtain ⟨o1, o2, o3, o4, o5, o6⟩ := vo hok hil m1
        generalize hs : (j8 Lf i).1 = s at *
        generalize hcc : (j8 Lf i).2 = c at *
        have htl : (Lf.take i).length = i := by rw [List.length_take]; omega
        have hj : s.1.toNat < lens.length := by omega
        have hL2 : a ++ (sB lens s ++ S ++ r) = a ++ (ag (ap lens s.1.toNat) ++ (an s.2.1 s.2.2.1 ++ (S ++ r))) := by unfold sB; simp only [List.append_assoc]
        have hL3 : a ++ (sB lens s ++ S ++ r) = (a ++ ag (ap lens s.1.toNat)) ++ (an s.2.1 s.2.2.1 ++ (S ++ r)) := by rw [hL2, List.append_assoc]
        have hL4 : a ++ (sB lens s ++ S ++ r) = (a ++ sB lens s) ++ (S ++ r) := by simp only [List.append_assoc]
        have hsym := IU (N := 200000) (by decide) hc hj hpos a (an s.2.1 s.2.2.1 ++ (S ++ r)) (by rw [← hL2]; exact hL)
        rw [← hL2, Int.toNat_of_nonneg o1] at hsym
        have hput := jj (N := 200000) (by decide) (a ++ ag (ap lens s.1.toNat)) (S ++ r) s.2.1 s.2.2.1 (by rw [← hL3]; exact hL)
        rw [← hL3, List.length_append] at hput
        have hcl : am s.2.1 = s.2.1.toNat := by unfold am; omega
        have hlow : (cq (am s.2.1) s.2.2.1 : Int) = s.2.2.1 := by
          obtain ⟨v, hv⟩ := Int.eq_ofNat_of_zero_le o5
          rw [hcl, hv]
          rw [hv] at o6
          rw [fI (by omega) (by
            have : ((v : Nat) : Int) < ((2 ^ s.2.1.toNat : Nat) : Int) := by rw [Int.natCast_pow]; exact o6
            omega)]
        have hlenS : (sB lens s).length = (ag (ap lens s.1.toNat)).length + am s.2.1 := by unfold sB; rw [List.length_append, al]
        have hI := hI (a ++ sB lens s) (by rw [← hL4]; exact hL)
        rw [← hL4, List.length_append, hlenS] at hI
        rw [hlow] at hput
        have hfin : a.length + (sB lens s ++ S).length = a.length + ((ag (ap lens s.1.toNat)).length + am s.2.1) + S.length := by rw [List.length_append, hlenS]; omega
        rw [hfin]
        simp only [ci, k6, ae]
        rw [w2, if_pos (by rw [htl]; simp only [decide_eq_true_eq]; omega), hsym, Option.bind_some]
        simp only
        rw [if_neg (by decide)]
        cases m1 with
        | one h3 =>
          obtain ⟨g1, g2⟩ := tE hok hil
          have e0 : am 0 = 0 := rfl
          simp only at hI hsym hput hfin ⊢
          rw [e0, Nat.add_zero] at hI
          rw [bd (by omega), if_pos (by rw [decide_eq_true_eq, htl, List.length_singleton]; omega), ← h3, hI, e0, Nat.add_zero]
          rfl
        | again c h0 k1 k2 h3 =>
          simp only at hI hsym hput hfin ⊢
          obtain ⟨t1, t2⟩ := zi h0 (show i ≤ Lf.length by omega)
          have w5 : IntKind.wrap .i64 ((i : Int) - 1) = ((i - 1 : Nat) : Int) := by rw [wrap_i64 (by omega) (by omega)]; omega
          have w6 : IntKind.wrap .i64 ((3 : Int) + ((c : Int) - 3)) = (c : Int) := by rw [wrap_i64 (by omega) (by omega)]; omega
          rw [if_neg (by simp), if_pos (by simp), htl, if_neg (by simp only [beq_iff_eq]; omega), w5, if_pos (au (by omega)), Int.toNat_natCast, t2, Option.bind_some, hput, Option.bind_some]
          simp only
          rw [w6, Dv (by omega) (by omega) _ _ _ (by omega), Option.bind_some]
          simp only
          rw [← h3, Nat.add_assoc, hI]
          rfl
        | few c k1 k2 h3 =>
          simp only at hI hsym hput hfin ⊢
          have w6 : IntKind.wrap .i64 ((3 : Int) + ((c : Int) - 3)) = (c : Int) := by rw [wrap_i64 (by omega) (by omega)]; omega
          rw [if_neg (by simp), if_neg (by simp), if_pos (by simp), hput, Option.bind_some]
          simp only
          rw [w6, Dv (by omega) (by omega) _ _ _ (by omega), Option.bind_some]
          simp only
          rw [← h3, Nat.add_assoc, hI]
          rfl
        | zeros c k1 k2 h3 =>
          simp only at hI hsym hput hfin ⊢
          have w6 : IntKind.wrap .i64 ((11 : Int) + ((c : Int) - 11)) = (c : Int) := by rw [wrap_i64 (by omega) (by omega)]; omega
          rw [if_neg (by simp), if_neg (by simp), if_neg (by simp), if_pos (by simp), hput, Option.bind_some]
          simp only
          rw [w6, Dv (by omega) (by omega) _ _ _ (by omega), Option.bind_some]
          simp only
          rw [← h3, Nat.add_assoc, hI]
          rfl
      · have ep : bg Lf (d + 1) i = [] := by rw [bg, if_neg hil]
        have e : km lens (bg Lf (d + 1) i) = [] := by rw [ep]; rfl
        rw [e, List.length_nil, Nat.add_zero]
        exact done i _ f _ hil h2
end Go.Proofs.YteddgkplkjldcaaGreat.Am
namespace Go.Proofs.YteddgkplkjldcaaGreat.Am
open Go.Am
theorem J2 {lits dists : List Int} (h : HdOk lits dists) : (l0 lits dists).length ≤ 21000 := by
  obtain ⟨k1, k2, k3, k4⟩ := tL h
  have hn := nv (gi lits dists) 19
  have hob := fG (gi lits dists) (fp lits dists) (by unfold fp; omega)
  have hs := AS (gi lits dists) (nB lits dists)
  have hN : fp lits dists ≤ 19 := hn
  unfold l0
  simp only [List.length_append, al, hob]
  have c5 : am 5 = 5 := rfl
  have c4 : am 4 = 4 := rfl
  omega
theorem IY {lits dists : List Int} (h : HdOk lits dists) (a r : List Bool) (hL : (a ++ (l0 lits dists ++ r)).length ≤ 1000000000) :
    F24 200000 ((a.length : Int), 0, a ++ (l0 lits dists ++ r)) = some (.inr (lits.length, lits.length, dists.length, 0, ((a.length + (l0 lits dists).length : Nat) : Int), 0, lits ++ dists, a ++ (l0 lits dists ++ r))) := by
  obtain ⟨k1, k2, k3, k4⟩ := tL h
  obtain ⟨h1, h2, h3, h4, h5, h6⟩ := h
  have hn1 : fp lits dists ≤ 19 := nv _ 19
  have hn2 : 4 ≤ fp lits dists := tC _ 19 (by decide)
  have e : (lits ++ dists).length = lits.length + dists.length := List.length_append
  have hok : okB (lits ++ dists) = true := by rw [kz, h5, h6]; rfl
  generalize hB : a ++ (l0 lits dists ++ r) = L at *
  have c5 : am 5 = 5 := rfl
  have c4 : am 4 = 4 := rfl
  have b1 : L = a ++ (an 5 ((lits.length - 257 : Nat) : Int) ++ (an 5 ((dists.length - 1 : Nat) : Int) ++ (an 4 ((fp lits dists - 4 : Nat) : Int) ++ (dl (gi lits dists) (fp lits dists) ++ (km (gi lits dists) (nB lits dists) ++ r))))) := by
    rw [← hB]; unfold l0; simp only [List.append_assoc]
  have b2 : L = (a ++ an 5 ((lits.length - 257 : Nat) : Int)) ++ (an 5 ((dists.length - 1 : Nat) : Int) ++ (an 4 ((fp lits dists - 4 : Nat) : Int) ++ (dl (gi lits dists) (fp lits dists) ++ (km (gi lits dists) (nB lits dists) ++ r)))) := by rw [b1]; simp only [List.append_assoc]
  have b3 : L = (a ++ an 5 ((lits.length - 257 : Nat) : Int) ++ an 5 ((dists.length - 1 : Nat) : Int)) ++ (an 4 ((fp lits dists - 4 : Nat) : Int) ++ (dl (gi lits dists) (fp lits dists) ++ (km (gi lits dists) (nB lits dists) ++ r))) := by rw [b1]; simp only [List.append_assoc]
  have b4 : L = (a ++ an 5 ((lits.length - 257 : Nat) : Int) ++ an 5 ((dists.length - 1 : Nat) : Int) ++ an 4 ((fp lits dists - 4 : Nat) : Int)) ++ (dl (gi lits dists) (fp lits dists) ++ (km (gi lits dists) (nB lits dists) ++ r)) := by rw [b1]; simp only [List.append_assoc]
  have b5 : L = (a ++ an 5 ((lits.length - 257 : Nat) : Int) ++ an 5 ((dists.length - 1 : Nat) : Int) ++ an 4 ((fp lits dists - 4 : Nat) : Int) ++ dl (gi lits dists) (fp lits dists)) ++ (km (gi lits dists) (nB lits dists) ++ r) := by rw [b1]; simp only [List.append_assoc]
  have r1 := jj (N := 200000) (by decide) a _ 5 ((lits.length - 257 : Nat) : Int) (by rw [← b1]; exact hL)
  rw [← b1, c5, fI (by decide) (by omega)] at r1
  have r2 := jj (N := 200000) (by decide) (a ++ an 5 ((lits.length - 257 : Nat) : Int)) _ 5 ((dists.length - 1 : Nat) : Int) (by rw [← b2]; exact hL)
  rw [← b2, c5, fI (by decide) (by omega), List.length_append, al, c5] at r2
  have r3 := jj (N := 200000) (by decide) (a ++ an 5 ((lits.length - 257 : Nat) : Int) ++ an 5 ((dists.length - 1 : Nat) : Int)) _ 4 ((fp lits dists - 4 : Nat) : Int) (by rw [← b3]; exact hL)
  rw [← b3, c4, fI (by decide) (by omega), List.length_append, List.length_append, al, al, c5] at r3
  have r4 := Vm (gi lits dists) k2.len k2.bnd (a ++ an 5 ((lits.length - 257 : Nat) : Int) ++ an 5 ((dists.length - 1 : Nat) : Int) ++ an 4 ((fp lits dists - 4 : Nat) : Int)) (km (gi lits dists) (nB lits dists) ++ r) (fp lits dists) hn1 (lits.length : Int) (dists.length : Int) (by rw [← b4]; exact hL) (fp lits dists) 0 200000 (by omega) (by omega)
  rw [← b4, List.length_append, List.length_append, List.length_append, al, al, al, c5, c4, vb, show ((0 : Nat) : Int) = 0 from rfl] at r4
  have hown : jB (gi lits dists) (fp lits dists) = gi lits dists := zQ k2.len
  rw [hown] at r4
  have hob := fG (gi lits dists) (fp lits dists) hn1
  have r5 := Sb k2.len k2.chk (lits ++ dists) (by omega) hok lits.length dists.length (by omega) r (lits ++ dists).length 0 (a ++ an 5 ((lits.length - 257 : Nat) : Int) ++ an 5 ((dists.length - 1 : Nat) : Int) ++ an 4 ((fp lits dists - 4 : Nat) : Int) ++ dl (gi lits dists) (fp lits dists)) 200000 (by omega) (by omega) (by omega) k2.pos (by
    show ((a ++ an 5 ((lits.length - 257 : Nat) : Int) ++ an 5 ((dists.length - 1 : Nat) : Int) ++ an 4 ((fp lits dists - 4 : Nat) : Int) ++ dl (gi lits dists) (fp lits dists)) ++ (km (gi lits dists) (nB lits dists) ++ r)).length ≤ 1000000000
    rw [← b5]; exact hL)
  rw [show bg (lits ++ dists) (lits ++ dists).length 0 = nB lits dists from rfl, ← b5, List.take_zero, List.length_append, List.length_append, List.length_append, List.length_append, al, al, al, c5, c4, hob] at r5
  have hend : a.length + 5 + 5 + 4 + 3 * fp lits dists + (km (gi lits dists) (nB lits dists)).length = a.length + (l0 lits dists).length := by
    unfold l0
    simp only [List.length_append, al, hob, c5, c4]
    omega
  rw [hend] at r5
  have w1 : IntKind.wrap .i64 (((lits.length - 257 : Nat) : Int) + 257) = (lits.length : Int) := by rw [wrap_i64 (by omega) (by omega)]; omega
  have w2 : IntKind.wrap .i64 (((dists.length - 1 : Nat) : Int) + 1) = (dists.length : Int) := by rw [wrap_i64 (by omega) (by omega)]; omega
  have w3 : IntKind.wrap .i64 (((fp lits dists - 4 : Nat) : Int) + 4) = (fp lits dists : Int) := by rw [wrap_i64 (by omega) (by omega)]; omega
  have hC : V3 200000 (gi lits dists) = some (af (gi lits dists)) := sf (by decide) _ (by have := k2.len; omega) (bo k2.chk).2
  have hK : V4 200000 (gi lits dists) = some (chk (gi lits dists)) := Du (by decide) _
  simp only [F24, qn, ae]
  rw [r1, Option.bind_some]
  simp only
  rw [r2, Option.bind_some]
  simp only
  rw [r3, Option.bind_some]
  simp only
  rw [if_neg (by simp), w1, aY (by omega), w2, aY (by omega), w3, MK, Option.bind_some, r4, Option.bind_some]
  simp only
  rw [if_neg (by simp), hK, Option.bind_some, k2.chk, if_neg (by simp), hC, Option.bind_some, r5, Option.bind_some]
  simp only
  rw [if_pos (by rw [e]; simp only [decide_eq_true_eq]; omega), if_pos (by rw [e]; simp only [decide_eq_true_eq]; omega), Option.bind_some, Int.toNat_natCast, Nat.sub_zero, e, show lits.length + dists.length - lits.length = dists.length by omega]
end Go.Proofs.YteddgkplkjldcaaGreat.Am
