/- Best lengths; headers written and read: the Lean function that DeflateLengths comes to answers true at every input. -/
import Derived.Test.YteddgkplkjldcaaGreatAmA
import Derived.Test.YteddgkplkjldcaaGreatPA
import Derived.Test.YteddgkplkjldcaaGreatSB
import Derived.Test.YteddgkplkjldcaaGreatAmC
set_option linter.unusedSimpArgs false
set_option linter.unusedVariables false
namespace Go.Am
abbrev aD := Int × (List Int × Unit)
def gQ (x : aD) : List aD → List aD
  | [] => [x]
  | y :: l => if x.1 ≤ y.1 then x :: y :: l else y :: gQ x l
def aH : List aD → List aD
  | [] => []
  | x :: l => gQ x (aH l)
def fy : List aD → List aD → List aD
  | [], b => b
  | x :: a, [] => x :: a
  | x :: a, y :: b => if y.1 < x.1 then y :: fy (x :: a) b else x :: fy a (y :: b)
def ll (l : List aD) : Prop := l.Pairwise fun x y => x.1 ≤ y.1
theorem kL (x : aD) (a : List aD) (y : aD) (b : List aD) : fy (x :: a) (y :: b) = if y.1 < x.1 then y :: fy (x :: a) b else x :: fy a (y :: b) := by rw [fy]
theorem kK (b : List aD) : fy [] b = b := by rw [fy]
theorem eL (a : List aD) : fy a [] = a := by cases a <;> rw [fy]
theorem pW (x : aD) : ∀ l, (gQ x l).Perm (x :: l)
  | [] => .refl _
  | y :: l => by
    rw [gQ]
    split
    · exact .refl _
    · exact ((pW x l).cons y).trans (.swap x y l)
theorem ez : ∀ l, (aH l).Perm l
  | [] => .refl _
  | x :: l => (pW x _).trans ((ez l).cons x)
theorem aT (l : List aD) : (aH l).length = l.length := (ez l).length_eq
theorem Cr (x : aD) : ∀ l, ll l → ll (gQ x l)
  | [], _ => List.pairwise_singleton _ _
  | y :: l, h => by
    rw [gQ]
    have h' := List.pairwise_cons.1 h
    split
    · rename_i hxy
      exact List.pairwise_cons.2 ⟨fun z hz => by
        rcases List.mem_cons.1 hz with rfl | hz
        · exact hxy
        · exact Int.le_trans hxy (h'.1 z hz), h⟩
    · rename_i hxy
      refine List.pairwise_cons.2 ⟨fun z hz => ?_, Cr x l h'.2⟩
      rcases List.mem_cons.1 ((pW x l).mem_iff.1 hz) with rfl | hz
      · omega
      · exact h'.1 z hz
theorem di : ∀ l, ll (aH l)
  | [] => .nil
  | x :: l => Cr x _ (di l)
theorem xU (x : aD) (l : List aD) (h : ∀ y ∈ l, x.1 ≤ y.1) : gQ x l = x :: l := by
  cases l with
  | nil => rfl
  | cons y l => rw [gQ, if_pos (h y (List.mem_cons_self ..))]
theorem tN : ∀ l, ll l → aH l = l
  | [], _ => rfl
  | x :: l, h => by
    have h' := List.pairwise_cons.1 h
    rw [aH, tN l h'.2, xU x l h'.1]
theorem cZ : ∀ a b, (fy a b).Perm (a ++ b)
  | [], b => by rw [fy]; exact .refl _
  | x :: a, [] => by rw [fy, List.append_nil]
  | x :: a, y :: b => by
    rw [fy]
    split
    · exact ((cZ (x :: a) b).cons y).trans (List.perm_middle.symm)
    · exact (cZ a (y :: b)).cons x
termination_by a b => a.length + b.length
theorem G0 (a b : List aD) : (fy a b).length = a.length + b.length := by rw [(cZ a b).length_eq, List.length_append]
theorem za : ∀ a b, ll a → ll b → ll (fy a b)
  | [], b, _, hb => by rw [fy]; exact hb
  | x :: a, [], ha, _ => by rw [fy]; exact ha
  | x :: a, y :: b, ha, hb => by
    have ha' := List.pairwise_cons.1 ha
    have hb' := List.pairwise_cons.1 hb
    rw [fy]
    split
    · rename_i h
      refine List.pairwise_cons.2 ⟨fun z hz => ?_, za (x :: a) b ha hb'.2⟩
      rcases List.mem_append.1 ((cZ _ _).mem_iff.1 hz) with hz | hz
      · rcases List.mem_cons.1 hz with rfl | hz
        · omega
        · have := ha'.1 z hz; omega
      · exact hb'.1 z hz
    · rename_i h
      refine List.pairwise_cons.2 ⟨fun z hz => ?_, za a (y :: b) ha'.2 hb⟩
      rcases List.mem_append.1 ((cZ _ _).mem_iff.1 hz) with hz | hz
      · exact ha'.1 z hz
      · rcases List.mem_cons.1 hz with rfl | hz
        · omega
        · have := hb'.1 z hz; omega
termination_by a b => a.length + b.length
theorem oy (x : aD) : ∀ a b, ll a → ll b → fy (gQ x a) b = gQ x (fy a b)
  | [], [], _, _ => by simp [gQ, fy]
  | [], y :: b, _, hb => by
    have hb' := List.pairwise_cons.1 hb
    rw [gQ, fy, fy]
    split
    · rename_i h
      have := oy x [] b .nil hb'.2
      rw [gQ, fy] at this
      rw [this, gQ, if_neg (by omega)]
    · rename_i h
      rw [fy, gQ, if_pos (by omega)]
  | z :: a, [], _, _ => by rw [eL, fy]
  | z :: a, y :: b, ha, hb => by
    have ha' := List.pairwise_cons.1 ha
    have hb' := List.pairwise_cons.1 hb
    rw [gQ]
    by_cases hxz : x.1 ≤ z.1
    · rw [if_pos hxz, fy]
      by_cases hyx : y.1 < x.1
      · have ih := oy x (z :: a) b ha hb'.2
        rw [gQ, if_pos hxz] at ih
        rw [if_pos hyx, fy, if_pos (by omega), gQ, if_neg (by omega), ih]
      · rw [if_neg hyx]
        rw [xU]
        intro w hw
        rcases List.mem_append.1 ((cZ _ _).mem_iff.1 hw) with hw | hw
        · rcases List.mem_cons.1 hw with rfl | hw
          · exact hxz
          · have := ha'.1 w hw; omega
        · rcases List.mem_cons.1 hw with rfl | hw
          · omega
          · have := hb'.1 w hw; omega
    · rw [if_neg hxz, fy, fy]
      by_cases hyz : y.1 < z.1
      · have ih := oy x (z :: a) b ha hb'.2
        rw [gQ, if_neg hxz] at ih
        rw [if_pos hyz, if_pos hyz, ih, gQ, if_neg (by omega)]
      · rw [if_neg hyz, if_neg hyz, oy x a (y :: b) ha'.2 hb, gQ, if_neg (by omega)]
termination_by a b => a.length + b.length
theorem iR : ∀ a b, fy (aH a) (aH b) = aH (a ++ b)
  | [], b => by rw [aH, fy]; rfl
  | x :: a, b => by
    rw [aH, oy x _ _ (di a) (di b), iR a b]
    rfl
def wG (x : aD) : List aD → List aD
  | [] => [x]
  | y :: l => if x.1 < y.1 then x :: y :: l else y :: wG x l
theorem GZ (x : aD) : ∀ a, fy a [x] = wG x a
  | [] => by simp [fy, wG]
  | y :: a => by
    rw [fy, wG, eL]
    split
    · rfl
    · rw [GZ x a]
theorem EE (a : List aD) (x : aD) : aH (a ++ [x]) = wG x (aH a) := by
  rw [← iR, ← GZ]
  rfl
theorem dh (a1 a2 b1 b2 : List aD) (h1 : ∀ y ∈ b1, ∀ x ∈ a2, y.1 < x.1) (h2 : ∀ x ∈ a1, ∀ y ∈ b2, x.1 ≤ y.1) : fy (a1 ++ a2) (b1 ++ b2) = fy a1 b1 ++ fy a2 b2 := by
  match a1, b1 with
  | [], [] => simp [fy]
  | [], y :: b1 =>
    rw [List.nil_append]
    have ih := dh [] a2 b1 b2 (fun z hz => h1 z (List.mem_cons_of_mem _ hz)) (fun x hx => by cases hx)
    rw [List.nil_append] at ih
    cases a2 with
    | nil => simp [fy]
    | cons x a2 =>
      rw [List.cons_append, kL, if_pos (h1 y (List.mem_cons_self ..) x (List.mem_cons_self ..)), ih]
      simp [kK]
  | x :: a1, [] =>
    rw [List.nil_append]
    have ih := dh a1 a2 [] b2 (fun z hz => by cases hz) (fun w hw => h2 w (List.mem_cons_of_mem _ hw))
    rw [List.nil_append] at ih
    cases b2 with
    | nil => simp [eL]
    | cons y b2 =>
      have := h2 x (List.mem_cons_self ..) y (List.mem_cons_self ..)
      rw [List.cons_append, kL, if_neg (by omega), ih]
      simp [eL]
  | x :: a1, y :: b1 =>
    rw [List.cons_append, List.cons_append, kL, kL]
    split
    · have ih := dh (x :: a1) a2 b1 b2 (fun z hz => h1 z (List.mem_cons_of_mem _ hz)) h2
      rw [List.cons_append] at ih
      rw [ih]; rfl
    · have ih := dh a1 a2 (y :: b1) b2 h1 (fun w hw => h2 w (List.mem_cons_of_mem _ hw))
      rw [List.cons_append] at ih
      rw [ih]; rfl
termination_by a1.length + b1.length
theorem LR (a b : List aD) (h : ∀ y ∈ b, ∀ x ∈ a, y.1 < x.1) : fy a b = b ++ a := by
  have := dh [] a b [] h (fun x hx => by cases hx)
  simpa [fy, eL] using this
theorem IZ (a b : List aD) (h : ∀ x ∈ a, ∀ y ∈ b, x.1 ≤ y.1) : fy a b = a ++ b := by
  have := dh a [] [] b (fun x hx => by cases hx) h
  simpa [fy, eL] using this
def ax : List aD → List aD
  | x :: y :: l => (x.1 + y.1, x.2.1 ++ y.2.1, ()) :: ax l
  | _ => []
theorem dH : ∀ l : List aD, (ax l).length = l.length / 2
  | [] => rfl
  | [_] => by simp [ax]
  | x :: y :: l => by rw [ax, List.length_cons, dH l, List.length_cons, List.length_cons]; omega
theorem l7 : ∀ {l : List aD} {z : aD}, z ∈ ax l → ∃ x ∈ l, ∃ y ∈ l, z.1 = x.1 + y.1
  | [], z, h => by cases h
  | [_], z, h => by cases h
  | x :: y :: l, z, h => by
    rw [ax] at h
    rcases List.mem_cons.1 h with rfl | h
    · exact ⟨x, by simp, y, by simp, rfl⟩
    · obtain ⟨a, ha, b, hb, e⟩ := l7 h
      exact ⟨a, by simp [ha], b, by simp [hb], e⟩
theorem pQ : ∀ l : List aD, ll l → ll (ax l)
  | [], _ => .nil
  | [_], _ => .nil
  | x :: y :: l, h => by
    have h1 := List.pairwise_cons.1 h
    have h2 := List.pairwise_cons.1 h1.2
    rw [ax]
    refine List.pairwise_cons.2 ⟨fun z hz => ?_, pQ l h2.2⟩
    obtain ⟨a, ha, b, hb, e⟩ := l7 hz
    have k1 := h1.1 a (List.mem_cons_of_mem _ ha)
    have k2 := h2.1 b hb
    simp only
    omega
theorem jy : ∀ (l : List aD) (p : Nat), (ax l).take p = ax (l.take (2 * p))
  | [], p => by simp [ax]
  | [x], 0 => by simp [ax]
  | [x], p + 1 => by rw [show 2 * (p + 1) = 2 * p + 1 + 1 by omega]; simp [ax]
  | x :: y :: l, 0 => by simp [ax]
  | x :: y :: l, p + 1 => by
    rw [ax, List.take_succ_cons, jy l p, show 2 * (p + 1) = 2 * p + 1 + 1 by omega, List.take_succ_cons, List.take_succ_cons, ax]
def bf (l : List aD) : List Int := l.flatMap (·.2.1)
def cK (l : List aD) : Int := (l.map (·.1)).sum
theorem bq (x : aD) (l : List aD) : cK (x :: l) = x.1 + cK l := by simp [cK]
theorem gS (a b : List aD) : cK (a ++ b) = cK a + cK b := by simp [cK]
theorem gT (a b : List aD) : bf (a ++ b) = bf a ++ bf b := List.flatMap_append
theorem wZ {a b : List aD} (h : a.Perm b) : cK a = cK b := by
  induction h with
  | nil => rfl
  | cons x _ ih => rw [bq, bq, ih]
  | swap x y l => rw [bq, bq, bq, bq]; omega
  | trans _ _ h1 h2 => exact h1.trans h2
theorem lU {a b : List aD} (h : a.Perm b) : (bf a).Perm (bf b) := h.flatMap_right _
theorem nc : ∀ (l : List aD) (p : Nat), l.length = 2 * p → bf (ax l) = bf l ∧ cK (ax l) = cK l
  | [], p, _ => ⟨rfl, rfl⟩
  | [x], p, h => by simp at h; omega
  | x :: y :: l, 0, h => by simp at h
  | x :: y :: l, p + 1, h => by
    obtain ⟨h1, h2⟩ := nc l p (by simp at h; omega)
    constructor
    · unfold bf at h1 ⊢
      rw [ax, List.flatMap_cons, h1, List.flatMap_cons, List.flatMap_cons, List.append_assoc]
    · rw [ax, bq, h2, bq, bq]
      simp only
      omega
end Go.Am
namespace Go.Am
def cA : List aD → List aD → Nat → Nat
  | _, _, 0 => 0
  | [], _, _ + 1 => 0
  | _ :: a, [], m + 1 => cA a [] m + 1
  | x :: a, y :: b, m + 1 => if y.1 < x.1 then cA (x :: a) b m else cA a (y :: b) m + 1
termination_by a b => a.length + b.length
theorem zC (a b : List aD) : cA a b 0 = 0 := by cases a <;> cases b <;> rw [cA]
theorem ET (b : List aD) (m : Nat) : cA [] b m = 0 := by cases m <;> rw [cA]
theorem zD : ∀ (a : List aD) (m : Nat), cA a [] m = min m a.length
  | [], m => by rw [ET]; simp
  | x :: a, 0 => by rw [zC]; simp
  | x :: a, m + 1 => by rw [cA, zD a m, List.length_cons]; omega
theorem rq : ∀ (m : Nat) (a b : List aD), cA a b m ≤ m ∧ cA a b m ≤ a.length ∧ (m ≤ a.length + b.length → m - cA a b m ≤ b.length)
  | 0, a, b => by rw [zC]; omega
  | m + 1, [], b => by rw [ET]; simp
  | m + 1, x :: a, [] => by
    rw [zD]; simp; omega
  | m + 1, x :: a, y :: b => by
    rw [cA]
    split
    · have ih := rq m (x :: a) b
      simp only [List.length_cons] at ih ⊢
      omega
    · have ih := rq m a (y :: b)
      simp only [List.length_cons] at ih ⊢
      omega
theorem nS : ∀ (m : Nat) (a b : List aD), ((fy a b).take m).Perm (a.take (cA a b m) ++ b.take (m - cA a b m))
  | 0, a, b => by rw [zC]; simp
  | m + 1, [], b => by rw [ET, kK]; simp
  | m + 1, x :: a, [] => by
    rw [zD, eL]
    simp only [List.take_nil, List.append_nil]
    rcases Nat.le_total (m + 1) (x :: a).length with h | h
    · rw [Nat.min_eq_left h]
    · rw [Nat.min_eq_right h, List.take_length, List.take_of_length_le h]
  | m + 1, x :: a, y :: b => by
    rw [cA, kL]
    split
    · have ih := nS m (x :: a) b
      have hc := (rq m (x :: a) b).1
      rw [List.take_succ_cons, show m + 1 - cA (x :: a) b m = (m - cA (x :: a) b m) + 1 by omega, List.take_succ_cons]
      exact (ih.cons y).trans List.perm_middle.symm
    · have ih := nS m a (y :: b)
      rw [List.take_succ_cons, List.take_succ_cons, show m + 1 - (cA a (y :: b) m + 1) = m - cA a (y :: b) m by omega]
      exact ih.cons x
theorem zE : ∀ (m : Nat) (a b : List aD) (i j : Nat) (hi : i < b.length) (hj : j < a.length), ll a → i < m - cA a b m → a[j].1 ≤ b[i].1 → j < cA a b m
  | 0, a, b, i, j, hi, hj, _, h, _ => by omega
  | m + 1, [], b, i, j, hi, hj, _, h, _ => by cases hj
  | m + 1, x :: a, [], i, j, hi, hj, _, h, _ => by cases hi
  | m + 1, x :: a, y :: b, i, j, hi, hj, hs, h, hle => by
    have hs' := List.pairwise_cons.1 hs
    rw [cA] at h ⊢
    split at h
    · rename_i hlt
      rw [if_pos hlt]
      cases i with
      | zero =>
        exfalso
        have h0 : ((y :: b)[0]).1 = y.1 := rfl
        rw [h0] at hle
        cases j with
        | zero => have : ((x :: a)[0]).1 = x.1 := rfl; rw [this] at hle; omega
        | succ j =>
          have e : (x :: a)[j + 1] = a[j]'(by simpa using hj) := rfl
          rw [e] at hle
          have := hs'.1 _ (List.getElem_mem (l := a) (by simpa using hj))
          omega
      | succ i =>
        have hc := (rq m (x :: a) b).1
        exact zE m (x :: a) b i j (by simpa using hi) hj hs (by omega) hle
    · rename_i hlt
      rw [if_neg hlt]
      cases j with
      | zero => omega
      | succ j =>
        have := zE m a (y :: b) i j hi (by simpa using hj) hs'.2 (by omega) hle
        omega
def aP (l : List aD) : Nat → List aD
  | 0 => l
  | k + 1 => fy l (ax (aP l k))
theorem sZ {l : List aD} (h : ll l) : ∀ k, ll (aP l k)
  | 0 => h
  | k + 1 => za _ _ h (pQ _ (sZ h k))
theorem kA {l : List aD} (h : ∀ x ∈ l, 0 ≤ x.1) : ∀ k, ∀ x ∈ aP l k, 0 ≤ x.1
  | 0 => h
  | k + 1 => fun x hx => by
    rcases List.mem_append.1 ((cZ _ _).mem_iff.1 hx) with hx | hx
    · exact h x hx
    · obtain ⟨a, ha, b, hb, e⟩ := l7 hx
      have h1 := kA h k a ha
      have h2 := kA h k b hb
      omega
theorem oh (l : List aD) (k : Nat) : (aP l (k + 1)).length = l.length + (aP l k).length / 2 := by rw [aP, G0, dH]
theorem xB (l : List aD) : ∀ k, 2 * l.length ≤ (aP l k).length + (l.length + 2 ^ k - 1) / 2 ^ k
  | 0 => by rw [aP]; simp; omega
  | k + 1 => by
    have ih := xB l k
    have hp : 0 < 2 ^ k := Nat.pow_pos (by decide)
    have e : (l.length + 2 ^ (k + 1) - 1) / 2 ^ (k + 1) = ((l.length + 2 ^ k - 1) / 2 ^ k + 1) / 2 := by
      have e1 : (l.length + 2 ^ k - 1) / 2 ^ k + 1 = (l.length + 2 ^ k - 1 + 2 ^ k) / 2 ^ k := (Nat.add_div_right _ hp).symm
      rw [e1, Nat.div_div_eq_div_mul, Nat.pow_succ]
      congr 1
      omega
    rw [oh, e]
    omega
theorem eZ (l : List aD) {k : Nat} (h : l.length ≤ 2 ^ (k + 1)) : 2 * l.length - 2 ≤ (aP l k).length := by
  have h1 := xB l k
  have hp : 0 < 2 ^ k := Nat.pow_pos (by decide)
  have h2 : (l.length + 2 ^ k - 1) / 2 ^ k < 3 := by
    rw [Nat.div_lt_iff_lt_mul hp]
    rw [Nat.pow_succ] at h
    omega
  omega
def n0 (l : List aD) : Nat → Nat → List Nat
  | 0, m => [m]
  | k + 1, m => cA l (ax (aP l k)) m :: n0 l k (2 * (m - cA l (ax (aP l k)) m))
theorem nY (l : List aD) : ∀ k m, (n0 l k m).length = k + 1
  | 0, m => rfl
  | k + 1, m => by rw [n0, List.length_cons, nY l k]
def Ek : List Nat → Nat
  | [] => 0
  | c :: r => c * 2 ^ r.length + Ek r
theorem Q6 (l : List aD) : ∀ k m, Ek (n0 l k m) = m * 2 ^ k
  | 0, m => by simp [n0, Ek]
  | k + 1, m => by
    have hc := (rq m l (ax (aP l k))).1
    rw [n0, Ek, nY, Q6 l k, Nat.pow_succ]
    generalize cA l (ax (aP l k)) m = c at *
    obtain ⟨p, rfl⟩ : ∃ p, m = c + p := ⟨m - c, by omega⟩
    rw [Nat.add_sub_cancel_left, Nat.add_mul, Nat.mul_comm 2 p, Nat.mul_assoc, Nat.mul_comm 2 (2 ^ k)]
theorem nX {l : List aD} {k m : Nat} (h : m ≤ (aP l (k + 1)).length) : 2 * (m - cA l (ax (aP l k)) m) ≤ (aP l k).length := by
  have h1 := (rq m l (ax (aP l k))).2.2
  rw [oh] at h
  rw [dH] at h1
  have := h1 h
  omega
theorem sU {l : List aD} : ∀ k m, m ≤ (aP l k).length →
    (bf ((aP l k).take m)).Perm ((n0 l k m).flatMap fun c => bf (l.take c)) ∧ cK ((aP l k).take m) = ((n0 l k m).map fun c => cK (l.take c)).sum
  | 0, m, h => by simp [n0, aP]
  | k + 1, m, h => by
    have hn := nX h
    obtain ⟨ih1, ih2⟩ := sU k _ hn
    have hp := nS m l (ax (aP l k))
    rw [jy] at hp
    obtain ⟨e1, e2⟩ := nc ((aP l k).take (2 * (m - cA l (ax (aP l k)) m))) (m - cA l (ax (aP l k)) m) (by rw [List.length_take]; omega)
    constructor
    · have h1 := lU hp
      rw [gT, e1] at h1
      rw [n0, List.flatMap_cons]
      exact h1.trans (ih1.append_left _)
    · have h1 := wZ hp
      rw [gS, e2] at h1
      rw [n0, List.map_cons, List.sum_cons, ← ih2]
      exact h1
theorem nZ {l : List aD} : ∀ k m, m ≤ (aP l k).length → ∀ x ∈ l.take ((n0 l k m).headD 0), x ∈ (aP l k).take m
  | 0, m, h, x, hx => hx
  | k + 1, m, h, x, hx => (nS m l (ax (aP l k))).mem_iff.2 (List.mem_append_left _ hx)
theorem qZ {l : List aD} : ∀ k m, m ≤ (aP l k).length → (n0 l k m).headD 0 ≤ l.length
  | 0, m, h => h
  | k + 1, m, h => (rq m l _).2.1
theorem Cc : ∀ (l : List aD), (∀ x ∈ l, 0 ≤ x.1) → ∀ q (hq : q < l.length) (h2 : q / 2 < (ax l).length), l[q].1 ≤ (ax l)[q / 2].1
  | [], _, q, hq, _ => by cases hq
  | [x], _, q, hq, h2 => by cases h2
  | x :: y :: l, h, 0, hq, h2 => by
    have e : (ax (x :: y :: l))[0 / 2]'h2 = (x.1 + y.1, x.2.1 ++ y.2.1, ()) := rfl
    rw [e]
    have := h y (by simp)
    show x.1 ≤ x.1 + y.1
    omega
  | x :: y :: l, h, 1, hq, h2 => by
    have e : (ax (x :: y :: l))[1 / 2]'h2 = (x.1 + y.1, x.2.1 ++ y.2.1, ()) := rfl
    rw [e]
    have := h x (by simp)
    show y.1 ≤ x.1 + y.1
    omega
  | x :: y :: l, h, q + 2, hq, h2 => by
    have hl : q / 2 < (ax l).length := by
      rw [ax, List.length_cons] at h2; omega
    have ih := Cc l (fun z hz => h z (by simp [hz])) q (by simpa using hq) hl
    have e1 : (x :: y :: l)[q + 2] = l[q]'(by simpa using hq) := rfl
    have e2 : (ax (x :: y :: l))[(q + 2) / 2]'h2 = (ax l)[q / 2]'hl := by
      have : (q + 2) / 2 = q / 2 + 1 := by omega
      simp only [this, ax, List.getElem_cons_succ]
    rw [e1, e2]
    exact ih
theorem qW {l : List aD} (hs : ll l) (h0 : ∀ x ∈ l, 0 ≤ x.1) {k m j : Nat} (hm : m ≤ (aP l (k + 1)).length) (hj : j < l.length) {p : Nat} (hp : p ≤ m - cA l (ax (aP l k)) m) (hx : l[j] ∈ (aP l k).take (2 * p)) : j < cA l (ax (aP l k)) m := by
  obtain ⟨q, hq, e⟩ := List.getElem_of_mem hx
  rw [List.length_take] at hq
  rw [List.getElem_take] at e
  have hn := nX hm
  have hq2 : q / 2 < (ax (aP l k)).length := by rw [dH]; omega
  have hge := Cc (aP l k) (kA h0 k) q (by omega) hq2
  rw [e] at hge
  exact zE m l (ax (aP l k)) (q / 2) j hq2 hj hs (by omega) hge
def AI (lv : List Nat) : Prop := lv.Pairwise fun a b => b ≤ a
theorem Cg {c : Nat} {lv : List Nat} (h : AI lv) (hc : lv.headD 0 ≤ c) : AI (c :: lv) := by
  refine List.pairwise_cons.2 ⟨fun b hb => ?_, h⟩
  cases lv with
  | nil => cases hb
  | cons d lv =>
    rcases List.mem_cons.1 hb with rfl | hb
    · exact hc
    · have := (List.pairwise_cons.1 h).1 b hb
      exact Nat.le_trans this hc
theorem yP {l : List aD} (hs : ll l) (h0 : ∀ x ∈ l, 0 ≤ x.1) : ∀ k m, m ≤ (aP l k).length → AI (n0 l k m)
  | 0, m, _ => List.pairwise_singleton _ _
  | k + 1, m, hm => by
    have hn := nX hm
    refine Cg (yP hs h0 k _ hn) ?_
    have hle := qZ k _ hn
    refine Classical.byContradiction fun hc => ?_
    have hj : (n0 l k (2 * (m - cA l (ax (aP l k)) m))).headD 0 - 1 < l.length := by omega
    have hx : l[(n0 l k (2 * (m - cA l (ax (aP l k)) m))).headD 0 - 1] ∈ (aP l k).take (2 * (m - cA l (ax (aP l k)) m)) :=
      nZ k _ hn _ (List.mem_take_iff_getElem.2 ⟨_, by omega, rfl⟩)
    have := qW hs h0 hm hj (Nat.le_refl _) hx
    omega
theorem Ej {l : List aD} (hs : ll l) (h0 : ∀ x ∈ l, 0 ≤ x.1) {k m : Nat} (hm : m ≤ (aP l k).length) : ∀ c ∈ n0 l k m, c ≤ l.length := by
  have h1 := yP hs h0 k m hm
  have h2 := qZ k m hm
  intro c hc
  cases hsel : n0 l k m with
  | nil => rw [hsel] at hc; cases hc
  | cons d r =>
    rw [hsel] at h1 h2 hc
    rcases List.mem_cons.1 hc with rfl | hc
    · exact h2
    · exact Nat.le_trans ((List.pairwise_cons.1 h1).1 c hc) h2
theorem BU {l : List aD} (hs : ll l) (h0 : ∀ x ∈ l, 0 ≤ x.1) (h2 : 2 ≤ l.length) : ∀ k, 2 * l.length - 2 ≤ (aP l k).length → (n0 l k (2 * l.length - 2)).headD 0 = l.length
  | 0, hm => by
    have : (aP l 0).length = l.length := rfl
    show 2 * l.length - 2 = l.length
    omega
  | k + 1, hm => by
    have hc := rq (2 * l.length - 2) l (ax (aP l k))
    show cA l (ax (aP l k)) (2 * l.length - 2) = l.length
    refine Classical.byContradiction fun hne => ?_
    have hn := nX hm
    have hlt : 2 * l.length - 2 ≤ (aP l k).length := by omega
    have ih := BU hs h0 h2 k hlt
    have hj : l.length - 1 < l.length := by omega
    have hx : l[l.length - 1] ∈ (aP l k).take (2 * (l.length - 1)) := by
      have := nZ k _ hlt (l[l.length - 1]) (List.mem_take_iff_getElem.2 ⟨l.length - 1, by omega, rfl⟩)
      rw [show 2 * (l.length - 1) = 2 * l.length - 2 by omega]
      exact this
    have := qW hs h0 hm hj (p := l.length - 1) (by omega) hx
    omega
end Go.Am
namespace Go.Am
def ck (f : Nat → Nat) : Nat → Nat
  | 0 => 0
  | n + 1 => ck f n + f n
theorem en {f g : Nat → Nat} : ∀ n, (∀ j, j < n → f j = g j) → ck f n = ck g n
  | 0, _ => rfl
  | n + 1, h => by rw [ck, ck, en n fun j hj => h j (by omega), h n (by omega)]
theorem nV (f g : Nat → Nat) : ∀ n, ck (fun j => f j + g j) n = ck f n + ck g n
  | 0 => rfl
  | n + 1 => by rw [ck, ck, ck, nV f g n]; omega
theorem gn (a : Nat) : ∀ n, ck (fun _ => a) n = n * a
  | 0 => by simp [ck]
  | n + 1 => by rw [ck, gn a n, Nat.succ_mul]
theorem sK (a c : Nat) : ∀ n, ck (fun j => if j < c then a else 0) n = min n c * a
  | 0 => by simp [ck]
  | n + 1 => by
    rw [ck, sK a c n]
    by_cases h : n < c
    · rw [if_pos h, Nat.min_eq_left (by omega), Nat.min_eq_left (by omega), Nat.succ_mul]
    · rw [if_neg h, Nat.min_eq_right (by omega), Nat.min_eq_right (by omega), Nat.add_zero]
def Bp (lv : List Nat) (j : Nat) : Nat := lv.countP fun c => decide (j < c)
theorem tz (c : Nat) (lv : List Nat) (j : Nat) : Bp (c :: lv) j = Bp lv j + if j < c then 1 else 0 := by
  unfold Bp
  rw [List.countP_cons]
  simp
theorem Te (lv : List Nat) (j : Nat) : Bp lv j ≤ lv.length := List.countP_le_length
theorem EN {ss : List Int} : ∀ (c j : Nat) (hj : j < ss.length), ss.Nodup → (ss.take c).count ss[j] = if j < c then 1 else 0 := by
  induction ss with
  | nil => intro c j hj; cases hj
  | cons x ss ih =>
    intro c j hj hn
    have hn' := List.nodup_cons.1 hn
    cases c with
    | zero => simp
    | succ c =>
      rw [List.take_succ_cons]
      cases j with
      | zero =>
        have : (ss.take c).count x = 0 := List.count_eq_zero.2 fun h => hn'.1 (List.mem_of_mem_take h)
        simp [this]
      | succ j =>
        have hjs : j < ss.length := by simpa using hj
        have hne : x ≠ ss[j] := fun e => hn'.1 (by rw [e]; exact List.getElem_mem hjs)
        have e : (x :: ss)[j + 1] = ss[j] := rfl
        rw [e, List.count_cons, ih c j hjs hn'.2]
        have : (x == ss[j]) = false := by simpa using hne
        rw [this]
        simp
theorem oN {ss : List Int} (hn : ss.Nodup) {j : Nat} (hj : j < ss.length) : ∀ lv : List Nat, (lv.flatMap fun c => ss.take c).count ss[j] = Bp lv j
  | [] => rfl
  | c :: lv => by rw [List.flatMap_cons, List.count_append, EN c j hj hn, oN hn hj lv, tz]; omega
theorem Ri {n : Nat} : ∀ (lv : List Nat), AI lv → (∀ c ∈ lv, c ≤ n) → ck (fun j => 2 ^ (lv.length - Bp lv j)) n + Ek lv = n * 2 ^ lv.length
  | [], _, _ => by
    have := gn 1 n
    simp only [Bp, List.countP_nil, List.length_nil, Ek, Nat.sub_zero, Nat.pow_zero, Nat.add_zero, Nat.mul_one] at this ⊢
    exact this
  | c :: lv, h, hle => by
    have h' := List.pairwise_cons.1 h
    have ih := Ri (n := n) lv h'.2 fun d hd => hle d (List.mem_cons_of_mem _ hd)
    have hc := hle c (List.mem_cons_self ..)
    have key : ck (fun j => 2 ^ ((c :: lv).length - Bp (c :: lv) j) + if j < c then 2 ^ lv.length else 0) n = ck (fun j => 2 ^ lv.length + 2 ^ (lv.length - Bp lv j)) n := by
      refine en n fun j hj => ?_
      rw [tz, List.length_cons]
      by_cases hjc : j < c
      · rw [if_pos hjc, if_pos hjc, show lv.length + 1 - (Bp lv j + 1) = lv.length - Bp lv j by omega, Nat.add_comm]
      · have h0 : Bp lv j = 0 := by
          unfold Bp
          rw [List.countP_eq_zero]
          intro d hd
          have := h'.1 d hd
          simp; omega
        rw [if_neg hjc, if_neg hjc, h0, Nat.sub_zero, Nat.add_zero, Nat.sub_zero, Nat.pow_succ]
        omega
    rw [nV, nV, sK, gn, Nat.min_eq_right hc] at key
    rw [Ek, List.length_cons, Nat.pow_succ]
    have e : n * (2 ^ lv.length * 2) = n * 2 ^ lv.length + n * 2 ^ lv.length := by rw [Nat.mul_comm (2 ^ lv.length) 2, Nat.two_mul, Nat.mul_add]
    rw [e]
    rw [List.length_cons] at key
    omega
theorem qR : ∀ {l : List aD}, (∀ x ∈ l, 0 ≤ x.1) → 0 ≤ cK l
  | [], _ => by simp [cK]
  | x :: l, h => by
    have h1 := h x (List.mem_cons_self ..)
    have h2 := qR (l := l) fun y hy => h y (List.mem_cons_of_mem _ hy)
    rw [bq]; omega
theorem km {l : List aD} (h : ∀ x ∈ l, 0 ≤ x.1) {m k : Nat} (hmk : m ≤ k) : cK (l.take m) ≤ cK (l.take k) := by
  have e : l.take k = l.take m ++ (l.drop m).take (k - m) := by
    rw [← List.take_append_drop m (l.take k), List.take_take, Nat.min_eq_left hmk, List.drop_take]
  rw [e, gS]
  have := qR (l := (l.drop m).take (k - m)) fun x hx => h x (List.mem_of_mem_drop (List.mem_of_mem_take hx))
  omega
theorem sq {l : List aD} {m : Nat} (h : m < l.length) : cK (l.take (m + 1)) = cK (l.take m) + l[m].1 := by
  rw [List.take_add_one, List.getElem?_eq_getElem h, gS]
  simp [cK]
theorem KM {R S : List aD} (h : S.Sublist R) : ll R → cK (R.take S.length) ≤ cK S := by
  induction h with
  | slnil => intro _; simp [cK]
  | @cons S R a hs ih =>
    intro hR
    have hR' := List.pairwise_cons.1 hR
    have ih := ih hR'.2
    have hl := hs.length_le
    cases hm : S.length with
    | zero =>
      have : S = [] := List.eq_nil_of_length_eq_zero hm
      subst this
      simp [cK]
    | succ m =>
      rw [hm] at ih hl
      rw [sq (by omega)] at ih
      rw [List.take_succ_cons, bq]
      have := hR'.1 R[m] (List.getElem_mem (by omega))
      omega
  | @cons_cons S R a hs ih =>
    intro hR
    have hR' := List.pairwise_cons.1 hR
    rw [List.length_cons, List.take_succ_cons, bq, bq]
    have := ih hR'.2
    omega
theorem GI {R S B : List aD} (hs : S.Sublist B) (hp : B.Perm R) (hR : ll R) : cK (R.take S.length) ≤ cK S := by
  obtain ⟨S', h1, h2⟩ := List.exists_perm_sublist hs hp
  have := KM h2 hR
  rw [h1.length_eq, wZ h1] at this
  exact this
def qN (A : Nat → List aD) : Nat → Nat
  | 0 => (A 0).length
  | k + 1 => (A (k + 1)).length + qN A k / 2
def wN (A : Nat → List aD) : Nat → Int
  | 0 => cK (A 0)
  | k + 1 => wN A k + cK (A (k + 1))
theorem BX {coins l : List aD} (hp : coins.Perm l) (hs : ll l) (h0 : ∀ x ∈ l, 0 ≤ x.1) (A : Nat → List aD) (hA : ∀ k, (A k).Sublist coins) : ∀ k, qN A k ≤ (aP l k).length ∧ cK ((aP l k).take (qN A k)) ≤ wN A k
  | 0 => ⟨by have := (hA 0).length_le; rw [hp.length_eq] at this; exact this, GI (hA 0) hp hs⟩
  | k + 1 => by
    obtain ⟨ih1, ih2⟩ := BX hp hs h0 A hA k
    have hl := (hA (k + 1)).length_le
    rw [hp.length_eq] at hl
    have hP : ((ax (aP l k)).take (qN A k / 2)).length = qN A k / 2 := by rw [List.length_take, dH]; omega
    have hw : cK ((ax (aP l k)).take (qN A k / 2)) ≤ wN A k := by
      rw [jy]
      have e := (nc ((aP l k).take (2 * (qN A k / 2))) (qN A k / 2) (by rw [List.length_take]; omega)).2
      rw [e]
      have := km (kA h0 k) (show 2 * (qN A k / 2) ≤ qN A k by omega)
      omega
    have hsub : (A (k + 1) ++ (ax (aP l k)).take (qN A k / 2)).Sublist (coins ++ ax (aP l k)) := (hA (k + 1)).append (List.take_sublist ..)
    have hperm : (coins ++ ax (aP l k)).Perm (aP l (k + 1)) := (hp.append_right _).trans (cZ _ _).symm
    have := GI hsub hperm (sZ hs (k + 1))
    rw [List.length_append, hP, gS] at this
    refine ⟨by rw [qN, oh]; omega, ?_⟩
    rw [qN, wN]
    omega
def yN (A : Nat → List aD) (n : Nat) : Nat := ck (fun i => (A i).length * 2 ^ i) n
theorem Ra (A : Nat → List aD) : ∀ k, qN A k = yN A (k + 1) / 2 ^ k
  | 0 => by simp [qN, yN, ck]
  | k + 1 => by
    have ih := Ra A k
    rw [qN, ih, Nat.div_div_eq_div_mul]
    have e : yN A (k + 1 + 1) = yN A (k + 1) + (A (k + 1)).length * 2 ^ (k + 1) := rfl
    rw [e, Nat.add_mul_div_right _ _ (Nat.pow_pos (by decide)), Nat.pow_succ, Nat.add_comm]
theorem Lr (a : Nat) : ∀ n, a ≤ n → ck (fun i => if a ≤ i then 2 ^ i else 0) n + 2 ^ a = 2 ^ n := by
  intro n
  induction n with
  | zero => intro h; rw [show a = 0 by omega]; rfl
  | succ n ih =>
    intro h
    rw [ck]
    by_cases e : a = n + 1
    · subst e
      have : ck (fun i => if n + 1 ≤ i then 2 ^ i else 0) n = ck (fun _ => 0) n := en n fun j hj => if_neg (by omega)
      rw [this, gn, if_neg (by omega)]
      omega
    · have := ih (by omega)
      rw [if_pos (by omega), Nat.pow_succ]
      omega
def Bq (z : List (aD × Nat)) (most i : Nat) : List aD := (z.filter fun p => decide (most - p.2 ≤ i)).map (·.1)
def BY (most : Nat) : List (aD × Nat) → Nat
  | [] => 0
  | p :: z => 2 ^ (most - p.2) + BY most z
def Hd : List (aD × Nat) → Int
  | [] => 0
  | p :: z => p.1.1 * p.2 + Hd z
theorem Pg (z : List (aD × Nat)) (most i : Nat) : (Bq z most i).Sublist (z.map (·.1)) := (List.filter_sublist).map _
theorem Cl (p : aD × Nat) (z : List (aD × Nat)) (most i : Nat) : Bq (p :: z) most i = if most - p.2 ≤ i then p.1 :: Bq z most i else Bq z most i := by
  unfold Bq
  rw [List.filter_cons]
  by_cases h : most - p.2 ≤ i
  · simp [h]
  · simp [h]
theorem Q5 (most : Nat) : ∀ z : List (aD × Nat), (∀ p ∈ z, p.2 ≤ most) → yN (Bq z most) most + BY most z = z.length * 2 ^ most
  | [], _ => by
    have : yN (Bq [] most) most = ck (fun _ => 0) most := en most fun j hj => by simp [Bq]
    rw [this, gn]
    simp [BY]
  | p :: z, h => by
    have ih := Q5 most z fun q hq => h q (List.mem_cons_of_mem _ hq)
    have hp := h p (List.mem_cons_self ..)
    have e : yN (Bq (p :: z) most) most = ck (fun i => (if most - p.2 ≤ i then 2 ^ i else 0) + (Bq z most i).length * 2 ^ i) most := by
      refine en most fun j hj => ?_
      rw [Cl]
      by_cases hh : most - p.2 ≤ j
      · rw [if_pos hh, if_pos hh, List.length_cons, Nat.succ_mul, Nat.add_comm]
      · rw [if_neg hh, if_neg hh, Nat.zero_add]
    have hs := Lr (most - p.2) most (by omega)
    rw [e, nV, BY, List.length_cons, Nat.succ_mul]
    unfold yN at ih
    omega
def fz (f : Nat → Int) : Nat → Int
  | 0 => 0
  | n + 1 => fz f n + f n
theorem KG (A : Nat → List aD) : ∀ k, wN A k = fz (fun i => cK (A i)) (k + 1)
  | 0 => by simp [wN, fz]
  | k + 1 => by rw [wN, KG A k]; rfl
theorem jp {f g : Nat → Int} : ∀ n, (∀ j, j < n → f j = g j) → fz f n = fz g n
  | 0, _ => rfl
  | n + 1, h => by rw [fz, fz, jp n fun j hj => h j (by omega), h n (by omega)]
theorem BO (f g : Nat → Int) : ∀ n, fz (fun j => f j + g j) n = fz f n + fz g n
  | 0 => rfl
  | n + 1 => by rw [fz, fz, fz, BO f g n]; omega
theorem pI : ∀ n, fz (fun _ => 0) n = 0
  | 0 => rfl
  | n + 1 => by rw [fz, pI n]; rfl
theorem IB (a : Nat) (w : Int) : ∀ n, a ≤ n → fz (fun i => if a ≤ i then w else 0) n = w * ((n - a : Nat) : Int) := by
  intro n
  induction n with
  | zero => intro h; simp [fz]
  | succ n ih =>
    intro h
    rw [fz]
    by_cases e : a = n + 1
    · subst e
      have : fz (fun i => if n + 1 ≤ i then w else 0) n = fz (fun _ => 0) n := jp n fun j hj => if_neg (by omega)
      rw [this, pI, if_neg (by omega)]
      simp
    · rw [ih (by omega), if_pos (by omega), show n + 1 - a = (n - a) + 1 by omega, Int.natCast_add, Int.mul_add]
      simp
theorem Hc (most : Nat) : ∀ z : List (aD × Nat), (∀ p ∈ z, p.2 ≤ most) → fz (fun i => cK (Bq z most i)) most = Hd z
  | [], _ => by
    have : fz (fun i => cK (Bq [] most i)) most = fz (fun _ => 0) most := jp most fun j hj => by simp [Bq, cK]
    rw [this, pI]; rfl
  | p :: z, h => by
    have ih := Hc most z fun q hq => h q (List.mem_cons_of_mem _ hq)
    have hp := h p (List.mem_cons_self ..)
    have e : fz (fun i => cK (Bq (p :: z) most i)) most = fz (fun i => (if most - p.2 ≤ i then p.1.1 else 0) + cK (Bq z most i)) most := by
      refine jp most fun j hj => ?_
      rw [Cl]
      by_cases hh : most - p.2 ≤ j
      · rw [if_pos hh, if_pos hh, bq]
      · rw [if_neg hh, if_neg hh, Int.zero_add]
    rw [e, BO, ih, IB _ _ most (by omega), Hd, show most - (most - p.2) = p.2 by omega]
theorem Y3 {coins l : List aD} (hp : coins.Perm l) (hs : ll l) (h0 : ∀ x ∈ l, 0 ≤ x.1) {K : Nat} (z : List (aD × Nat)) (hz : z.map (·.1) = coins) (hm : ∀ p ∈ z, p.2 ≤ K + 1) (hk : BY (K + 1) z ≤ 2 ^ (K + 1)) :
    cK ((aP l K).take (2 * l.length - 2)) ≤ Hd z := by
  have h1 := BX hp hs h0 (Bq z (K + 1)) (fun k => by rw [← hz]; exact Pg z (K + 1) k) K
  have h2 := Q5 (K + 1) z hm
  have h3 := Hc (K + 1) z hm
  have hl : z.length = l.length := by rw [← hp.length_eq, ← hz, List.length_map]
  rw [KG, h3] at h1
  have hq : 2 * l.length - 2 ≤ qN (Bq z (K + 1)) K := by
    rw [Ra, Nat.le_div_iff_mul_le (Nat.pow_pos (by decide))]
    rw [hl] at h2
    have e : 2 ^ (K + 1) = 2 * 2 ^ K := by rw [Nat.pow_succ, Nat.mul_comm]
    rw [e] at h2 hk
    generalize 2 ^ K = q at *
    generalize yN (Bq z (K + 1)) (K + 1) = y at *
    rw [Nat.sub_mul]
    have : l.length * (2 * q) = 2 * l.length * q := by rw [← Nat.mul_assoc, Nat.mul_comm l.length 2]
    omega
  exact Int.le_trans (km (kA h0 K) hq) h1.2
end Go.Am
namespace Go.Am
def an (fr : List Int) : Nat → List aD
  | 0 => []
  | i + 1 => if 0 < fr.getD i 0 then an fr i ++ [(fr.getD i 0, [(i : Int)], ())] else an fr i
theorem fg (fr : List Int) : ∀ i, (an fr i).length ≤ i
  | 0 => Nat.le_refl _
  | i + 1 => by
    have := fg fr i
    rw [an]
    split
    · rw [List.length_append, List.length_singleton]; omega
    · omega
theorem ff (fr : List Int) : ∀ (i : Nat) (x : aD), x ∈ an fr i → ∃ j : Nat, j < i ∧ 0 < fr.getD j 0 ∧ x = (fr.getD j 0, [(j : Int)], ())
  | 0, x, h => by cases h
  | i + 1, x, h => by
    rw [an] at h
    by_cases h0 : 0 < fr.getD i 0
    · rw [if_pos h0] at h
      rcases List.mem_append.1 h with h | h
      · obtain ⟨j, h1, h2⟩ := ff fr i x h
        exact ⟨j, by omega, h2⟩
      · exact ⟨i, by omega, h0, List.mem_singleton.1 h⟩
    · rw [if_neg h0] at h
      obtain ⟨j, h1, h2⟩ := ff fr i x h
      exact ⟨j, by omega, h2⟩
theorem dE : ∀ {l : List aD}, (∀ x ∈ l, ∃ s, x.2.1 = [s]) → (bf l).length = l.length ∧ ∀ c, bf (l.take c) = (bf l).take c
  | [], _ => ⟨rfl, fun c => by simp [bf]⟩
  | x :: l, h => by
    obtain ⟨s, hs⟩ := h x (List.mem_cons_self ..)
    obtain ⟨h1, h2⟩ := dE (l := l) fun y hy => h y (List.mem_cons_of_mem _ hy)
    have e : bf (x :: l) = s :: bf l := by unfold bf; rw [List.flatMap_cons, hs]; rfl
    refine ⟨by rw [e, List.length_cons, List.length_cons, h1], fun c => ?_⟩
    cases c with
    | zero => simp [bf]
    | succ c =>
      have e2 : bf (x :: l.take c) = s :: bf (l.take c) := by unfold bf; rw [List.flatMap_cons, hs]; rfl
      rw [List.take_succ_cons, e2, h2 c, e, List.take_succ_cons]
theorem ub (fr : List Int) (i : Nat) : ∀ x ∈ an fr i, ∃ s, x.2.1 = [s] := fun x hx => by
  obtain ⟨j, _, _, e⟩ := ff fr i x hx
  exact ⟨j, by rw [e]⟩
theorem fJ (fr : List Int) : ∀ i, bf (an fr i) = ((List.range i).filter fun j => decide (0 < fr.getD j 0)).map fun (j : Nat) => (j : Int)
  | 0 => rfl
  | i + 1 => by
    rw [List.range_succ, List.filter_append, List.map_append, ← fJ fr i, an]
    by_cases h : 0 < fr.getD i 0
    · rw [if_pos h, gT]
      simp only [List.filter_cons, decide_eq_true h, if_true, List.filter_nil, List.map_cons, List.map_nil]
      rfl
    · rw [if_neg h]
      simp only [List.filter_cons, decide_eq_false h, Bool.false_eq_true, if_false, List.filter_nil, List.map_nil, List.append_nil]
theorem wI (fr : List Int) (i : Nat) : (bf (an fr i)).Nodup := by
  rw [fJ]
  have : ((List.range i).filter fun j => decide (0 < fr.getD j 0)).Nodup := List.nodup_range.filter _
  unfold List.Nodup
  rw [List.pairwise_map]
  exact List.Pairwise.imp (fun {a b} hab h => hab (by omega)) this
def fh (n : Nat) (S : List Int) : List Int := (List.range n).map fun (i : Nat) => ((S.count (i : Int) : Nat) : Int)
theorem dV (n : Nat) (S : List Int) : (fh n S).length = n := by simp [fh]
theorem iX (n : Nat) (S : List Int) {i : Nat} (h : i < n) : (fh n S)[i]? = some ((S.count (i : Int) : Nat) : Int) := by
  unfold fh; rw [List.getElem?_map, List.getElem?_range h]; rfl
theorem oR (n : Nat) : fh n [] = List.replicate n 0 := by
  apply List.ext_getElem?
  intro i
  by_cases h : i < n
  · rw [iX n [] h, List.getElem?_replicate, if_pos h]; rfl
  · rw [List.getElem?_eq_none (by rw [dV]; omega), List.getElem?_eq_none (by rw [List.length_replicate]; omega)]
theorem qc (n : Nat) (S : List Int) {x : Nat} (hx : x < n) : (fh n S).set x ((S.count (x : Int) : Int) + 1) = fh n (S ++ [(x : Int)]) := by
  apply List.ext_getElem?
  intro i
  by_cases h : i < n
  · rw [List.getElem?_set, iX n S h, iX n _ h, List.count_append, List.count_singleton, dV]
    by_cases e : x = i
    · subst e
      rw [if_pos rfl, if_pos hx]
      simp
    · rw [if_neg e]
      have : ((x : Int) == (i : Int)) = false := by simpa using (by omega : (x : Int) ≠ (i : Int))
      rw [this]
      simp
  · rw [List.getElem?_eq_none (by rw [List.length_set, dV]; omega), List.getElem?_eq_none (by rw [dV]; omega)]
def bN (l : List aD) (most : Nat) : List Int :=
  if l.length = 1 then bf l else if l.length < 2 then [] else bf ((aP l (most - 1)).take (2 * l.length - 2))
def okF (fr : List Int) : Bool := fr.all fun x => decide (0 ≤ x) && decide (x ≤ 1073741824)
def kP (fr : List Int) (most : Int) : Int × List Int :=
  if 320 < fr.length ∨ most < 1 ∨ 15 < most ∨ okF fr = false then (1, []) else
  if 2 ^ most.toNat < (an fr fr.length).length then (50, []) else
  (0, fh fr.length (bN (aH (an fr fr.length)) most.toNat))
theorem IK {l : List aD} (h : ll l) (k : Nat) : aH (l ++ ax (aP l k)) = aP l (k + 1) := by
  rw [aP, ← iR, tN l h, tN _ (pQ _ (sZ h k))]
theorem q7 (l : List aD) : ∀ k, (aP l k).length ≤ 2 * l.length
  | 0 => by rw [aP]; omega
  | k + 1 => by have := q7 l k; rw [oh]; omega
theorem ta {l : List aD} {w : Int} (h : ∀ x ∈ l, 0 ≤ x.1 ∧ x.1 ≤ w) : ∀ k, ∀ x ∈ aP l k, 0 ≤ x.1 ∧ x.1 ≤ w * 2 ^ k
  | 0 => fun x hx => by rw [Int.pow_zero, Int.mul_one]; exact h x hx
  | k + 1 => fun x hx => by
    have hp : (0 : Int) < 2 ^ k := Int.pow_pos (by decide)
    have e : w * 2 ^ (k + 1) = 2 * (w * 2 ^ k) := by rw [Int.pow_succ]; rw [← Int.mul_assoc, Int.mul_comm _ 2]
    rcases List.mem_append.1 ((cZ _ _).mem_iff.1 hx) with hx | hx
    · obtain ⟨h1, h2⟩ := h x hx
      refine ⟨h1, ?_⟩
      have hw : 0 ≤ w := by omega
      have : w * 1 ≤ w * 2 ^ k := Int.mul_le_mul_of_nonneg_left (by omega) hw
      have h3 : 0 ≤ w * 2 ^ k := Int.mul_nonneg hw (by omega)
      rw [e]; omega
    · obtain ⟨a, ha, b, hb, e2⟩ := l7 hx
      have h1 := ta h k a ha
      have h2 := ta h k b hb
      rw [e]; omega
end Go.Am
namespace Go.Am
theorem xt (f : Nat → Nat) : ∀ n, ((List.range n).map f).sum = ck f n
  | 0 => rfl
  | n + 1 => by rw [List.range_succ, List.map_append, List.sum_append, xt f n]; simp [ck]
theorem sJ {α : Type} (p : α → Bool) (h : α → Nat) : ∀ l : List α, (∀ x ∈ l, p x = false → h x = 0) → (l.map h).sum = ((l.filter p).map h).sum
  | [], _ => rfl
  | x :: l, hx => by
    have ih := sJ p h l fun y hy => hx y (List.mem_cons_of_mem _ hy)
    rw [List.filter_cons]
    cases hp : p x with
    | true => simp [ih]
    | false =>
      have := hx x (List.mem_cons_self ..) hp
      simp [ih, this]
theorem I0 (f : Int → Nat) (ss : List Int) : (ss.map f).sum = ck (fun j => f (ss.getD j 0)) ss.length := by
  rw [← xt]
  congr 1
  apply List.ext_getElem?
  intro i
  rw [List.getElem?_map, List.getElem?_map]
  by_cases h : i < ss.length
  · rw [List.getElem?_range h, List.getElem?_eq_getElem h]
    simp [List.getD, h]
  · rw [List.getElem?_eq_none (by omega), List.getElem?_eq_none (by simpa using h)]
    rfl
structure Coins (l : List aD) : Prop where
  srt : ll l
  pos : ∀ x ∈ l, 0 < x.1
  one : ∀ x ∈ l, ∃ s, x.2.1 = [s]
  nodup : (bf l).Nodup
theorem oP (fr : List Int) : Coins (aH (an fr fr.length)) := by
  have hp := ez (an fr fr.length)
  refine ⟨di _, fun x hx => ?_, fun x hx => ub fr _ x (hp.mem_iff.1 hx), ?_⟩
  · obtain ⟨j, _, h, e⟩ := ff fr _ x (hp.mem_iff.1 hx)
    rw [e]; exact h
  · exact (lU hp).nodup_iff.2 (wI fr _)
theorem Coins.pos0 {l : List aD} (h : Coins l) : ∀ x ∈ l, 0 ≤ x.1 := fun x hx => Int.le_of_lt (h.pos x hx)
theorem tq {l : List aD} (h : Coins l) (h2 : 2 ≤ l.length) {K : Nat} (hK : l.length ≤ 2 ^ (K + 1)) (s : Int) :
    (bN l (K + 1)).count s = ((n0 l K (2 * l.length - 2)).flatMap fun c => (bf l).take c).count s := by
  unfold bN
  rw [if_neg (by omega), if_neg (by omega), Nat.add_sub_cancel]
  have := (sU (l := l) K (2 * l.length - 2) (eZ l hK)).1
  rw [this.count_eq]
  congr 2
  funext c
  exact (dE h.one).2 c
theorem GO {l : List aD} (h : Coins l) (h2 : 2 ≤ l.length) {K : Nat} (hK : l.length ≤ 2 ^ (K + 1)) {j : Nat} (hj : j < l.length) :
    (bN l (K + 1)).count ((bf l).getD j 0) = Bp (n0 l K (2 * l.length - 2)) j := by
  have hl := (dE h.one).1
  have e : (bf l).getD j 0 = (bf l)[j]'(by omega) := by rw [List.getD, List.getElem?_eq_getElem (by omega)]; rfl
  rw [tq h h2 hK, e, oN h.nodup]
theorem tA {l : List aD} (h : Coins l) (h2 : 2 ≤ l.length) {K : Nat} (hK : l.length ≤ 2 ^ (K + 1)) {j : Nat} (hj : j < l.length) :
    1 ≤ Bp (n0 l K (2 * l.length - 2)) j ∧ Bp (n0 l K (2 * l.length - 2)) j ≤ K + 1 := by
  have hf := BU h.srt h.pos0 h2 K (eZ l hK)
  have hlen := nY l K (2 * l.length - 2)
  have hle := Te (n0 l K (2 * l.length - 2)) j
  refine ⟨?_, by omega⟩
  cases hs : n0 l K (2 * l.length - 2) with
  | nil => rw [hs] at hlen; simp at hlen
  | cons c r =>
    rw [hs] at hf
    have hf : c = l.length := hf
    rw [tz, if_pos (by omega)]
    omega
theorem IS {l : List aD} (h : Coins l) (h2 : 2 ≤ l.length) {K : Nat} (hK : l.length ≤ 2 ^ (K + 1)) {s : Int} (hs : ¬ s ∈ bf l) : (bN l (K + 1)).count s = 0 := by
  rw [tq h h2 hK, List.count_eq_zero]
  intro hm
  obtain ⟨c, _, hc⟩ := List.mem_flatMap.1 hm
  exact hs (List.mem_of_mem_take hc)
def OM (x : Nat) : Nat := if 0 < x then 2 ^ (15 - x) else 0
theorem BN (a : Nat) (f : Nat → Nat) : ∀ n, ck (fun j => a * f j) n = a * ck f n
  | 0 => rfl
  | n + 1 => by rw [ck, ck, BN a f n, Nat.mul_add]
theorem ED {l : List aD} (h : Coins l) (h2 : 2 ≤ l.length) {K : Nat} (hK : l.length ≤ 2 ^ (K + 1)) (hm : K + 1 ≤ 15) : ((bf l).map fun s => OM ((bN l (K + 1)).count s)).sum = 32768 := by
  have hl := (dE h.one).1
  have hlen := nY l K (2 * l.length - 2)
  have hk := Ri (n := l.length) (n0 l K (2 * l.length - 2)) (yP h.srt h.pos0 K _ (eZ l hK)) (Ej h.srt h.pos0 (eZ l hK))
  rw [Q6, hlen] at hk
  rw [I0, hl]
  have e : ck (fun j => OM ((bN l (K + 1)).count ((bf l).getD j 0))) l.length = ck (fun j => 2 ^ (15 - (K + 1)) * 2 ^ (K + 1 - Bp (n0 l K (2 * l.length - 2)) j)) l.length := by
    refine en _ fun j hj => ?_
    obtain ⟨o1, o2⟩ := tA h h2 hK hj
    rw [GO h h2 hK hj]
    unfold OM
    rw [if_pos (by omega), ← Nat.pow_add]
    congr 1
    omega
  rw [e, BN]
  have e2 : 2 ^ (K + 1) = 2 * 2 ^ K := by rw [Nat.pow_succ, Nat.mul_comm]
  have : ck (fun j => 2 ^ (K + 1 - Bp (n0 l K (2 * l.length - 2)) j)) l.length = 2 ^ (K + 1) := by
    rw [e2] at hk ⊢
    generalize 2 ^ K = q at *
    generalize ck _ _ = y at *
    have e3 : l.length * (2 * q) = 2 * l.length * q := by rw [← Nat.mul_assoc, Nat.mul_comm l.length 2]
    rw [Nat.sub_mul, e3] at hk
    have : 2 * q ≤ 2 * l.length * q := Nat.mul_le_mul_right q (by omega)
    omega
  rw [this, ← Nat.pow_add, show 15 - (K + 1) + (K + 1) = 15 by omega]
end Go.Am
namespace Go.Am
theorem tr {l : List aD} (h : Coins l) {m : Nat} (hm : 1 ≤ m) (hm2 : m ≤ 15) (hn : l.length ≤ 2 ^ m) :
    (∀ s, s ∈ bf l → 1 ≤ (bN l m).count s ∧ (bN l m).count s ≤ m) ∧ (∀ s, ¬ s ∈ bf l → (bN l m).count s = 0) ∧
    ((bf l).map fun s => OM ((bN l m).count s)).sum = if 2 ≤ l.length then 32768 else if l.length = 1 then 16384 else 0 := by
  obtain ⟨K, rfl⟩ : ∃ K, m = K + 1 := ⟨m - 1, by omega⟩
  have hl := (dE h.one).1
  by_cases h2 : 2 ≤ l.length
  · refine ⟨fun s hs => ?_, fun s hs => IS h h2 hn hs, ?_⟩
    · obtain ⟨j, hj, e⟩ := List.getElem_of_mem hs
      have e2 : (bf l).getD j 0 = s := by rw [List.getD, List.getElem?_eq_getElem hj, ← e]; rfl
      rw [← e2, GO h h2 hn (by omega)]
      exact tA h h2 hn (by omega)
    · rw [if_pos h2]
      exact ED h h2 hn hm2
  · rw [if_neg h2]
    by_cases h1 : l.length = 1
    · have hp : bN l (K + 1) = bf l := by unfold bN; rw [if_pos h1]
      rw [hp, if_pos h1]
      obtain ⟨x, hx⟩ := List.length_eq_one_iff.1 (hl.trans h1)
      rw [hx]
      refine ⟨fun s hs => ?_, fun s hs => List.count_eq_zero.2 hs, ?_⟩
      · rw [List.mem_singleton.1 hs, List.count_singleton_self]
        omega
      · simp [OM]
    · have h0 : l = [] := List.eq_nil_of_length_eq_zero (by omega)
      subst h0
      have hp : bN [] (K + 1) = [] := by unfold bN; rw [if_neg (by decide), if_pos (by decide)]
      rw [hp, if_neg (by decide)]
      exact ⟨fun s hs => (by cases hs), fun s _ => rfl, rfl⟩
theorem Ch {fr : List Int} {i : Nat} (hi : i < fr.length) : ((i : Int) ∈ bf (aH (an fr fr.length))) ↔ 0 < fr.getD i 0 := by
  rw [(lU (ez _)).mem_iff, fJ, List.mem_map]
  constructor
  · rintro ⟨j, hj, e⟩
    have hj := List.mem_filter.1 hj
    have : j = i := by omega
    subst this
    simpa using hj.2
  · intro h
    exact ⟨i, List.mem_filter.2 ⟨List.mem_range.2 hi, by simpa using h⟩, rfl⟩
theorem IL {fr : List Int} {m : Nat} (hm : 1 ≤ m) (hm2 : m ≤ 15) (hn : (aH (an fr fr.length)).length ≤ 2 ^ m) :
    ((List.range fr.length).map fun (i : Nat) => OM ((bN (aH (an fr fr.length)) m).count (i : Int))).sum =
      if 2 ≤ (aH (an fr fr.length)).length then 32768 else if (aH (an fr fr.length)).length = 1 then 16384 else 0 := by
  obtain ⟨p1, p2, p3⟩ := tr (oP fr) hm hm2 hn
  rw [← p3, sJ (fun j => decide (0 < fr.getD j 0)) _ _ fun i hi hp => ?_]
  · have e := (lU (ez (an fr fr.length))).map fun s => OM ((bN (aH (an fr fr.length)) m).count s)
    rw [e.sum_nat, fJ, List.map_map]
    rfl
  · have hi := List.mem_range.1 hi
    have : ¬ ((i : Int) ∈ bf (aH (an fr fr.length))) := fun h => by
      have := (Ch hi).1 h
      rw [decide_eq_true this] at hp
      cases hp
    rw [p2 _ this]
    rfl
end Go.Am
namespace Go.Proofs.YteddgkplkjldcaaGreat.Am
open Go.Am
theorem fD {D L R : List aD} {x : aD} (h : D = L ++ x :: R) {i : Nat} (hi : i = L.length) : D[i]? = some x := by
  subst h; subst hi
  rw [List.getElem?_append_right (Nat.le_refl _), Nat.sub_self]; rfl
theorem set_mid {D L R : List aD} {x : aD} (h : D = L ++ x :: R) {i : Nat} (hi : i = L.length) (y : aD) : D.set i y = L ++ y :: R := by
  subst h; subst hi
  rw [List.set_append_right _ _ (Nat.le_refl _), Nat.sub_self]; rfl
theorem XC (y : aD) : (y.1, y.2.1, ()) = y := rfl
theorem wi {i n : Nat} (h : i < n) : within (i : Int) n = true := by unfold within; simp only [decide_eq_true_eq]; omega
theorem oZ (N : Nat) (x y : aD) : ∃ c, Dr N (x.1, x.2.1, y.1, y.2.1) = some c ∧ (decide (c < 0) = decide (x.1 < y.1)) := by
  have e71 : ∀ z : Int, JL N z = some false := fun z => by simp [JL]
  simp only [Dr, Q4, ae, e71, Option.bind_some]
  rw [if_neg (by decide), if_neg (by decide)]
  by_cases h : x.1 < y.1
  · rw [if_pos (by simpa using h), Option.bind_some]
    exact ⟨-1, rfl, by rw [decide_eq_true h]; rfl⟩
  · rw [if_neg (by simpa using h), decide_eq_false h]
    by_cases h2 : x.1 > y.1
    · rw [if_pos (by simpa using h2), Option.bind_some]
      exact ⟨1, rfl, rfl⟩
    · rw [if_neg (by simpa using h2), Option.bind_some]
      exact ⟨0, rfl, rfl⟩
theorem JB (N : Nat) (P M S : List aD) (n k a b : Nat) (hn : n ≤ 100000) : ∀ (A2 B2 A1 B1 : List aD) (i f : Nat) (D : List aD), D = P ++ (B1 ++ (A2 ++ (M ++ (A1 ++ (B2 ++ S))))) → D.length = n → P.length = a → A1.length = i → B1.length = i → A2.length = B2.length → i + A2.length = k → a + k + M.length = b → A2.length < f →
    ib N f ((i : Int), (k : Int), (b : Int), 0, n, (a : Int), D) = some (P ++ (B1 ++ (B2 ++ (M ++ (A1 ++ (A2 ++ S)))))) := by
  intro A2
  induction A2 with
  | nil =>
    intro B2 A1 B1 i f D hD hlen hP hA1 hB1 hAB hk hb hf
    cases f with
    | zero => omega
    | succ f =>
      have : B2 = [] := List.eq_nil_of_length_eq_zero (by simpa using hAB.symm)
      subst this
      simp only [List.length_nil, Nat.add_zero] at hk
      simp only [ib, sj, ae]
      rw [aV (by omega), hD]
  | cons x A2 ih =>
    intro B2 A1 B1 i f D hD hlen hP hA1 hB1 hAB hk hb hf
    cases f with
    | zero => omega
    | succ f =>
      cases B2 with
      | nil => simp at hAB
      | cons y B2 =>
        simp only [List.length_cons] at hAB hk hf
        have hlen' : a + i + (A2.length + 1) + M.length + i + (B2.length + 1) + S.length = n := by
          rw [← hlen, hD]; simp only [List.length_append, List.length_cons]; omega
        have e1 : D = (P ++ B1) ++ x :: (A2 ++ (M ++ (A1 ++ (y :: B2 ++ S)))) := by rw [hD]; simp
        have e2 : D = (P ++ (B1 ++ (x :: A2 ++ (M ++ A1)))) ++ y :: (B2 ++ S) := by rw [hD]; simp
        have i1 : IntKind.wrap .i64 ((a : Int) + (i : Int)) = ((a + i : Nat) : Int) := by rw [wrap_i64 (by omega) (by omega)]; omega
        have i2 : IntKind.wrap .i64 ((b : Int) + (i : Int)) = ((b + i : Nat) : Int) := by rw [wrap_i64 (by omega) (by omega)]; omega
        have i3 : IntKind.wrap .i64 ((i : Int) + 1) = ((i + 1 : Nat) : Int) := by rw [wrap_i64 (by omega) (by omega)]; omega
        have l1 : a + i = (P ++ B1).length := by rw [List.length_append]; omega
        have l2 : b + i = (P ++ (B1 ++ (x :: A2 ++ (M ++ A1)))).length := by simp only [List.length_append, List.length_cons]; omega
        have s1 := set_mid e1 l1 y
        have e3 : D.set (a + i) y = (P ++ (B1 ++ (y :: A2 ++ (M ++ A1)))) ++ y :: (B2 ++ S) := by rw [s1]; simp
        have l3 : b + i = (P ++ (B1 ++ (y :: A2 ++ (M ++ A1)))).length := by simp only [List.length_append, List.length_cons]; omega
        simp only [ib, sj, ae]
        rw [aY (by omega)]
        simp only [i1, i2, i3, wi (show a + i < n by omega), wi (show b + i < n by omega), if_true, Int.toNat_natCast, Nat.zero_add, fD e1 l1, fD e2 l2, Option.bind_some, XC]
        rw [fD e3 l3, Option.bind_some, set_mid e3 l3 x]
        rw [ih B2 (A1 ++ [x]) (B1 ++ [y]) (i + 1) f _ (by simp) (by simp only [List.length_append, List.length_cons]; omega) hP (by simp [hA1]) (by simp [hB1]) (by omega) (by omega) hb (by omega)]
        simp
theorem qO {N : Nat} (P A M B S : List aD) (hAB : A.length = B.length) (hN : A.length < N) (n a b : Nat) (hn : n ≤ 100000) (hlen : (P ++ (A ++ (M ++ (B ++ S)))).length = n) (ha : P.length = a) (hb : a + A.length + M.length = b) :
    rB N (0, n, (a : Int), (b : Int), (A.length : Int), P ++ (A ++ (M ++ (B ++ S)))) = some (P ++ (B ++ (M ++ (A ++ S)))) := by
  simp only [rB, ae]
  have := JB N P M S n A.length a b hn A B [] [] 0 N _ rfl (by simpa using hlen) ha rfl rfl hAB (by omega) hb hN
  simp only [List.nil_append] at this
  rw [show ((0 : Nat) : Int) = 0 from rfl] at this
  rw [this, Option.bind_some]
theorem pV (x : aD) : ∀ (A1 A2 : List aD), (∀ y ∈ A1, y.1 ≤ x.1) → (∀ y ∈ A2, x.1 < y.1) → wG x (A1 ++ A2) = A1 ++ x :: A2
  | [], [], _, _ => rfl
  | [], y :: A2, _, h => by rw [List.nil_append, wG, if_pos (h y (List.mem_cons_self ..))]; rfl
  | y :: A1, A2, h1, h2 => by
    rw [List.cons_append, wG, if_neg (by have := h1 y (List.mem_cons_self ..); omega), pV x A1 A2 (fun z hz => h1 z (List.mem_cons_of_mem _ hz)) h2]
    rfl
theorem FW (N : Nat) (P S : List aD) (x : aD) (n a : Nat) (hn : n ≤ 100000) (ha : P.length = a) (x2 x3 : Int) (A1 : List aD) : ∀ (A2 : List aD) (f : Nat) (D : List aD), D = P ++ (A1 ++ (x :: (A2 ++ S))) → D.length = n → ll (A1 ++ A2) → (∀ y ∈ A2, x.1 < y.1) → A1.length < f →
    cJ N f (((a + A1.length : Nat) : Int), (a : Int), x2, x3, 0, n, D) = some (x3, x2, (a : Int), 0, n, P ++ (wG x (A1 ++ A2) ++ S)) := by
  refine sO (motive := fun A1 => ∀ (A2 : List aD) (f : Nat) (D : List aD), D = P ++ (A1 ++ (x :: (A2 ++ S))) → D.length = n → ll (A1 ++ A2) → (∀ y ∈ A2, x.1 < y.1) → A1.length < f →
    cJ N f (((a + A1.length : Nat) : Int), (a : Int), x2, x3, 0, n, D) = some (x3, x2, (a : Int), 0, n, P ++ (wG x (A1 ++ A2) ++ S))) ?_ (fun A1 y ih => ?_) A1
  · intro A2 f D hD hlen hs hA2 hf
    cases f with
    | zero => omega
    | succ f =>
      simp only [cJ, mD, ae]
      rw [if_neg (by simp), pV x [] A2 (fun _ h => by cases h) hA2, hD]
      simp
  · intro A2 f D hD hlen hs hA2 hf
    cases f with
    | zero => omega
    | succ f =>
      simp only [List.length_append, List.length_singleton] at hf ⊢
      have hlen' : a + A1.length + 1 + 1 + A2.length + S.length = n := by
        rw [← hlen, hD]; simp only [List.length_append, List.length_cons, List.length_nil]; omega
      have e1 : D = (P ++ (A1 ++ [y])) ++ x :: (A2 ++ S) := by rw [hD]; simp
      have e2 : D = (P ++ A1) ++ y :: (x :: (A2 ++ S)) := by rw [hD]; simp
      have l1 : a + (A1.length + 1) = (P ++ (A1 ++ [y])).length := by simp only [List.length_append, List.length_singleton]; omega
      have l2 : a + A1.length = (P ++ A1).length := by rw [List.length_append]; omega
      have i1 : IntKind.wrap .i64 (((a + (A1.length + 1) : Nat) : Int) - 1) = ((a + A1.length : Nat) : Int) := by rw [wrap_i64 (by omega) (by omega)]; omega
      obtain ⟨c, c1, c2⟩ := oZ N x y
      simp only [cJ, mD, ae]
      rw [aY (by omega)]
      simp only [i1, wi (show a + (A1.length + 1) < n by omega), wi (show a + A1.length < n by omega), if_true, Int.toNat_natCast, Nat.zero_add, fD e1 l1, fD e2 l2, Option.bind_some, c1, c2, XC]
      by_cases hxy : x.1 < y.1
      · rw [if_pos (by simpa using hxy)]
        have s1 := set_mid e1 l1 y
        have e3 : D.set (a + (A1.length + 1)) y = (P ++ A1) ++ y :: (y :: (A2 ++ S)) := by rw [s1]; simp
        rw [fD e3 l2, Option.bind_some, set_mid e3 l2 x]
        have hs' : ll (A1 ++ (y :: A2)) := by
          have e : A1 ++ [y] ++ A2 = A1 ++ (y :: A2) := by simp
          rw [e] at hs; exact hs
        rw [ih (y :: A2) f _ (by simp) (by simp only [List.length_append, List.length_cons]; omega) hs' (fun z hz => by
          rcases List.mem_cons.1 hz with rfl | hz
          · exact hxy
          · exact hA2 z hz) (by omega)]
        simp
      · rw [if_neg (by simpa using hxy), hD]
        rw [pV x (A1 ++ [y]) A2 (fun z hz => ?_) hA2]
        · simp
        · rcases List.mem_append.1 hz with hz | hz
          · have hp := List.pairwise_append.1 hs
            have := (List.pairwise_append.1 hp.1).2.2 z hz y (List.mem_singleton_self _)
            omega
          · rw [List.mem_singleton.1 hz]; omega
theorem FV (N : Nat) (P S : List aD) (n a b : Nat) (hn : n ≤ 100000) (hN : 100000 < N) (ha : P.length = a) : ∀ (M2 M1 : List aD) (f : Nat) (D : List aD), D = P ++ (aH M1 ++ (M2 ++ S)) → D.length = n → a + M1.length + M2.length = b → 0 < M1.length → M2.length < f →
    eQ N f ((b : Int), (a : Int), ((a + M1.length : Nat) : Int), 0, n, D) = some (P ++ (aH (M1 ++ M2) ++ S)) := by
  intro M2
  induction M2 with
  | nil =>
    intro M1 f D hD hlen hb h0 hf
    cases f with
    | zero => omega
    | succ f =>
      simp only [List.length_nil] at hb
      simp only [eQ, pq, ae]
      rw [aV (by omega), hD]
      simp
  | cons x M2 ih =>
    intro M1 f D hD hlen hb h0 hf
    cases f with
    | zero => omega
    | succ f =>
      simp only [List.length_cons] at hb hf
      have hl1 := aT M1
      have hlen' : a + M1.length + (M2.length + 1) + S.length = n := by
        rw [← hlen, hD]; simp only [List.length_append, List.length_cons]; omega
      simp only [eQ, pq, ae]
      rw [aY (by omega)]
      have hin := FW N P (M2 ++ S) x n a hn ha (b : Int) ((a + M1.length : Nat) : Int) (aH M1) [] N D (by rw [hD]; simp) hlen (by rw [List.append_nil]; exact di M1) (fun _ h => by cases h) (by omega)
      rw [hl1, List.append_nil, ← EE] at hin
      have i3 : IntKind.wrap .i64 (((a + M1.length : Nat) : Int) + 1) = ((a + (M1 ++ [x]).length : Nat) : Int) := by rw [wrap_i64 (by omega) (by omega), List.length_append, List.length_singleton]; omega
      rw [hin, Option.bind_some]
      simp only
      rw [i3, ih (M1 ++ [x]) f _ rfl (by simp only [List.length_append, aT, List.length_singleton]; omega) (by rw [List.length_append, List.length_singleton]; omega) (by rw [List.length_append, List.length_singleton]; omega) (by omega)]
      simp
theorem yt {N : Nat} (hN : 100000 < N) (P M S : List aD) (n a b : Nat) (hn : n ≤ 100000) (hlen : (P ++ (M ++ S)).length = n) (ha : P.length = a) (hb : a + M.length = b) :
    yr N (0, n, (a : Int), (b : Int), P ++ (M ++ S)) = some (P ++ (aH M ++ S)) := by
  have hl : a + M.length + S.length = n := by rw [← hlen]; simp only [List.length_append]; omega
  simp only [yr, ae]
  have i1 : IntKind.wrap .i64 ((a : Int) + 1) = ((a + 1 : Nat) : Int) := by rw [wrap_i64 (by omega) (by omega)]; omega
  rw [i1]
  cases M with
  | nil =>
    have key : ∀ f, eQ N (f + 1) ((b : Int), (a : Int), ((a + 1 : Nat) : Int), 0, n, P ++ ([] ++ S)) = some (P ++ ([] ++ S)) := fun f => by
      simp only [List.length_nil] at hb
      simp only [eQ, pq, ae]
      rw [aV (by omega)]
    obtain ⟨f, rfl⟩ : ∃ f, N = f + 1 := ⟨N - 1, by omega⟩
    rw [key f, Option.bind_some]
    rfl
  | cons x M =>
    simp only [List.length_cons] at hb hl
    have := FV N P S n a b hn hN ha M [x] N (P ++ (x :: M ++ S)) (by simp [aH, gQ]) hlen (by rw [List.length_singleton]; omega) (by simp) (by omega)
    rw [List.length_singleton] at this
    rw [this, Option.bind_some]
    rfl
theorem JC (N : Nat) (n : Nat) (hn : n ≤ 100000) (hN : 100000 < N) : ∀ (t : Nat) (P U V S : List aD) (m f : Nat) (D : List aD), U.length + V.length ≤ t → D = P ++ (U ++ (V ++ S)) → D.length = n → 0 < U.length → 0 < V.length → P.length + U.length = m → t < f →
    ∃ (i : Nat) (D' : List aD), gG N f ((U.length : Int), 0, n, (m : Int), (V.length : Int), D) = some (0, n, (m : Int), (i : Int), D') ∧ rB N (0, n, IntKind.wrap .i64 ((m : Int) - (i : Int)), (m : Int), (i : Int), D') = some (P ++ (V ++ (U ++ S))) := by
  intro t
  induction t with
  | zero => intro P U V S m f D ht _ _ hU _ _ _; omega
  | succ t ih =>
    intro P U V S m f D ht hD hlen hU hV hm hf
    cases f with
    | zero => omega
    | succ f =>
      have hl : P.length + U.length + V.length + S.length = n := by rw [← hlen, hD]; simp only [List.length_append]; omega
      have i1 : IntKind.wrap .i64 ((m : Int) - (U.length : Int)) = ((m - U.length : Nat) : Int) := by rw [wrap_i64 (by omega) (by omega)]; omega
      simp only [gG, we, ae]
      by_cases he : U.length = V.length
      · rw [if_neg (by simp [he])]
        refine ⟨U.length, D, rfl, ?_⟩
        rw [i1, hD]
        have := qO (N := N) P U [] V S he (by omega) n (m - U.length) m hn (by rw [← hlen, hD]; simp) (by omega) (by simp; omega)
        simpa using this
      · rw [if_pos (by simp; omega)]
        by_cases hgt : U.length > V.length
        · rw [if_pos (by simpa using hgt)]
          -- the first part is longer
          have hsw := qO (N := N) P (U.take V.length) (U.drop V.length) V S (by rw [List.length_take]; omega) (by rw [List.length_take]; omega) n (m - U.length) m hn (by
            rw [← hlen, hD, ← List.append_assoc (U.take V.length), List.take_append_drop]) (by omega) (by rw [List.length_take, List.length_drop]; omega)
          rw [List.length_take, Nat.min_eq_left (by omega), ← List.append_assoc (U.take V.length), List.take_append_drop, ← hD] at hsw
          rw [i1, hsw, Option.bind_some]
          have i2 : IntKind.wrap .i64 ((U.length : Int) - (V.length : Int)) = ((U.drop V.length).length : Int) := by rw [wrap_i64 (by omega) (by omega), List.length_drop]; omega
          have hlV : (U.take V.length).length = V.length := by rw [List.length_take]; omega
          obtain ⟨i, D', g1, g2⟩ := ih (P ++ V) (U.drop V.length) (U.take V.length) S m f (P ++ (V ++ (U.drop V.length ++ (U.take V.length ++ S)))) (by rw [List.length_drop, List.length_take]; omega) (by simp) (by simp only [List.length_append, List.length_drop, List.length_take]; omega) (by rw [List.length_drop]; omega) (by omega) (by rw [List.length_append, List.length_drop]; omega) (by omega)
          rw [hlV] at g1
          refine ⟨i, D', by rw [i2, g1]; rfl, ?_⟩
          rw [g2, ← List.append_assoc (U.take V.length), List.take_append_drop]
          simp
        · rw [if_neg (by simpa using hgt)]
          have hsw := qO (N := N) P U (V.take (V.length - U.length)) (V.drop (V.length - U.length)) S (by rw [List.length_drop]; omega) (by omega) n (m - U.length) (m + V.length - U.length) hn (by
            rw [← hlen, hD]; simp only [List.length_append, List.length_take, List.length_drop]; omega) (by omega) (by rw [List.length_take]; omega)
          have e1 : P ++ (U ++ (V.take (V.length - U.length) ++ (V.drop (V.length - U.length) ++ S))) = D := by
            rw [hD, ← List.append_assoc (V.take _), List.take_append_drop]
          rw [e1] at hsw
          have i3 : IntKind.wrap .i64 (IntKind.wrap .i64 ((m : Int) + (V.length : Int)) - (U.length : Int)) = ((m + V.length - U.length : Nat) : Int) := by
            rw [wrap_i64 (z := (m : Int) + (V.length : Int)) (by omega) (by omega), wrap_i64 (by omega) (by omega)]; omega
          rw [i1, i3, hsw, Option.bind_some]
          have hlD : (V.drop (V.length - U.length)).length = U.length := by rw [List.length_drop]; omega
          have hlT : (V.take (V.length - U.length)).length = V.length - U.length := by rw [List.length_take]; omega
          have i2 : IntKind.wrap .i64 ((V.length : Int) - (U.length : Int)) = ((V.take (V.length - U.length)).length : Int) := by rw [wrap_i64 (by omega) (by omega), hlT]; omega
          obtain ⟨i, D', g1, g2⟩ := ih P (V.drop (V.length - U.length)) (V.take (V.length - U.length)) (U ++ S) m f (P ++ (V.drop (V.length - U.length) ++ (V.take (V.length - U.length) ++ (U ++ S)))) (by omega) rfl (by simp only [List.length_append]; omega) (by omega) (by omega) (by omega) (by omega)
          rw [hlD] at g1
          refine ⟨i, D', by rw [i2, g1]; rfl, ?_⟩
          rw [g2, ← List.append_assoc (V.take _), List.take_append_drop]
theorem Dd {N : Nat} (hN : 100000 < N) (P U V S : List aD) (n a m b : Nat) (hn : n ≤ 100000) (hlen : (P ++ (U ++ (V ++ S))).length = n) (hU : 0 < U.length) (hV : 0 < V.length) (ha : P.length = a) (hm : a + U.length = m) (hb : m + V.length = b) :
    rC N (0, n, (a : Int), (m : Int), (b : Int), P ++ (U ++ (V ++ S))) = some (P ++ (V ++ (U ++ S))) := by
  have hl : P.length + U.length + V.length + S.length = n := by rw [← hlen]; simp only [List.length_append]; omega
  obtain ⟨i, D', g1, g2⟩ := JC N n hn hN (U.length + V.length) P U V S m N _ (Nat.le_refl _) rfl hlen hU hV (by omega) (by omega)
  simp only [rC, ae]
  have i1 : IntKind.wrap .i64 ((m : Int) - (a : Int)) = (U.length : Int) := by rw [wrap_i64 (by omega) (by omega)]; omega
  have i2 : IntKind.wrap .i64 ((b : Int) - (m : Int)) = (V.length : Int) := by rw [wrap_i64 (by omega) (by omega)]; omega
  rw [i1, i2, g1, Option.bind_some]
  simp only
  rw [g2, Option.bind_some]
end Go.Proofs.YteddgkplkjldcaaGreat.Am
namespace Go.Proofs.YteddgkplkjldcaaGreat.Am
open Go.Am
abbrev GT := (Nat × Nat × Int × Int × Int × List aD) → Option (List aD)
def wt (D : List aD) (c : Nat) : Int := (D.getD c (0, [], ())).1
theorem yd {D : List aD} {c : Nat} (h : c < D.length) : D[c]? = some (D.getD c (0, [], ())) := by
  rw [List.getD, List.getElem?_eq_getElem h]; rfl
theorem yG {D : List aD} {c : Nat} (h : c < D.length) : wt D c = D[c].1 := by
  unfold wt; rw [List.getD, List.getElem?_eq_getElem h]; rfl
theorem Ku (P X R : List aD) {a i : Nat} (ha : P.length = a) (hi : i < X.length) : wt (P ++ (X ++ R)) (a + i) = wt X i := by
  subst ha
  unfold wt
  rw [List.getD, List.getD, List.getElem?_append_right (by omega), Nat.add_sub_cancel_left, List.getElem?_append_left hi]
theorem gR {X : List aD} (h : ll X) {i j : Nat} (hij : i ≤ j) (hj : j < X.length) : wt X i ≤ wt X j := by
  rw [yG hj, yG (by omega)]
  by_cases e : i = j
  · subst e; exact Int.le_refl _
  · exact List.pairwise_iff_getElem.1 h i j (by omega) hj (by omega)
theorem zc {i j : Nat} (h : i + j ≤ 1000000) : IntKind.wrap .i64 (Int.fdiv (IntKind.wrap .u64 (IntKind.wrap .i64 ((i : Int) + (j : Int)))) 2) = (((i + j) / 2 : Nat) : Int) := by
  rw [wrap_i64 (z := (i : Int) + j) (by omega) (by omega), wrap_u64, Int.emod_eq_of_lt (by omega) (by omega), Int.fdiv_eq_ediv_of_nonneg _ (by decide), wrap_i64 (by omega) (by omega)]
  omega
theorem wR (N : Nat) (G : GT) (n a : Nat) (hn : n ≤ 100000) (D : List aD) (hD : D.length = n) (ha : a < n) (i0 j0 : Nat) (hj0 : j0 ≤ n) (hmono : ∀ c d, i0 ≤ c → c ≤ d → d < j0 → wt D c ≤ wt D d) :
    ∀ (t i j f : Nat), j - i ≤ t → t < f → i0 ≤ i → i ≤ j → j ≤ j0 → (∀ c, i0 ≤ c → c < i → wt D c < wt D a) → (∀ c, j ≤ c → c < j0 → wt D a ≤ wt D c) →
    ∃ s : Nat, dO N G f ((i : Int), (j : Int), 0, n, (a : Int), D) = some ((a : Int), (s : Int), 0, n, D) ∧ i0 ≤ s ∧ s ≤ j0 ∧ (∀ c, i0 ≤ c → c < s → wt D c < wt D a) ∧ (∀ c, s ≤ c → c < j0 → wt D a ≤ wt D c) := by
  intro t
  induction t with
  | zero =>
    intro i j f ht hf h1 h2 h3 hlo hhi
    cases f with
    | zero => omega
    | succ f =>
      simp only [dO, mC, ae]
      rw [aV (by omega)]
      exact ⟨i, rfl, h1, by omega, hlo, fun c hc => hhi c (by omega)⟩
  | succ t ih =>
    intro i j f ht hf h1 h2 h3 hlo hhi
    cases f with
    | zero => omega
    | succ f =>
      simp only [dO, mC, ae]
      by_cases hij : i < j
      · have hm := zc (i := i) (j := j) (by omega)
        have hh : (i + j) / 2 < n := by omega
        rw [aY (by omega), hm]
        have i3 : IntKind.wrap .i64 ((((i + j) / 2 : Nat) : Int) + 1) = (((i + j) / 2 + 1 : Nat) : Int) := by rw [wrap_i64 (by omega) (by omega)]; omega
        obtain ⟨c, c1, c2⟩ := oZ N (D.getD ((i + j) / 2) (0, [], ())) (D.getD a (0, [], ()))
        simp only [wi hh, wi ha, if_true, Int.toNat_natCast, Nat.zero_add, yd (show (i + j) / 2 < D.length by omega), yd (show a < D.length by omega), Option.bind_some, c1, c2, i3]
        by_cases hlt : wt D ((i + j) / 2) < wt D a
        · rw [if_pos (by simpa [wt] using hlt)]
          obtain ⟨s, g1, g2⟩ := ih ((i + j) / 2 + 1) j f (by omega) (by omega) (by omega) (by omega) h3 (fun c hc1 hc2 => by
            have := hmono c ((i + j) / 2) hc1 (by omega) (by omega)
            omega) hhi
          exact ⟨s, by rw [g1]; rfl, g2⟩
        · rw [if_neg (by simpa [wt] using hlt)]
          obtain ⟨s, g1, g2⟩ := ih i ((i + j) / 2) f (by omega) (by omega) h1 (by omega) (by omega) hlo (fun c hc1 hc2 => by
            have := hmono ((i + j) / 2) c (by omega) hc1 hc2
            omega)
          exact ⟨s, by rw [g1]; rfl, g2⟩
      · rw [aV (by omega)]
        exact ⟨i, rfl, h1, by omega, hlo, fun c hc => hhi c (by omega)⟩
theorem wQ (N : Nat) (G : GT) (n a : Nat) (hn : n ≤ 100000) (D : List aD) (hD : D.length = n) (ha : a < n) (i0 j0 : Nat) (hj0 : j0 ≤ n) (hmono : ∀ c d, i0 ≤ c → c ≤ d → d < j0 → wt D c ≤ wt D d) :
    ∀ (t i j f : Nat), j - i ≤ t → t < f → i0 ≤ i → i ≤ j → j ≤ j0 → (∀ c, i0 ≤ c → c < i → wt D c ≤ wt D a) → (∀ c, j ≤ c → c < j0 → wt D a < wt D c) →
    ∃ s : Nat, dN N G f ((i : Int), (j : Int), (a : Int), 0, n, D) = some ((a : Int), (s : Int), 0, n, D) ∧ i0 ≤ s ∧ s ≤ j0 ∧ (∀ c, i0 ≤ c → c < s → wt D c ≤ wt D a) ∧ (∀ c, s ≤ c → c < j0 → wt D a < wt D c) := by
  intro t
  induction t with
  | zero =>
    intro i j f ht hf h1 h2 h3 hlo hhi
    cases f with
    | zero => omega
    | succ f =>
      simp only [dN, mB, ae]
      rw [aV (by omega)]
      exact ⟨i, rfl, h1, by omega, hlo, fun c hc => hhi c (by omega)⟩
  | succ t ih =>
    intro i j f ht hf h1 h2 h3 hlo hhi
    cases f with
    | zero => omega
    | succ f =>
      simp only [dN, mB, ae]
      by_cases hij : i < j
      · have hm := zc (i := i) (j := j) (by omega)
        have hh : (i + j) / 2 < n := by omega
        rw [aY (by omega), hm]
        have i3 : IntKind.wrap .i64 ((((i + j) / 2 : Nat) : Int) + 1) = (((i + j) / 2 + 1 : Nat) : Int) := by rw [wrap_i64 (by omega) (by omega)]; omega
        obtain ⟨c, c1, c2⟩ := oZ N (D.getD a (0, [], ())) (D.getD ((i + j) / 2) (0, [], ()))
        simp only [wi hh, wi ha, if_true, Int.toNat_natCast, Nat.zero_add, yd (show (i + j) / 2 < D.length by omega), yd (show a < D.length by omega), Option.bind_some, c1, c2, i3]
        by_cases hlt : wt D a < wt D ((i + j) / 2)
        · have hlt' : decide ((D.getD a (0, [], ())).1 < (D.getD ((i + j) / 2) (0, [], ())).1) = true := by simpa [wt] using hlt
          rw [hlt', if_neg (by decide)]
          obtain ⟨s, g1, g2⟩ := ih i ((i + j) / 2) f (by omega) (by omega) h1 (by omega) (by omega) hlo (fun c hc1 hc2 => by
            have := hmono ((i + j) / 2) c (by omega) hc1 hc2
            omega)
          exact ⟨s, by rw [g1]; rfl, g2⟩
        · have hlt' : decide ((D.getD a (0, [], ())).1 < (D.getD ((i + j) / 2) (0, [], ())).1) = false := by simpa [wt] using hlt
          rw [hlt', if_pos (by decide)]
          obtain ⟨s, g1, g2⟩ := ih ((i + j) / 2 + 1) j f (by omega) (by omega) (by omega) (by omega) h3 (fun c hc1 hc2 => by
            have := hmono c ((i + j) / 2) hc1 (by omega) (by omega)
            omega) hhi
          exact ⟨s, by rw [g1]; rfl, g2⟩
      · rw [aV (by omega)]
        exact ⟨i, rfl, h1, by omega, hlo, fun c hc => hhi c (by omega)⟩
theorem Di (N : Nat) (G : GT) (n : Nat) (hn : n ≤ 100000) (P R : List aD) (x : aD) (s : Nat) : ∀ (Z2 Z1 : List aD) (f : Nat) (D : List aD), D = P ++ (Z1 ++ (x :: (Z2 ++ R))) → D.length = n → P.length + Z1.length + Z2.length + 1 = s → Z2.length < f →
    dM N G f (((P.length + Z1.length : Nat) : Int), (s : Int), 0, n, D) = some (P ++ (Z1 ++ (Z2 ++ (x :: R)))) := by
  intro Z2
  induction Z2 with
  | nil =>
    intro Z1 f D hD hlen hs hf
    cases f with
    | zero => omega
    | succ f =>
      have hl : P.length + Z1.length + 1 + R.length = n := by rw [← hlen, hD]; simp only [List.length_append, List.length_cons, List.length_nil]; omega
      simp only [List.length_nil] at hs
      simp only [dM, mA, ae]
      rw [wrap_i64 (z := (s : Int) - 1) (by omega) (by omega), aV (by omega), hD]
      rfl
  | cons y Z2 ih =>
    intro Z1 f D hD hlen hs hf
    cases f with
    | zero => omega
    | succ f =>
      simp only [List.length_cons] at hs hf
      have hl : P.length + Z1.length + 1 + (Z2.length + 1) + R.length = n := by rw [← hlen, hD]; simp only [List.length_append, List.length_cons]; omega
      have e1 : D = (P ++ Z1) ++ x :: (y :: (Z2 ++ R)) := by rw [hD]; simp
      have e2 : D = (P ++ (Z1 ++ [x])) ++ y :: (Z2 ++ R) := by rw [hD]; simp
      have l1 : P.length + Z1.length = (P ++ Z1).length := by rw [List.length_append]
      have l2 : P.length + Z1.length + 1 = (P ++ (Z1 ++ [x])).length := by simp only [List.length_append, List.length_singleton]; omega
      have s1 := set_mid e1 l1 y
      have e3 : D.set (P.length + Z1.length) y = (P ++ (Z1 ++ [y])) ++ y :: (Z2 ++ R) := by rw [s1]; simp
      have l3 : P.length + Z1.length + 1 = (P ++ (Z1 ++ [y])).length := by simp only [List.length_append, List.length_singleton]; omega
      have i3 : IntKind.wrap .i64 (((P.length + Z1.length : Nat) : Int) + 1) = ((P.length + Z1.length + 1 : Nat) : Int) := by rw [wrap_i64 (by omega) (by omega)]; omega
      simp only [dM, mA, ae]
      rw [wrap_i64 (z := (s : Int) - 1) (by omega) (by omega), aY (by omega)]
      simp only [i3, wi (show P.length + Z1.length < n by omega), wi (show P.length + Z1.length + 1 < n by omega), if_true, Int.toNat_natCast, Nat.zero_add, fD e1 l1, fD e2 l2, Option.bind_some, XC]
      rw [fD e3 l3, Option.bind_some, set_mid e3 l3 x]
      have := ih (Z1 ++ [y]) f ((P ++ (Z1 ++ [y])) ++ x :: (Z2 ++ R)) (by simp) (by simp only [List.length_append, List.length_cons, List.length_nil]; omega) (by rw [List.length_append, List.length_singleton]; omega) (by omega)
      rw [List.length_append, List.length_singleton, ← Nat.add_assoc] at this
      rw [this]
      simp
theorem vQ (N : Nat) (G : GT) (n : Nat) (hn : n ≤ 100000) (P S : List aD) (y : aD) (Z1 : List aD) : ∀ (Z2 : List aD) (f : Nat) (D : List aD), D = P ++ (Z1 ++ (y :: (Z2 ++ S))) → D.length = n → Z1.length < f →
    cr N G f (((P.length + Z1.length : Nat) : Int), (P.length : Int), 0, n, D) = some (P ++ (y :: (Z1 ++ (Z2 ++ S)))) := by
  refine sO (motive := fun Z1 => ∀ (Z2 : List aD) (f : Nat) (D : List aD), D = P ++ (Z1 ++ (y :: (Z2 ++ S))) → D.length = n → Z1.length < f →
    cr N G f (((P.length + Z1.length : Nat) : Int), (P.length : Int), 0, n, D) = some (P ++ (y :: (Z1 ++ (Z2 ++ S))))) ?_ (fun Z1 x ih => ?_) Z1
  · intro Z2 f D hD hlen hf
    cases f with
    | zero => omega
    | succ f =>
      simp only [cr, jY, ae]
      rw [if_neg (by simp), hD]
      rfl
  · intro Z2 f D hD hlen hf
    cases f with
    | zero => omega
    | succ f =>
      simp only [List.length_append, List.length_singleton] at hf ⊢
      have hl : P.length + (Z1.length + 1) + 1 + Z2.length + S.length = n := by rw [← hlen, hD]; simp only [List.length_append, List.length_cons, List.length_nil]; omega
      have e1 : D = (P ++ (Z1 ++ [x])) ++ y :: (Z2 ++ S) := by rw [hD]; simp
      have e2 : D = (P ++ Z1) ++ x :: (y :: (Z2 ++ S)) := by rw [hD]; simp
      have l1 : P.length + (Z1.length + 1) = (P ++ (Z1 ++ [x])).length := by simp only [List.length_append, List.length_singleton]
      have l2 : P.length + Z1.length = (P ++ Z1).length := by rw [List.length_append]
      have s1 := set_mid e1 l1 x
      have e3 : D.set (P.length + (Z1.length + 1)) x = (P ++ Z1) ++ x :: (x :: (Z2 ++ S)) := by rw [s1]; simp
      have i3 : IntKind.wrap .i64 (((P.length + (Z1.length + 1) : Nat) : Int) - 1) = ((P.length + Z1.length : Nat) : Int) := by rw [wrap_i64 (by omega) (by omega)]; omega
      simp only [cr, jY, ae]
      rw [aY (by omega)]
      simp only [i3, wi (show P.length + Z1.length < n by omega), wi (show P.length + (Z1.length + 1) < n by omega), if_true, Int.toNat_natCast, Nat.zero_add, fD e1 l1, fD e2 l2, Option.bind_some, XC]
      rw [fD e3 l2, Option.bind_some, set_mid e3 l2 y]
      rw [ih (x :: Z2) f _ (by simp) (by simp only [List.length_append, List.length_cons]; omega) (by omega)]
      simp
theorem lF (N : Nat) (G : GT) (n : Nat) (hn : n ≤ 100000) (D : List aD) (hD : D.length = n) (p i0 j0 : Nat) (x1 x2 x3 x4 x5 : Int) (hj0 : j0 ≤ n) (hp : ∀ c, i0 ≤ c → c < j0 → c ≤ p ∧ p - c < n) (hp2 : p ≤ 1000000)
    (hmono : ∀ c d, i0 ≤ c → c ≤ d → d < j0 → wt D c ≤ wt D d ∧ wt D (p - d) ≤ wt D (p - c)) :
    ∀ (t i j f : Nat), j - i ≤ t → t < f → i0 ≤ i → i ≤ j → j ≤ j0 → (∀ c, i0 ≤ c → c < i → wt D c ≤ wt D (p - c)) → (∀ c, j ≤ c → c < j0 → wt D (p - c) < wt D c) →
    ∃ s : Nat, bY N G f ((i : Int), x1, x2, x3, x4, x5, (j : Int), (p : Int), 0, n, D) = some (x5, x4, x3, (s : Int), 0, n, x2, x1, D) ∧ i0 ≤ s ∧ s ≤ j0 ∧ (∀ c, i0 ≤ c → c < s → wt D c ≤ wt D (p - c)) ∧ (∀ c, s ≤ c → c < j0 → wt D (p - c) < wt D c) := by
  intro t
  induction t with
  | zero =>
    intro i j f ht hf h1 h2 h3 hlo hhi
    cases f with
    | zero => omega
    | succ f =>
      simp only [bY, jZ, ae]
      rw [aV (by omega)]
      exact ⟨i, rfl, h1, by omega, hlo, fun c hc => hhi c (by omega)⟩
  | succ t ih =>
    intro i j f ht hf h1 h2 h3 hlo hhi
    cases f with
    | zero => omega
    | succ f =>
      simp only [bY, jZ, ae]
      by_cases hij : i < j
      · have hm := zc (i := i) (j := j) (by omega)
        obtain ⟨q1, q2⟩ := hp ((i + j) / 2) (by omega) (by omega)
        have hh : (i + j) / 2 < n := by omega
        rw [aY (by omega), hm]
        have i3 : IntKind.wrap .i64 ((((i + j) / 2 : Nat) : Int) + 1) = (((i + j) / 2 + 1 : Nat) : Int) := by rw [wrap_i64 (by omega) (by omega)]; omega
        have i4 : IntKind.wrap .i64 ((p : Int) - (((i + j) / 2 : Nat) : Int)) = ((p - (i + j) / 2 : Nat) : Int) := by rw [wrap_i64 (by omega) (by omega)]; omega
        obtain ⟨c, c1, c2⟩ := oZ N (D.getD (p - (i + j) / 2) (0, [], ())) (D.getD ((i + j) / 2) (0, [], ()))
        simp only [i4, wi hh, wi q2, if_true, Int.toNat_natCast, Nat.zero_add, yd (show (i + j) / 2 < D.length by omega), yd (show p - (i + j) / 2 < D.length by omega), Option.bind_some, c1, c2, i3]
        by_cases hlt : wt D (p - (i + j) / 2) < wt D ((i + j) / 2)
        · have hlt' : decide ((D.getD (p - (i + j) / 2) (0, [], ())).1 < (D.getD ((i + j) / 2) (0, [], ())).1) = true := by simpa [wt] using hlt
          rw [hlt', if_neg (by decide)]
          obtain ⟨s, g1, g2⟩ := ih i ((i + j) / 2) f (by omega) (by omega) h1 (by omega) (by omega) hlo (fun c hc1 hc2 => by
            have := hmono ((i + j) / 2) c (by omega) hc1 hc2
            omega)
          exact ⟨s, by rw [g1]; rfl, g2⟩
        · have hlt' : decide ((D.getD (p - (i + j) / 2) (0, [], ())).1 < (D.getD ((i + j) / 2) (0, [], ())).1) = false := by simpa [wt] using hlt
          rw [hlt', if_pos (by decide)]
          obtain ⟨s, g1, g2⟩ := ih ((i + j) / 2 + 1) j f (by omega) (by omega) (by omega) (by omega) h3 (fun c hc1 hc2 => by
            have := hmono c ((i + j) / 2) hc1 (by omega) (by omega)
            omega) hhi
          exact ⟨s, by rw [g1]; rfl, g2⟩
      · rw [aV (by omega)]
        exact ⟨i, rfl, h1, by omega, hlo, fun c hc => hhi c (by omega)⟩
noncomputable def nh (N : Nat) (G : GT) (y : Int × Int × Int × Int × Nat × Nat × Int × Int × List aD) : Option (List aD) :=
  Option.bind (ac (decide (y.2.2.2.1 < y.2.1)) (ac (decide (y.2.1 < IntKind.wrap .i64 (y.1 - y.2.2.2.1))) (rC N (y.2.2.2.2.1, y.2.2.2.2.2.1, y.2.2.2.1, y.2.1, IntKind.wrap .i64 (y.1 - y.2.2.2.1), y.2.2.2.2.2.2.2.2)) (some y.2.2.2.2.2.2.2.2)) (some y.2.2.2.2.2.2.2.2)) fun d1 =>
  Option.bind (ac (decide (y.2.2.1 < y.2.2.2.1)) (ac (decide (y.2.2.2.1 < y.2.2.2.2.2.2.1)) (G (y.2.2.2.2.1, y.2.2.2.2.2.1, y.2.2.1, y.2.2.2.1, y.2.2.2.2.2.2.1, d1)) (some d1)) (some d1)) fun d2 =>
  ac (decide (y.2.2.2.2.2.2.1 < IntKind.wrap .i64 (y.1 - y.2.2.2.1))) (ac (decide (IntKind.wrap .i64 (y.1 - y.2.2.2.1) < y.2.2.2.2.2.2.2.1)) (Option.bind (G (y.2.2.2.2.1, y.2.2.2.2.2.1, y.2.2.2.2.2.2.1, IntKind.wrap .i64 (y.1 - y.2.2.2.1), y.2.2.2.2.2.2.2.1, d2)) fun d3 => some d3) (some d2)) (some d2)
theorem JF (N : Nat) (G : GT) (o len : Nat) (a m b : Int) (D : List aD) : A4 N G (o, len, a, m, b, D) =
    ac (IntKind.wrap .i64 (m - a) == 1) (
      Option.bind (dO N G N (m, b, o, len, a, D)) fun y0 =>
      Option.bind (dM N G N (y0.1, y0.2.1, y0.2.2.1, y0.2.2.2.1, y0.2.2.2.2)) fun y1 => some y1) (
    ac (IntKind.wrap .i64 (b - m) == 1) (
      Option.bind (dN N G N (a, m, m, o, len, D)) fun y2 =>
      Option.bind (cr N G N (y2.1, y2.2.1, y2.2.2.1, y2.2.2.2.1, y2.2.2.2.2)) fun y3 => some y3) (
    ac (decide (m > IntKind.wrap .i64 (Int.fdiv (IntKind.wrap .u64 (IntKind.wrap .i64 (a + b))) 2))) (
      Option.bind (bY N G N (IntKind.wrap .i64 (IntKind.wrap .i64 (IntKind.wrap .i64 (Int.fdiv (IntKind.wrap .u64 (IntKind.wrap .i64 (a + b))) 2) + m) - b), b, IntKind.wrap .i64 (Int.fdiv (IntKind.wrap .u64 (IntKind.wrap .i64 (a + b))) 2), a, m, IntKind.wrap .i64 (IntKind.wrap .i64 (Int.fdiv (IntKind.wrap .u64 (IntKind.wrap .i64 (a + b))) 2) + m), IntKind.wrap .i64 (Int.fdiv (IntKind.wrap .u64 (IntKind.wrap .i64 (a + b))) 2), IntKind.wrap .i64 (IntKind.wrap .i64 (IntKind.wrap .i64 (Int.fdiv (IntKind.wrap .u64 (IntKind.wrap .i64 (a + b))) 2) + m) - 1), o, len, D)) (nh N G)) (
      Option.bind (bY N G N (a, b, IntKind.wrap .i64 (Int.fdiv (IntKind.wrap .u64 (IntKind.wrap .i64 (a + b))) 2), a, m, IntKind.wrap .i64 (IntKind.wrap .i64 (Int.fdiv (IntKind.wrap .u64 (IntKind.wrap .i64 (a + b))) 2) + m), m, IntKind.wrap .i64 (IntKind.wrap .i64 (IntKind.wrap .i64 (Int.fdiv (IntKind.wrap .u64 (IntKind.wrap .i64 (a + b))) 2) + m) - 1), o, len, D)) (nh N G)))) := by
  unfold A4
  simp only
  have key : ∀ y : Int × Int × Int × Int × Nat × Nat × Int × Int × List aD, ∀ z, z = nh N G y → z = nh N G y := fun _ _ h => h
  congr 2
  congr 1
  all_goals
    congr 1
    funext y
    unfold nh
    generalize decide (y.2.2.2.1 < y.2.1) = c1
    generalize decide (y.2.1 < IntKind.wrap .i64 (y.1 - y.2.2.2.1)) = c2
    generalize decide (y.2.2.1 < y.2.2.2.1) = c3
    generalize decide (y.2.2.2.1 < y.2.2.2.2.2.2.1) = c4
    generalize decide (y.2.2.2.2.2.2.1 < IntKind.wrap .i64 (y.1 - y.2.2.2.1)) = c5
    generalize decide (IntKind.wrap .i64 (y.1 - y.2.2.2.1) < y.2.2.2.2.2.2.2.1) = c6
    cases c1 <;> cases c2 <;> cases c3 <;> cases c4 <;> cases c5 <;> cases c6 <;> rfl
end Go.Proofs.YteddgkplkjldcaaGreat.Am
namespace Go.Proofs.YteddgkplkjldcaaGreat.Am
open Go.Am
theorem mem_left {A B : List aD} {y : aD} (h : y ∈ A) : ∃ i, i < A.length ∧ wt (A ++ B) i = y.1 := by
  obtain ⟨i, hi, e⟩ := List.getElem_of_mem h
  refine ⟨i, hi, ?_⟩
  rw [yG (by rw [List.length_append]; omega), List.getElem_append_left hi, e]
theorem mem_right {A B : List aD} {y : aD} (h : y ∈ B) : ∃ i, A.length ≤ i ∧ i < (A ++ B).length ∧ wt (A ++ B) i = y.1 := by
  obtain ⟨i, hi, e⟩ := List.getElem_of_mem h
  refine ⟨A.length + i, by omega, by rw [List.length_append]; omega, ?_⟩
  rw [yG (by rw [List.length_append]; omega), List.getElem_append_right (by omega)]
  simp only [Nat.add_sub_cancel_left, e]
theorem zx (X : List aD) (k : Nat) (h : k ≤ X.length) : ∃ X1 X2, X = X1 ++ X2 ∧ X1.length = k :=
  ⟨X.take k, X.drop k, (List.take_append_drop ..).symm, by rw [List.length_take]; omega⟩
theorem N8 {N : Nat} (hN : 100000 < N) (n : Nat) (hn : n ≤ 100000) (k : Nat) (ih : ∀ (P X Y S : List aD) (a m b : Nat), X.length + Y.length < k → (P ++ (X ++ (Y ++ S))).length = n → P.length = a → a + X.length = m → m + Y.length = b → 0 < X.length → 0 < Y.length → ll X → ll Y →
      bp N k (0, n, (a : Int), (m : Int), (b : Int), P ++ (X ++ (Y ++ S))) = some (P ++ (fy X Y ++ S)))
    (P X Y S : List aD) (a m b mid : Nat) (hk : X.length + Y.length < k + 1) (hlen : (P ++ (X ++ (Y ++ S))).length = n) (ha : P.length = a) (hm : a + X.length = m) (hb : m + Y.length = b) (hX : 0 < X.length) (hY : 0 < Y.length) (hsX : ll X) (hsY : ll Y) (hmid2 : 2 * mid ≤ a + b ∧ a + b ≤ 2 * mid + 1)
    (hl : a + X.length + Y.length + S.length = n) (wX : ∀ i, i < X.length → wt (P ++ (X ++ (Y ++ S))) (a + i) = wt X i) (wY : ∀ i, i < Y.length → wt (P ++ (X ++ (Y ++ S))) (m + i) = wt Y i) :
    ∀ (lo r s : Nat), ((mid < m ∧ lo + b = mid + m ∧ r = mid) ∨ (m ≤ mid ∧ lo = a ∧ r = m)) → lo ≤ s → s ≤ r → (∀ c, lo ≤ c → c < s → wt (P ++ (X ++ (Y ++ S))) c ≤ wt (P ++ (X ++ (Y ++ S))) (mid + m - 1 - c)) → (∀ c, s ≤ c → c < r → wt (P ++ (X ++ (Y ++ S))) (mid + m - 1 - c) < wt (P ++ (X ++ (Y ++ S))) c) →
      nh N (bp N k) (((mid + m : Nat) : Int), (m : Int), (a : Int), (s : Int), 0, n, (mid : Int), (b : Int), P ++ (X ++ (Y ++ S))) = some (P ++ (fy X Y ++ S)) := by
  intro lo r s hlo h3 h4 h5 h6
  obtain ⟨e, he⟩ : ∃ e, e + s = mid + m := ⟨mid + m - s, by omega⟩
  have hs1 : a ≤ s ∧ s ≤ m ∧ m ≤ e ∧ e ≤ b := by omega
  obtain ⟨X1, X2, rfl, hX1⟩ := zx X (s - a) (by omega)
  obtain ⟨Y1, Y2, rfl, hY1⟩ := zx Y (e - m) (by omega)
  rw [List.length_append] at hm hb hX hY
  simp only [List.length_append] at hl
  have c1 : ∀ y ∈ Y1, ∀ x ∈ X2, y.1 < x.1 := fun y hy x hx => by
    obtain ⟨i, hi, ei⟩ := mem_left (B := Y2) hy
    obtain ⟨j, hj1, hj2, ej⟩ := mem_right (A := X1) hx
    have hY1p : 0 < Y1.length := List.length_pos_of_mem hy
    have hX2p : 0 < X2.length := List.length_pos_of_mem hx
    have := h6 s (Nat.le_refl _) (by omega)
    rw [show mid + m - 1 - s = m + (Y1.length - 1) by omega, wY _ (by rw [List.length_append]; omega), show s = a + X1.length by omega, wX _ (by rw [List.length_append]; omega)] at this
    have k1 := gR hsY (i := i) (j := Y1.length - 1) (by omega) (by rw [List.length_append]; omega)
    have k2 := gR hsX (i := X1.length) (j := j) hj1 hj2
    omega
  have c2 : ∀ x ∈ X1, ∀ y ∈ Y2, x.1 ≤ y.1 := fun x hx y hy => by
    obtain ⟨i, hi, ei⟩ := mem_left (B := X2) hx
    obtain ⟨j, hj1, hj2, ej⟩ := mem_right (A := Y1) hy
    have hX1p : 0 < X1.length := List.length_pos_of_mem hx
    have hY2p : 0 < Y2.length := List.length_pos_of_mem hy
    have := h5 (s - 1) (by omega) (by omega)
    rw [show mid + m - 1 - (s - 1) = m + Y1.length by omega, wY _ (by rw [List.length_append]; omega), show s - 1 = a + (X1.length - 1) by omega, wX _ (by rw [List.length_append]; omega)] at this
    have k1 := gR hsX (i := i) (j := X1.length - 1) (by omega) (by rw [List.length_append]; omega)
    have k2 := gR hsY (i := Y1.length) (j := j) hj1 hj2
    omega
  have sX := List.pairwise_append.1 hsX
  have sY := List.pairwise_append.1 hsY
  rw [dh X1 X2 Y1 Y2 c1 c2]
  have jE : IntKind.wrap .i64 (((mid + m : Nat) : Int) - (s : Int)) = (e : Int) := by rw [wrap_i64 (by omega) (by omega)]; omega
  unfold nh
  simp only [jE, ae]
  -- turned
  have d1 : (if decide ((s : Int) < (m : Int)) = true then (if decide ((m : Int) < (e : Int)) = true then rC N (0, n, (s : Int), (m : Int), (e : Int), P ++ (X1 ++ X2 ++ (Y1 ++ Y2 ++ S))) else some (P ++ (X1 ++ X2 ++ (Y1 ++ Y2 ++ S)))) else some (P ++ (X1 ++ X2 ++ (Y1 ++ Y2 ++ S)))) = some (P ++ (X1 ++ (Y1 ++ (X2 ++ (Y2 ++ S))))) := by
    by_cases q1 : s < m
    · rw [aY (by omega)]
      by_cases q2 : m < e
      · rw [aY (by omega)]
        have := Dd hN (P ++ X1) X2 Y1 (Y2 ++ S) n s m e hn (by rw [← hlen]; simp only [List.length_append]; omega) (by omega) (by omega) (by rw [List.length_append]; omega) (by omega) (by omega)
        simpa only [List.append_assoc] using this
      · rw [aV (by omega)]
        have : Y1 = [] := List.eq_nil_of_length_eq_zero (by omega)
        subst this
        simp
    · rw [aV (by omega)]
      have : X2 = [] := List.eq_nil_of_length_eq_zero (by omega)
      subst this
      simp
  rw [d1, Option.bind_some]
  -- the lower part
  have d2 : (if decide ((a : Int) < (s : Int)) = true then (if decide ((s : Int) < (mid : Int)) = true then bp N k (0, n, (a : Int), (s : Int), (mid : Int), P ++ (X1 ++ (Y1 ++ (X2 ++ (Y2 ++ S))))) else some (P ++ (X1 ++ (Y1 ++ (X2 ++ (Y2 ++ S)))))) else some (P ++ (X1 ++ (Y1 ++ (X2 ++ (Y2 ++ S)))))) = some (P ++ (fy X1 Y1 ++ (X2 ++ (Y2 ++ S)))) := by
    by_cases q1 : a < s
    · rw [aY (by omega)]
      by_cases q2 : s < mid
      · rw [aY (by omega)]
        exact ih P X1 Y1 (X2 ++ (Y2 ++ S)) a s mid (by simp only [List.length_append] at hk; omega) (by rw [← hlen]; simp only [List.length_append]; omega) ha (by omega) (by omega) (by omega) (by omega) sX.1 sY.1
      · rw [aV (by omega)]
        have : Y1 = [] := List.eq_nil_of_length_eq_zero (by omega)
        subst this
        simp [eL]
    · rw [aV (by omega)]
      have : X1 = [] := List.eq_nil_of_length_eq_zero (by omega)
      subst this
      simp [kK]
  rw [d2, Option.bind_some]
  -- the upper part
  have hml := G0 X1 Y1
  by_cases q1 : mid < e
  · rw [aY (by omega)]
    by_cases q2 : e < b
    · rw [aY (by omega)]
      have := ih (P ++ fy X1 Y1) X2 Y2 S mid e b (by simp only [List.length_append] at hk; omega) (by rw [← hlen]; simp only [List.length_append, hml]; omega) (by rw [List.length_append, hml]; omega) (by omega) (by omega) (by omega) (by omega) sX.2.1 sY.2.1
      rw [List.append_assoc] at this
      rw [this, Option.bind_some]
      simp
    · rw [aV (by omega)]
      have : Y2 = [] := List.eq_nil_of_length_eq_zero (by omega)
      subst this
      simp [eL]
  · rw [aV (by omega)]
    have : X2 = [] := List.eq_nil_of_length_eq_zero (by omega)
    subst this
    simp [kK]
theorem vP {N : Nat} (hN : 100000 < N) (n : Nat) (hn : n ≤ 100000) : ∀ (k : Nat) (P X Y S : List aD) (a m b : Nat), X.length + Y.length < k → (P ++ (X ++ (Y ++ S))).length = n → P.length = a → a + X.length = m → m + Y.length = b → 0 < X.length → 0 < Y.length → ll X → ll Y →
    bp N k (0, n, (a : Int), (m : Int), (b : Int), P ++ (X ++ (Y ++ S))) = some (P ++ (fy X Y ++ S)) := by
  intro k
  induction k with
  | zero => intro P X Y S a m b h; omega
  | succ k ih =>
    intro P X Y S a m b hk hlen ha hm hb hX hY hsX hsY
    have hl : a + X.length + Y.length + S.length = n := by rw [← hlen]; simp only [List.length_append]; omega
    have wX : ∀ i, i < X.length → wt (P ++ (X ++ (Y ++ S))) (a + i) = wt X i := fun i hi => Ku P X (Y ++ S) ha hi
    have wY : ∀ i, i < Y.length → wt (P ++ (X ++ (Y ++ S))) (m + i) = wt Y i := fun i hi => by
      have := Ku (P ++ X) Y S (a := m) (by rw [List.length_append]; omega) hi
      rwa [List.append_assoc] at this
    have i1 : IntKind.wrap .i64 ((m : Int) - (a : Int)) = (X.length : Int) := by rw [wrap_i64 (by omega) (by omega)]; omega
    have i2 : IntKind.wrap .i64 ((b : Int) - (m : Int)) = (Y.length : Int) := by rw [wrap_i64 (by omega) (by omega)]; omega
    show A4 N (bp N k) (0, n, (a : Int), (m : Int), (b : Int), P ++ (X ++ (Y ++ S))) = _
    rw [JF, ae, ae, ae, i1, i2, zc (by omega)]
    by_cases h1 : X.length = 1
    · -- one goes up
      rw [if_pos (by simp only [beq_iff_eq]; omega)]
      obtain ⟨x, rfl⟩ := List.length_eq_one_iff.1 h1
      obtain ⟨s, g1, g2, g3, g4, g5⟩ := wR N (bp N k) n a hn _ hlen (by omega) m b (by omega) (fun c d hc hcd hd => by
        have := gR hsY (i := c - m) (j := d - m) (by omega) (by omega)
        rw [← wY (c - m) (by omega), ← wY (d - m) (by omega)] at this
        rwa [show m + (c - m) = c by omega, show m + (d - m) = d by omega] at this) (b - m) m b N (Nat.le_refl _) (by omega) (Nat.le_refl _) (by omega) (Nat.le_refl _) (fun c _ _ => by omega) (fun c _ _ => by omega)
      rw [g1, Option.bind_some]
      have wa : wt (P ++ ([x] ++ (Y ++ S))) a = x.1 := by
        have := wX 0 (by simp)
        simpa [wt] using this
      obtain ⟨Y1, Y2, rfl, hY1⟩ := zx Y (s - m) (by omega)
      have hlow : ∀ y ∈ Y1, y.1 < x.1 := fun y hy => by
        obtain ⟨i, hi, e⟩ := mem_left (B := Y2) hy
        have := g4 (m + i) (by omega) (by omega)
        rw [wY i (by rw [List.length_append]; omega), wa, e] at this
        exact this
      have hhigh : ∀ y ∈ Y2, x.1 ≤ y.1 := fun y hy => by
        obtain ⟨i, hi1, hi2, e⟩ := mem_right (A := Y1) hy
        have := g5 (m + i) (by omega) (by omega)
        rw [wY i hi2, wa, e] at this
        exact this
      have hmv := Di N (bp N k) n hn P (Y2 ++ S) x s Y1 [] N _ rfl (by rw [← hlen]; simp only [List.length_append, List.length_cons, List.length_nil]; omega) (by simp only [List.length_nil]; simp only [List.length_singleton] at hm; omega) (by rw [List.length_append] at hl; omega)
      simp only [List.length_nil, Nat.add_zero, ha] at hmv
      simp only
      have e1 : P ++ ([x] ++ (Y1 ++ Y2 ++ S)) = P ++ ([] ++ (x :: (Y1 ++ (Y2 ++ S)))) := by simp
      rw [e1, hmv, Option.bind_some]
      have hp := dh [] [x] Y1 Y2 (fun y hy z hz => by rw [List.mem_singleton.1 hz]; exact hlow y hy) (fun z hz => by cases hz)
      rw [List.nil_append, kK, IZ [x] Y2 (fun z hz y hy => by rw [List.mem_singleton.1 hz]; exact hhigh y hy)] at hp
      rw [hp]
      simp
    · rw [if_neg (by simp only [beq_iff_eq]; omega)]
      by_cases h2 : Y.length = 1
      · -- one goes down
        rw [if_pos (by simp only [beq_iff_eq]; omega)]
        obtain ⟨y, rfl⟩ := List.length_eq_one_iff.1 h2
        obtain ⟨s, g1, g2, g3, g4, g5⟩ := wQ N (bp N k) n m hn _ hlen (by omega) a m (by omega) (fun c d hc hcd hd => by
          have := gR hsX (i := c - a) (j := d - a) (by omega) (by omega)
          rw [← wX (c - a) (by omega), ← wX (d - a) (by omega)] at this
          rwa [show a + (c - a) = c by omega, show a + (d - a) = d by omega] at this) (m - a) a m N (Nat.le_refl _) (by omega) (Nat.le_refl _) (by omega) (Nat.le_refl _) (fun c _ _ => by omega) (fun c _ _ => by omega)
        rw [g1, Option.bind_some]
        have wm : wt (P ++ (X ++ ([y] ++ S))) m = y.1 := by
          have := wY 0 (by simp)
          simpa [wt] using this
        obtain ⟨X1, X2, rfl, hX1⟩ := zx X (s - a) (by omega)
        have hlow : ∀ x ∈ X1, x.1 ≤ y.1 := fun x hx => by
          obtain ⟨i, hi, e⟩ := mem_left (B := X2) hx
          have := g4 (a + i) (by omega) (by omega)
          rw [wX i (by rw [List.length_append]; omega), wm, e] at this
          exact this
        have hhigh : ∀ x ∈ X2, y.1 < x.1 := fun x hx => by
          obtain ⟨i, hi1, hi2, e⟩ := mem_right (A := X1) hx
          have := g5 (a + i) (by omega) (by omega)
          rw [wX i hi2, wm, e] at this
          exact this
        rw [List.length_append] at hm hl
        have hmv := vQ N (bp N k) n hn (P ++ X1) S y X2 [] N _ rfl (by rw [← hlen]; simp only [List.length_append, List.length_cons, List.length_nil]; omega) (by omega)
        rw [List.length_append, show P.length + X1.length + X2.length = m by omega, show P.length + X1.length = s by omega] at hmv
        simp only
        have e1 : P ++ (X1 ++ X2 ++ ([y] ++ S)) = P ++ X1 ++ (X2 ++ (y :: ([] ++ S))) := by simp
        rw [e1, hmv, Option.bind_some]
        have hp := dh X1 X2 [] [y] (fun z hz => by cases hz) (fun x hx z hz => by rw [List.mem_singleton.1 hz]; exact hlow x hx)
        rw [List.nil_append, eL, LR X2 [y] (fun z hz x hx => by rw [List.mem_singleton.1 hz]; exact hhigh x hx)] at hp
        rw [hp]
        simp
      · rw [if_neg (by simp only [beq_iff_eq]; omega)]
        -- what stands behind both ways
        obtain ⟨mid, hmid⟩ : ∃ mid, mid = (a + b) / 2 := ⟨_, rfl⟩
        rw [← hmid]
        have hmid2 : 2 * mid ≤ a + b ∧ a + b ≤ 2 * mid + 1 := by omega
        clear hmid
        have j1 : IntKind.wrap .i64 ((mid : Int) + (m : Int)) = ((mid + m : Nat) : Int) := by rw [wrap_i64 (by omega) (by omega)]; omega
        have j2 : IntKind.wrap .i64 (((mid + m : Nat) : Int) - (b : Int)) = ((mid : Int) + m - b) := by rw [wrap_i64 (by omega) (by omega)]; omega
        have j3 : IntKind.wrap .i64 (((mid + m : Nat) : Int) - 1) = ((mid + m - 1 : Nat) : Int) := by rw [wrap_i64 (by omega) (by omega)]; omega
        rw [j1, j2, j3]
        have fin := N8 hN n hn k ih P X Y S a m b mid hk hlen ha hm hb hX hY hsX hsY hmid2 hl wX wY
        have mono : ∀ c d, a ≤ c → c ≤ d → d < m → m + d < b + d + 1 → m ≤ mid + m - 1 - d → mid + m - 1 - c < b → c ≤ mid + m - 1 → wt (P ++ (X ++ (Y ++ S))) c ≤ wt (P ++ (X ++ (Y ++ S))) d ∧ wt (P ++ (X ++ (Y ++ S))) (mid + m - 1 - d) ≤ wt (P ++ (X ++ (Y ++ S))) (mid + m - 1 - c) := by
          intro c d q1 q2 q3 _ q4 q5 q6
          constructor
          · have := gR hsX (i := c - a) (j := d - a) (by omega) (by omega)
            rw [← wX (c - a) (by omega), ← wX (d - a) (by omega)] at this
            rwa [show a + (c - a) = c by omega, show a + (d - a) = d by omega] at this
          · have := gR hsY (i := mid + m - 1 - d - m) (j := mid + m - 1 - c - m) (by omega) (by omega)
            rw [← wY (mid + m - 1 - d - m) (by omega), ← wY (mid + m - 1 - c - m) (by omega)] at this
            rwa [show m + (mid + m - 1 - d - m) = mid + m - 1 - d by omega, show m + (mid + m - 1 - c - m) = mid + m - 1 - c by omega] at this
        by_cases hmm : mid < m
        · rw [aY (by omega)]
          obtain ⟨lo, hlo⟩ : ∃ lo, lo + b = mid + m := ⟨mid + m - b, by omega⟩
          rw [show (mid : Int) + m - b = (lo : Int) by omega]
          obtain ⟨s, g1, g2, g3, g4, g5⟩ := lF N (bp N k) n hn _ hlen (mid + m - 1) lo mid (b : Int) (mid : Int) (a : Int) (m : Int) ((mid + m : Nat) : Int) (by omega) (fun c q1 q2 => by omega) (by omega) (fun c d q1 q2 q3 => mono c d (by omega) q2 (by omega) (by omega) (by omega) (by omega) (by omega)) (mid - lo) lo mid N (Nat.le_refl _) (by omega) (Nat.le_refl _) (by omega) (Nat.le_refl _) (fun c _ _ => by omega) (fun c _ _ => by omega)
          rw [g1, Option.bind_some]
          exact fin lo mid s (.inl ⟨hmm, hlo, rfl⟩) g2 g3 g4 g5
        · rw [aV (by omega)]
          obtain ⟨s, g1, g2, g3, g4, g5⟩ := lF N (bp N k) n hn _ hlen (mid + m - 1) a m (b : Int) (mid : Int) (a : Int) (m : Int) ((mid + m : Nat) : Int) (by omega) (fun c q1 q2 => by omega) (by omega) (fun c d q1 q2 q3 => mono c d (by omega) q2 (by omega) (by omega) (by omega) (by omega) (by omega)) (m - a) a m N (Nat.le_refl _) (by omega) (Nat.le_refl _) (by omega) (Nat.le_refl _) (fun c _ _ => by omega) (fun c _ _ => by omega)
          rw [g1, Option.bind_some]
          exact fin a m s (.inr ⟨by omega, rfl, rfl⟩) g2 g3 g4 g5
end Go.Proofs.YteddgkplkjldcaaGreat.Am
namespace Go.Proofs.YteddgkplkjldcaaGreat.Am
open Go.Am
def blk (bs : Nat) : Nat → List aD → List aD
  | 0, _ => []
  | k + 1, L => aH (L.take bs) ++ blk bs k (L.drop bs)
theorem rZ (bs : Nat) : ∀ k, blk bs k [] = []
  | 0 => rfl
  | k + 1 => by rw [blk, List.take_nil, List.drop_nil, rZ bs k]; rfl
theorem eC {bs : Nat} {L : List aD} (h : L.length ≤ bs) (k : Nat) : blk bs (k + 1) L = aH L := by
  rw [blk, List.take_of_length_le h, List.drop_of_length_le h, rZ, List.append_nil]
theorem Hf {bs : Nat} : ∀ (k : Nat) (L : List aD), L.length ≤ bs * k → (blk bs k L).length = L.length
  | 0, L, h => by have : L.length = 0 := by omega
                  rw [blk, this]; rfl
  | k + 1, L, h => by
    rw [Nat.mul_succ] at h
    rw [blk, List.length_append, aT, Hf k (L.drop bs) (by rw [List.length_drop]; omega), List.length_take, List.length_drop]
    omega
theorem CV {bs : Nat} : ∀ (k k' : Nat) (L : List aD), L.length ≤ bs * k → k ≤ k' → blk bs k' L = blk bs k L
  | 0, k', L, h, _ => by
    have : L = [] := List.eq_nil_of_length_eq_zero (by omega)
    rw [this, rZ, rZ]
  | k + 1, 0, L, _, h => by omega
  | k + 1, k' + 1, L, h, hk => by
    rw [Nat.mul_succ] at h
    rw [blk, blk, CV k k' (L.drop bs) (by rw [List.length_drop]; omega) (by omega)]
theorem A7 {N : Nat} (hN : 100000 < N) (n : Nat) (hn : n ≤ 50000) : ∀ (k : Nat) (P L : List aD) (a f : Nat), P.length = a → a + L.length = n → L.length ≤ 20 * k → k < f →
    ∃ (a' : Nat) (P' R : List aD), dx N f ((a : Int), ((a + 20 : Nat) : Int), (n : Int), 0, n, 20, P ++ L) = some ((a' : Int), (n : Int), 0, n, 20, P' ++ R) ∧ P'.length = a' ∧ a' + R.length = n ∧ P' ++ aH R = P ++ blk 20 k L := by
  intro k
  induction k with
  | zero =>
    intro P L a f ha hl hk hf
    cases f with
    | zero => omega
    | succ f =>
      simp only [dx, pu, ae]
      rw [aV (by omega)]
      have : L = [] := List.eq_nil_of_length_eq_zero (by omega)
      subst this
      exact ⟨a, P, [], rfl, ha, hl, rfl⟩
  | succ k ih =>
    intro P L a f ha hl hk hf
    cases f with
    | zero => omega
    | succ f =>
      simp only [dx, pu, ae]
      by_cases h : 20 ≤ L.length
      · rw [aY (by omega)]
        have hs := yt hN P (L.take 20) (L.drop 20) n a (a + 20) (by omega) (by rw [List.take_append_drop, List.length_append]; omega) ha (by rw [List.length_take]; omega)
        rw [List.take_append_drop] at hs
        rw [hs, Option.bind_some]
        have i1 : IntKind.wrap .i64 (((a + 20 : Nat) : Int) + 20) = ((a + 20 + 20 : Nat) : Int) := by rw [wrap_i64 (by omega) (by omega)]; omega
        obtain ⟨a', P', R, g1, g2, g3, g4⟩ := ih (P ++ aH (L.take 20)) (L.drop 20) (a + 20) f (by rw [List.length_append, aT, List.length_take]; omega) (by rw [List.length_drop]; omega) (by rw [List.length_drop]; omega) (by omega)
        rw [List.append_assoc] at g1
        exact ⟨a', P', R, by rw [i1, g1]; rfl, g2, g3, by rw [g4, blk, List.append_assoc]⟩
      · rw [aV (by omega)]
        exact ⟨a, P, L, rfl, ha, hl, by rw [eC (by omega)]⟩
theorem vS {N : Nat} (hN : 100000 < N) (n bs : Nat) (hn : n ≤ 50000) (hb : 0 < bs) (hb2 : bs ≤ 50000) : ∀ (k : Nat) (P L : List aD) (a f : Nat), P.length = a → a + L.length = n → L.length ≤ 2 * bs * k → k < f →
    ∃ (a' : Nat) (D' : List aD), cv N f ((a : Int), ((a + 2 * bs : Nat) : Int), (n : Int), 0, n, (bs : Int), P ++ blk bs (2 * k) L) = some ((a' : Int), (bs : Int), (n : Int), 0, n, D') ∧ a' ≤ n ∧
      (a' + bs < n → Dh N (0, n, (a' : Int), ((a' + bs : Nat) : Int), (n : Int), D') = some (P ++ blk (2 * bs) k L)) ∧ (¬ a' + bs < n → D' = P ++ blk (2 * bs) k L) := by
  intro k
  induction k with
  | zero =>
    intro P L a f ha hl hk hf
    cases f with
    | zero => omega
    | succ f =>
      simp only [cv, j6, ae]
      rw [aV (by omega)]
      exact ⟨a, _, rfl, by omega, fun h => by omega, fun _ => rfl⟩
  | succ k ih =>
    intro P L a f ha hl hk hf
    cases f with
    | zero => omega
    | succ f =>
      rw [Nat.mul_succ] at hk
      simp only [cv, j6, ae]
      have e2 : 2 * (k + 1) = 2 * k + 1 + 1 := by omega
      have i2 : IntKind.wrap .i64 ((2 : Int) * (bs : Int)) = ((2 * bs : Nat) : Int) := by rw [wrap_i64 (by omega) (by omega)]; omega
      by_cases h : 2 * bs ≤ L.length
      · rw [aY (by omega)]
        have i1 : IntKind.wrap .i64 ((a : Int) + (bs : Int)) = ((a + bs : Nat) : Int) := by rw [wrap_i64 (by omega) (by omega)]; omega
        have i3 : IntKind.wrap .i64 (((a + 2 * bs : Nat) : Int) + ((2 * bs : Nat) : Int)) = ((a + 2 * bs + 2 * bs : Nat) : Int) := by rw [wrap_i64 (by omega) (by omega)]; omega
        have hbl := Hf (bs := bs) (2 * k) ((L.drop bs).drop bs) (by
          rw [List.length_drop, List.length_drop]
          have : bs * (2 * k) = 2 * bs * k := by rw [← Nat.mul_assoc, Nat.mul_comm bs 2]
          omega)
        have hm := vP hN n (by omega) N P (aH (L.take bs)) (aH ((L.drop bs).take bs)) (blk bs (2 * k) ((L.drop bs).drop bs)) a (a + bs) (a + 2 * bs)
          (by simp only [aT, List.length_take, List.length_drop]; omega)
          (by simp only [List.length_append, aT, List.length_take, List.length_drop, hbl]; omega) ha (by rw [aT, List.length_take]; omega) (by rw [aT, List.length_take, List.length_drop]; omega)
          (by rw [aT, List.length_take]; omega) (by rw [aT, List.length_take, List.length_drop]; omega) (di _) (di _)
        have et : L.take bs ++ (L.drop bs).take bs = L.take (2 * bs) := by
          rw [show 2 * bs = bs + bs by omega, List.take_add]
        have ed : (L.drop bs).drop bs = L.drop (2 * bs) := by rw [List.drop_drop]; congr 1; omega
        rw [iR, et, ed] at hm
        rw [e2, blk, blk, i1, ed]
        have hm' : Dh N (0, n, (a : Int), ((a + bs : Nat) : Int), ((a + 2 * bs : Nat) : Int), P ++ (aH (L.take bs) ++ (aH ((L.drop bs).take bs) ++ blk bs (2 * k) (L.drop (2 * bs))))) = some (P ++ (aH (L.take (2 * bs)) ++ blk bs (2 * k) (L.drop (2 * bs)))) := hm
        rw [hm', Option.bind_some, i2, i3]
        obtain ⟨a', D', g1, g2, g3, g4⟩ := ih (P ++ aH (L.take (2 * bs))) (L.drop (2 * bs)) (a + 2 * bs) f (by rw [List.length_append, aT, List.length_take]; omega) (by rw [List.length_drop]; omega) (by rw [List.length_drop]; omega) (by omega)
        rw [List.append_assoc] at g1 g3 g4
        exact ⟨a', D', by rw [g1]; rfl, g2, by rw [blk]; exact g3, by rw [blk]; exact g4⟩
      · rw [aV (by omega)]
        refine ⟨a, _, rfl, by omega, fun h2 => ?_, fun h2 => ?_⟩
        · have hm := vP hN n (by omega) N P (aH (L.take bs)) (aH (L.drop bs)) [] a (a + bs) n
            (by simp only [aT, List.length_take, List.length_drop]; omega)
            (by simp only [List.length_append, aT, List.length_take, List.length_drop, List.length_nil]; omega) ha (by rw [aT, List.length_take]; omega) (by rw [aT, List.length_drop]; omega)
            (by rw [aT, List.length_take]; omega) (by rw [aT, List.length_drop]; omega) (di _) (di _)
          rw [iR, List.take_append_drop, List.append_nil, List.append_nil] at hm
          rw [e2, blk, eC (by rw [List.length_drop]; omega), eC (by omega)]
          exact hm
        · rw [e2, eC (by omega), eC (by omega)]
theorem A6 {N : Nat} (hN : 100000 < N) (n : Nat) (hn : n ≤ 20000) (L : List aD) (hL : L.length = n) : ∀ (t bs f : Nat), n ≤ bs * 2 ^ t → 0 < bs → bs ≤ 40000 → t < f →
    fp N f ((n : Int), 0, n, (bs : Int), blk bs (2 * n) L) = some (aH L) := by
  intro t
  induction t with
  | zero =>
    intro bs f ht hb hb2 hf
    cases f with
    | zero => omega
    | succ f =>
      rw [Nat.pow_zero, Nat.mul_one] at ht
      simp only [fp, pt, ae]
      rw [aV (by omega)]
      congr 1
      cases n with
      | zero =>
        have : L = [] := List.eq_nil_of_length_eq_zero hL
        subst this
        rfl
      | succ n =>
        rw [show 2 * (n + 1) = 2 * n + 1 + 1 by omega, eC (by omega)]
  | succ t ih =>
    intro bs f ht hb hb2 hf
    cases f with
    | zero => omega
    | succ f =>
      simp only [fp, pt, ae]
      by_cases h : bs < n
      · rw [aY (by omega)]
        have i2 : IntKind.wrap .i64 ((2 : Int) * (bs : Int)) = ((0 + 2 * bs : Nat) : Int) := by rw [wrap_i64 (by omega) (by omega)]; omega
        have hle : n ≤ 2 * bs * n := by
          have : 1 * n ≤ 2 * bs * n := Nat.mul_le_mul_right n (by omega)
          omega
        obtain ⟨a', D', g1, g2, g3, g4⟩ := vS hN n bs (by omega) hb (by omega) n [] L 0 N rfl (by omega) (by omega) (by omega)
        rw [show ((0 : Nat) : Int) = 0 from rfl, List.nil_append] at g1
        rw [i2, g1, Option.bind_some]
        simp only
        have i3 : IntKind.wrap .i64 ((a' : Int) + (bs : Int)) = ((a' + bs : Nat) : Int) := by rw [wrap_i64 (by omega) (by omega)]; omega
        have i4 : IntKind.wrap .i64 ((bs : Int) * 2) = ((2 * bs : Nat) : Int) := by rw [wrap_i64 (by omega) (by omega)]; omega
        have hbk : blk (2 * bs) (2 * n) L = blk (2 * bs) n L := CV n (2 * n) L (by omega) (by omega)
        have ih' := ih (2 * bs) f (by rw [Nat.pow_succ] at ht; rw [Nat.mul_assoc, Nat.mul_left_comm, Nat.mul_comm 2]; exact ht) (by omega) (by omega) (by omega)
        rw [hbk] at ih'
        rw [i3, i4]
        by_cases hm : a' + bs < n
        · rw [aY (by omega), g3 hm, Option.bind_some, List.nil_append, ih', Option.bind_some]
        · rw [aV (by omega), g4 hm, List.nil_append, ih', Option.bind_some]
      · rw [aV (by omega)]
        congr 1
        cases n with
        | zero =>
          have : L = [] := List.eq_nil_of_length_eq_zero hL
          subst this
          rfl
        | succ n =>
          rw [show 2 * (n + 1) = 2 * n + 1 + 1 by omega, eC (by omega)]
theorem J1 {N : Nat} (hN : 100000 < N) (L : List aD) (hn : L.length ≤ 10000) : Ds N (0, L.length, L) = some (aH L) := by
  simp only [Ds, HF, ae]
  obtain ⟨a', P', R, g1, g2, g3, g4⟩ := A7 hN L.length (by omega) (2 * L.length) [] L 0 N rfl (by omega) (by omega) (by omega)
  rw [show ((0 : Nat) : Int) = 0 from rfl, show ((0 + 20 : Nat) : Int) = 20 from rfl, List.nil_append] at g1
  rw [g1, Option.bind_some]
  simp only
  have hs := yt hN P' R [] L.length a' L.length (by omega) (by simp only [List.length_append, List.length_nil]; omega) g2 (by omega)
  rw [List.append_nil, List.append_nil, g4, List.nil_append] at hs
  rw [hs, Option.bind_some]
  have := A6 hN L.length (by omega) L rfl 10 20 N (by omega) (by decide) (by omega) (by omega)
  rw [show ((20 : Nat) : Int) = 20 from rfl] at this
  rw [this, Option.bind_some, Option.bind_some]
end Go.Proofs.YteddgkplkjldcaaGreat.Am
namespace Go.Proofs.YteddgkplkjldcaaGreat.Am
open Go.Am
theorem JM {N : Nat} (k : Nat) (hk : k ≤ 1000000) : (∃ z, JN N (k : Int) = some (.inl z)) ∨ (JN N (k : Int) = some (.inr [])) := by
  simp only [JN, ae]
  have e : IntKind.wrap .i64 ((k : Int) - 0) = (k : Int) := by rw [wrap_i64 (by omega) (by omega)]; omega
  rw [e, aV (by omega)]
  by_cases h : 0 < k
  · rw [aY (by omega), aY (by omega), aY (by omega)]
    exact .inl ⟨_, rfl⟩
  · rw [aV (by omega)]
    exact .inr rfl
theorem NU {N : Nat} (k : Nat) (hk : k ≤ 1000000) : (∃ z, UM N (k : Int) = some (.inl z)) ∨ (UM N (k : Int) = some (.inr [])) := by
  simp only [UM, ae]
  have e : IntKind.wrap .i64 ((k : Int) - 0) = (k : Int) := by rw [wrap_i64 (by omega) (by omega)]; omega
  rw [e, aV (by omega)]
  by_cases h : 0 < k
  · rw [aY (by omega), aY (by omega), aY (by omega)]
    exact .inl ⟨_, rfl⟩
  · rw [aV (by omega)]
    exact .inr rfl
theorem Ot {N : Nat} (hN : 3 < N) (a b : List aD) (h : a.length + b.length ≤ 100000) : Ou N [a, b] = some (a ++ b) := by
  obtain ⟨M, rfl⟩ : ∃ M, N = M + 3 := ⟨N - 3, by omega⟩
  have e1 : IntKind.wrap .i64 ((0 : Int) + (a.length : Int)) = (a.length : Int) := by rw [wrap_i64 (by omega) (by omega)]; omega
  have e2 : IntKind.wrap .i64 ((a.length : Int) + (b.length : Int)) = ((a.length + b.length : Nat) : Int) := by rw [wrap_i64 (by omega) (by omega)]; omega
  have h1 : ie (M + 3) (M + 3) (0, 0, 2, [a, b]) = some (((a.length + b.length : Nat) : Int), [a, b]) := by
    simp only [ie, Bn, ae]
    rw [if_pos (by decide), if_pos (by rfl)]
    simp only [Int.toNat_zero, List.getElem?_cons_zero, Option.bind_some]
    rw [e1, aV (by omega)]
    rw [show IntKind.wrap .i64 ((0 : Int) + 1) = 1 from by decide +kernel]
    rw [if_pos (by decide), if_pos (by rfl)]
    simp only [show Int.toNat 1 = 1 from rfl, List.getElem?_cons_succ, List.getElem?_cons_zero, Option.bind_some]
    rw [e2, aV (by omega)]
    rw [show IntKind.wrap .i64 ((1 : Int) + 1) = 2 from by decide +kernel]
    rw [if_neg (by decide)]
    rfl
  have h2 : fv (M + 3) (M + 3) (0, 2, [], [a, b]) = some (a ++ b) := by
    simp only [fv, wl, ae]
    rw [if_pos (by decide), if_pos (by rfl)]
    simp only [Int.toNat_zero, List.getElem?_cons_zero, Option.bind_some]
    rw [if_pos (by simp only [decide_eq_true_eq, List.length_nil]; omega)]
    rw [show IntKind.wrap .i64 ((0 : Int) + 1) = 1 from by decide +kernel]
    rw [if_pos (by decide), if_pos (by rfl)]
    simp only [show Int.toNat 1 = 1 from rfl, List.getElem?_cons_succ, List.getElem?_cons_zero, Option.bind_some, List.nil_append]
    rw [aY (by omega)]
    rw [show IntKind.wrap .i64 ((1 : Int) + 1) = 2 from by decide +kernel]
    rw [if_neg (by decide)]
    rfl
  simp only [Ou]
  have el : ((([a, b] : List (List aD)).length : Nat) : Int) = 2 := rfl
  rw [el, h1, Option.bind_some]
  simp only
  rcases JM (N := M + 3) (a.length + b.length) (by omega) with ⟨z, hz⟩ | hz
  · rw [hz, Option.bind_some]
    simp only
    rw [el, h2, Option.bind_some]
  · rw [hz, Option.bind_some]
    simp only
    rw [el, h2, Option.bind_some]
theorem Hz {N : Nat} (hN : 3 < N) (a b : List Int) (h : a.length + b.length ≤ 100000) : US N [a, b] = some (a ++ b) := by
  obtain ⟨M, rfl⟩ : ∃ M, N = M + 3 := ⟨N - 3, by omega⟩
  have e1 : IntKind.wrap .i64 ((0 : Int) + (a.length : Int)) = (a.length : Int) := by rw [wrap_i64 (by omega) (by omega)]; omega
  have e2 : IntKind.wrap .i64 ((a.length : Int) + (b.length : Int)) = ((a.length + b.length : Nat) : Int) := by rw [wrap_i64 (by omega) (by omega)]; omega
  have h1 : lE (M + 3) (M + 3) (0, 0, 2, [a, b], [a, b]) = some (((a.length + b.length : Nat) : Int), [a, b]) := by
    simp only [lE, GF, ae]
    rw [if_pos (by decide), if_pos (by rfl)]
    simp only [Int.toNat_zero, List.getElem?_cons_zero, Option.bind_some]
    rw [e1, aV (by omega)]
    rw [show IntKind.wrap .i64 ((0 : Int) + 1) = 1 from by decide +kernel]
    rw [if_pos (by decide), if_pos (by rfl)]
    simp only [show Int.toNat 1 = 1 from rfl, List.getElem?_cons_succ, List.getElem?_cons_zero, Option.bind_some]
    rw [e2, aV (by omega)]
    rw [show IntKind.wrap .i64 ((1 : Int) + 1) = 2 from by decide +kernel]
    rw [if_neg (by decide)]
    rfl
  have h2 : ia (M + 3) (M + 3) (0, 2, [a, b], []) = some (a ++ b) := by
    simp only [ia, Bh, ae]
    rw [if_pos (by decide), if_pos (by rfl)]
    simp only [Int.toNat_zero, List.getElem?_cons_zero, Option.bind_some]
    rw [if_pos (by simp only [decide_eq_true_eq, List.length_nil]; omega)]
    rw [show IntKind.wrap .i64 ((0 : Int) + 1) = 1 from by decide +kernel]
    rw [if_pos (by decide), if_pos (by rfl)]
    simp only [show Int.toNat 1 = 1 from rfl, List.getElem?_cons_succ, List.getElem?_cons_zero, Option.bind_some, List.nil_append]
    rw [aY (by omega)]
    rw [show IntKind.wrap .i64 ((1 : Int) + 1) = 2 from by decide +kernel]
    rw [if_neg (by decide)]
    rfl
  simp only [US]
  have el : ((([a, b] : List (List Int)).length : Nat) : Int) = 2 := rfl
  rw [el, h1, Option.bind_some]
  simp only
  rcases NU (N := M + 3) (a.length + b.length) (by omega) with ⟨z, hz⟩ | hz
  · rw [hz, Option.bind_some]
    simp only
    rw [el, h2, Option.bind_some]
  · rw [hz, Option.bind_some]
    simp only
    rw [el, h2, Option.bind_some]
theorem vG {N : Nat} (hN : 100000 < N) (a b : List aD) (h : a.length + b.length ≤ 10000) : UL N (a, b) = some (aH (a ++ b)) := by
  simp only [UL]
  rw [Ot (by omega) a b (by omega), Option.bind_some, J1 hN (a ++ b) (by rw [List.length_append]; omega), Option.bind_some]
theorem NS {N : Nat} (hN : 3 < N) (L : List aD) (hL : L.length ≤ 10000) (hw : ∀ x ∈ L, 0 ≤ x.1 ∧ x.1 ≤ 1000000000000000) (hs : ∀ x ∈ L, x.2.1.length ≤ 50000) : ∀ (d i f : Nat), L.length ≤ i + 2 * d → 2 * (i / 2) = i → d < f → i ≤ L.length + 1 →
    lB N f ((i : Int), L, ax (L.take i)) = some (ax L) := by
  intro d
  induction d with
  | zero =>
    intro i f hd he hf hi
    cases f with
    | zero => omega
    | succ f =>
      simp only [lB, Bc, ae]
      rw [wrap_i64 (by omega) (by omega), aV (by omega), List.take_of_length_le (by omega)]
  | succ d ih =>
    intro i f hd he hf hi
    cases f with
    | zero => omega
    | succ f =>
      simp only [lB, Bc, ae]
      have i1 : IntKind.wrap .i64 ((i : Int) + 1) = ((i + 1 : Nat) : Int) := by rw [wrap_i64 (by omega) (by omega)]; omega
      have i2 : IntKind.wrap .i64 ((i : Int) + 2) = ((i + 2 : Nat) : Int) := by rw [wrap_i64 (by omega) (by omega)]; omega
      rw [i1]
      by_cases h : i + 1 < L.length
      · have hp := dH (L.take i)
        rw [List.length_take, Nat.min_eq_left (by omega)] at hp
        have g1 : L[i]? = some L[i] := List.getElem?_eq_getElem (by omega)
        have g2 : L[i + 1]? = some L[i + 1] := List.getElem?_eq_getElem h
        obtain ⟨w1, w2⟩ := hw L[i] (List.getElem_mem _)
        obtain ⟨w3, w4⟩ := hw L[i + 1] (List.getElem_mem _)
        have s1 := hs L[i] (List.getElem_mem _)
        have s2 := hs L[i + 1] (List.getElem_mem _)
        rw [aY (by omega)]
        simp only [wi (show i < L.length by omega), wi h, if_true, Int.toNat_natCast, g1, g2, Option.bind_some, i2]
        rw [Hz hN _ _ (by omega), Option.bind_some, wrap_i64 (by omega) (by omega), if_pos (by simp only [decide_eq_true_eq, List.length_singleton]; omega)]
        have et : ax (L.take i) ++ [(L[i].1 + L[i + 1].1, L[i].2.1 ++ L[i + 1].2.1, ())] = ax (L.take (i + 2)) := by
          have e : ∀ (p : Nat) (A : List aD), A.length = 2 * p → ∀ x y : aD, ax (A ++ [x, y]) = ax A ++ [(x.1 + y.1, x.2.1 ++ y.2.1, ())] := by
            intro p
            induction p with
            | zero =>
              intro A hA x y
              have : A = [] := List.eq_nil_of_length_eq_zero (by omega)
              subst this
              rfl
            | succ p ih =>
              intro A hA x y
              match A, hA with
              | a :: b :: A, hA =>
                rw [List.cons_append, List.cons_append, ax, ih A (by simp at hA; omega) x y, ax]
                rfl
          rw [← e (i / 2) (L.take i) (by rw [List.length_take]; omega)]
          congr 1
          have t1 : L.take (i + 1) = L.take i ++ [L[i]] := by rw [List.take_add_one, g1]; rfl
          have t2 : L.take (i + 2) = L.take (i + 1) ++ [L[i + 1]] := by rw [show i + 2 = i + 1 + 1 by omega, List.take_add_one, g2]; rfl
          rw [t2, t1, List.append_assoc]
          rfl
        rw [et, ih (i + 2) f (by omega) (by omega) (by omega) (by omega), Option.bind_some]
      · rw [aV (by omega)]
        congr 1
        by_cases h1 : L.length ≤ i
        · rw [List.take_of_length_le h1]
        · have hi1 : i < L.length := by omega
          have : ax L = (ax L).take (i / 2) := by rw [List.take_of_length_le]; rw [dH]; omega
          rw [this, jy, he]
theorem Jq {N : Nat} (hN : 10000 < N) (L : List aD) (hL : L.length ≤ 10000) (hw : ∀ x ∈ L, 0 ≤ x.1 ∧ x.1 ≤ 1000000000000000) (hs : ∀ x ∈ L, x.2.1.length ≤ 50000) : Xn N L = some (ax L) := by
  simp only [Xn]
  have := NS (N := N) (by omega) L hL hw hs L.length 0 N (by omega) (by omega) (by omega) (by omega)
  rw [List.take_zero, show ((0 : Nat) : Int) = 0 from rfl, show ax [] = [] from rfl] at this
  rw [this, Option.bind_some]
theorem LM {fr : List Int} (h : okF fr = true) {i : Nat} (hi : i < fr.length) : 0 ≤ fr.getD i 0 ∧ fr.getD i 0 ≤ 1073741824 := by
  unfold okF at h
  have := List.all_eq_true.1 h (fr[i]) (List.getElem_mem hi)
  rw [Bool.and_eq_true, decide_eq_true_eq, decide_eq_true_eq] at this
  rw [List.getD, List.getElem?_eq_getElem hi]
  exact this
theorem V8 {a : List Int} {i : Nat} (h : i < a.length) : a[i]? = some (a.getD i 0) := by
  rw [List.getD, List.getElem?_eq_getElem h]; rfl
theorem NT (N : Nat) (fr : List Int) (hl : fr.length ≤ 1000) : ∀ (d i f : Nat), i + d = fr.length → d < f →
    ((∀ j, i ≤ j → j < fr.length → 0 ≤ fr.getD j 0 ∧ fr.getD j 0 ≤ 1073741824) → jO N f ((fr.length : Int), fr, (i : Int), an fr i) = some (.inr (an fr fr.length))) ∧
    ((∃ j, i ≤ j ∧ j < fr.length ∧ ¬ (0 ≤ fr.getD j 0 ∧ fr.getD j 0 ≤ 1073741824)) → jO N f ((fr.length : Int), fr, (i : Int), an fr i) = some (.inl (1, []))) := by
  intro d
  induction d with
  | zero =>
    intro i f hi hf
    cases f with
    | zero => omega
    | succ f =>
      simp only [jO, Bd, ae]
      rw [aV (by omega), show i = fr.length by omega]
      exact ⟨fun _ => rfl, fun ⟨j, h1, h2, _⟩ => by omega⟩
  | succ d ih =>
    intro i f hi hf
    cases f with
    | zero => omega
    | succ f =>
      obtain ⟨ih1, ih2⟩ := ih (i + 1) f (by omega) (by omega)
      have hil : i < fr.length := by omega
      have i1 : IntKind.wrap .i64 ((i : Int) + 1) = ((i + 1 : Nat) : Int) := by rw [wrap_i64 (by omega) (by omega)]; omega
      have hcl := fg fr i
      simp only [jO, Bd, ae]
      rw [aY (by omega)]
      simp only [wi hil, if_true, Int.toNat_natCast, V8 hil, Option.bind_some, i1]
      by_cases h1 : fr.getD i 0 < 0
      · rw [if_pos (by simpa using h1)]
        exact ⟨fun h => by have := h i (Nat.le_refl _) hil; omega, fun _ => rfl⟩
      rw [if_neg (by simpa using h1)]
      by_cases h2 : fr.getD i 0 > 1073741824
      · rw [if_pos (by simpa using h2)]
        exact ⟨fun h => by have := h i (Nat.le_refl _) hil; omega, fun _ => rfl⟩
      rw [if_neg (by simpa using h2)]
      have hex : (∃ j, i ≤ j ∧ j < fr.length ∧ ¬ (0 ≤ fr.getD j 0 ∧ fr.getD j 0 ≤ 1073741824)) → ∃ j, i + 1 ≤ j ∧ j < fr.length ∧ ¬ (0 ≤ fr.getD j 0 ∧ fr.getD j 0 ≤ 1073741824) := by
        rintro ⟨j, q1, q2, q3⟩
        refine ⟨j, ?_, q2, q3⟩
        by_cases e : j = i
        · subst e; omega
        · omega
      by_cases h3 : 0 < fr.getD i 0
      · have e : an fr (i + 1) = an fr i ++ [(fr.getD i 0, [(i : Int)], ())] := by rw [an, if_pos h3]
        rw [if_pos (by simpa using h3), if_pos (by simp only [decide_eq_true_eq, List.length_singleton]; omega), ← e]
        exact ⟨fun h => by rw [ih1 fun j q1 q2 => h j (by omega) q2]; rfl, fun h => by rw [ih2 (hex h)]; rfl⟩
      · have e : an fr (i + 1) = an fr i := by rw [an, if_neg h3]
        rw [if_neg (by simpa using h3), ← e]
        exact ⟨fun h => by rw [ih1 fun j q1 q2 => h j (by omega) q2]; rfl, fun h => by rw [ih2 (hex h)]; rfl⟩
theorem Jr {N : Nat} (hN : 100000 < N) (fr : List Int) (hl : fr.length ≤ 1000) : Xo N fr = some (if okF fr = true then .inr (aH (an fr fr.length), 0) else .inl (1, [])) := by
  simp only [Xo]
  obtain ⟨h1, h2⟩ := NT N fr hl fr.length 0 N (by omega) (by omega)
  rw [show ((0 : Nat) : Int) = 0 from rfl, show an fr 0 = [] from rfl] at h1 h2
  cases ho : okF fr with
  | true =>
    rw [h1 fun j _ hj => LM ho hj, Option.bind_some]
    have hcl := fg fr fr.length
    simp only [if_true]
    rw [vG hN _ _ (by simp; omega), Option.bind_some, List.append_nil]
  | false =>
    have : ∃ j, 0 ≤ j ∧ j < fr.length ∧ ¬ (0 ≤ fr.getD j 0 ∧ fr.getD j 0 ≤ 1073741824) := by
      refine Classical.byContradiction fun hn => ?_
      have : okF fr = true := by
        unfold okF
        rw [List.all_eq_true]
        intro x hx
        obtain ⟨j, hj, e⟩ := List.getElem_of_mem hx
        have hg : fr.getD j 0 = x := by rw [List.getD, List.getElem?_eq_getElem hj, ← e]; rfl
        rw [Bool.and_eq_true, decide_eq_true_eq, decide_eq_true_eq]
        refine Classical.byContradiction fun hh => hn ⟨j, Nat.zero_le _, hj, ?_⟩
        rw [hg]; exact hh
      rw [ho] at this; cases this
    rw [h2 this, Option.bind_some]
    rfl
theorem wD {l : List aD} {w : Nat} (h : ∀ x ∈ l, x.2.1.length ≤ w) : ∀ z ∈ ax l, z.2.1.length ≤ 2 * w := by
  intro z hz
  have key : ∀ (l : List aD), (∀ x ∈ l, x.2.1.length ≤ w) → z ∈ ax l → z.2.1.length ≤ 2 * w := by
    intro l
    induction l using ax.induct with
    | case1 x y l ih =>
      intro h hz
      rw [ax] at hz
      rcases List.mem_cons.1 hz with rfl | hz
      · have h1 := h x (by simp)
        have h2 := h y (by simp)
        simp only [List.length_append]
        omega
      · exact ih (fun a ha => h a (by simp [ha])) hz
    | case2 l hl =>
      intro h hz
      match l, hl with
      | [], _ => cases hz
      | [x], _ => cases hz
      | x :: y :: l, hl => exact absurd rfl (hl x y l)
  exact key l h hz
theorem jq {l : List aD} (h : ∀ x ∈ l, x.2.1.length ≤ 1) : ∀ k, ∀ x ∈ aP l k, x.2.1.length ≤ 2 ^ k
  | 0 => h
  | k + 1 => fun x hx => by
    rcases List.mem_append.1 ((cZ _ _).mem_iff.1 hx) with hx | hx
    · have := h x hx
      have hp : 1 ≤ 2 ^ (k + 1) := Nat.one_le_two_pow
      omega
    · have := wD (jq h k) x hx
      rw [Nat.pow_succ]; omega
theorem NZ {N : Nat} (hN : 100000 < N) {l : List aD} (hs : ll l) (hl : l.length ≤ 320) (hw : ∀ x ∈ l, 0 ≤ x.1 ∧ x.1 ≤ 1073741824) (h1 : ∀ x ∈ l, x.2.1.length ≤ 1) (out : List Int) (m : Nat) (hm : m ≤ 14) : ∀ (d k f : Nat), k + d = m → d < f →
    bU N f (aP l k, (k : Int), (m : Int), l, out) = some (aP l m, l, out) := by
  intro d
  induction d with
  | zero =>
    intro k f hk hf
    cases f with
    | zero => omega
    | succ f =>
      simp only [bU, po, ae]
      rw [aV (by omega), show k = m by omega]
  | succ d ih =>
    intro k f hk hf
    cases f with
    | zero => omega
    | succ f =>
      have i1 : IntKind.wrap .i64 ((k : Int) + 1) = ((k + 1 : Nat) : Int) := by rw [wrap_i64 (by omega) (by omega)]; omega
      have hlen := q7 l k
      have hp : (2 : Nat) ^ k ≤ 2 ^ 14 := Nat.pow_le_pow_right (by decide) (by omega)
      have hp2 : (2 : Int) ^ k ≤ 16384 := by
        have : ((2 ^ k : Nat) : Int) ≤ ((2 ^ 14 : Nat) : Int) := Int.ofNat_le.2 hp
        simpa using this
      simp only [bU, po, ae]
      rw [aY (by omega), Jq (by omega) _ (by omega) (fun x hx => by
        have := ta hw k x hx
        have h3 : (1073741824 : Int) * 2 ^ k ≤ 1073741824 * 16384 := Int.mul_le_mul_of_nonneg_left hp2 (by decide)
        omega) (fun x hx => by
        have := jq h1 k x hx
        omega), Option.bind_some, vG hN _ _ (by rw [dH]; omega), Option.bind_some, IK hs, i1, ih (k + 1) f (by omega) (by omega), Option.bind_some]
theorem Jw (N n : Nat) (x2 : List aD) (x3 x4 : Int) (C : List Int) (hC : C.length ≤ 50000) (hC2 : ∀ s ∈ C, ∃ j : Nat, j < n ∧ s = (j : Int)) (S0 : List Int) (hS : S0.length + C.length ≤ 1000000) : ∀ (d i f : Nat), i + d = C.length → d < f →
    bV N f ((i : Int), (C.length : Int), x2, x3, x4, C, fh n (S0 ++ C.take i)) = some (x4, x3, x2, fh n (S0 ++ C)) := by
  intro d
  induction d with
  | zero =>
    intro i f hi hf
    cases f with
    | zero => omega
    | succ f =>
      simp only [bV, ik, ae]
      rw [aV (by omega), List.take_of_length_le (by omega)]
  | succ d ih =>
    intro i f hi hf
    cases f with
    | zero => omega
    | succ f =>
      have hil : i < C.length := by omega
      have i1 : IntKind.wrap .i64 ((i : Int) + 1) = ((i + 1 : Nat) : Int) := by rw [wrap_i64 (by omega) (by omega)]; omega
      have hg : C[i]? = some C[i] := List.getElem?_eq_getElem hil
      obtain ⟨j, hj, ej⟩ := hC2 C[i] (List.getElem_mem hil)
      have hcl := dV n (S0 ++ C.take i)
      have hcnt : (S0 ++ C.take i).count (j : Int) ≤ 1000000 := Nat.le_trans List.count_le_length (by rw [List.length_append, List.length_take]; omega)
      have ih' := ih (i + 1) f (by omega) (by omega)
      have et : S0 ++ C.take (i + 1) = (S0 ++ C.take i) ++ [(j : Int)] := by rw [List.take_add_one, hg, ← ej]; simp
      rw [et] at ih'
      simp only [bV, ik, ae]
      rw [aY (by omega)]
      simp only [wi hil, if_true, Int.toNat_natCast, hg, Option.bind_some, i1, ej, hcl, wi hj, iX n _ hj]
      rw [wrap_i64 (by omega) (by omega), qc n _ hj, ih', Option.bind_some]
theorem Jv {N : Nat} (hN : 100000 < N) (n : Nat) (T : List aD) (hT : T.length ≤ 1000) (hs : ∀ x ∈ T, x.2.1.length ≤ 50000 ∧ ∀ s ∈ x.2.1, ∃ j : Nat, j < n ∧ s = (j : Int)) (htot : (bf T).length ≤ 900000) : ∀ (d i f : Nat), i + d = T.length → d < f →
    dc N f ((T.length : Int), T, (i : Int), fh n (bf (T.take i))) = some (fh n (bf T)) := by
  intro d
  induction d with
  | zero =>
    intro i f hi hf
    cases f with
    | zero => omega
    | succ f =>
      simp only [dc, pn, ae]
      rw [aV (by omega), List.take_of_length_le (by omega)]
  | succ d ih =>
    intro i f hi hf
    cases f with
    | zero => omega
    | succ f =>
      have hil : i < T.length := by omega
      have i1 : IntKind.wrap .i64 ((i : Int) + 1) = ((i + 1 : Nat) : Int) := by rw [wrap_i64 (by omega) (by omega)]; omega
      have hg : T[i]? = some T[i] := List.getElem?_eq_getElem hil
      obtain ⟨s1, s2⟩ := hs T[i] (List.getElem_mem hil)
      have hsplit : bf T = bf (T.take i) ++ bf (T.drop i) := by rw [← gT, List.take_append_drop]
      have hle : (bf (T.take i)).length ≤ 900000 := by
        have := congrArg List.length hsplit
        rw [List.length_append] at this
        omega
      have hin := Jw N n T (T.length : Int) (i : Int) T[i].2.1 s1 s2 (bf (T.take i)) (by omega) T[i].2.1.length 0 N (by omega) (by omega)
      rw [List.take_zero, List.append_nil, show ((0 : Nat) : Int) = 0 from rfl] at hin
      have et : bf (T.take i) ++ T[i].2.1 = bf (T.take (i + 1)) := by
        rw [List.take_add_one, hg, gT]
        simp [bf]
      rw [et] at hin
      simp only [dc, pn, ae]
      rw [aY (by omega)]
      simp only [wi hil, if_true, Int.toNat_natCast, hg, Option.bind_some]
      rw [hin, Option.bind_some]
      simp only
      rw [i1, ih (i + 1) f (by omega) (by omega), Option.bind_some]
end Go.Proofs.YteddgkplkjldcaaGreat.Am
namespace Go.Proofs.YteddgkplkjldcaaGreat.Am
open Go.Am
theorem og {l : List aD} {Q : Int → Prop} (h : ∀ x ∈ l, ∀ s ∈ x.2.1, Q s) : ∀ k, ∀ x ∈ aP l k, ∀ s ∈ x.2.1, Q s
  | 0 => h
  | k + 1 => fun x hx => by
    rcases List.mem_append.1 ((cZ _ _).mem_iff.1 hx) with hx | hx
    · exact h x hx
    · have key : ∀ (l : List aD), (∀ x ∈ l, ∀ s ∈ x.2.1, Q s) → x ∈ ax l → ∀ s ∈ x.2.1, Q s := by
        intro l
        induction l using ax.induct with
        | case1 a b l ih =>
          intro h hz
          rw [ax] at hz
          rcases List.mem_cons.1 hz with rfl | hz
          · intro s hs
            rcases List.mem_append.1 hs with hs | hs
            · exact h a (by simp) s hs
            · exact h b (by simp) s hs
          · exact ih (fun y hy => h y (by simp [hy])) hz
        | case2 l hl =>
          intro h hz
          match l, hl with
          | [], _ => cases hz
          | [a], _ => cases hz
          | a :: b :: l, hl => exact absurd rfl (hl a b l)
      exact key _ (og h k) hx
theorem Cy {l : List aD} (h1 : ∀ x ∈ l, ∃ s, x.2.1 = [s]) : ∀ lv : List Nat, (lv.flatMap fun c => bf (l.take c)).length ≤ lv.length * l.length
  | [] => by simp
  | c :: lv => by
    have ih := Cy h1 lv
    obtain ⟨e1, e2⟩ := dE h1
    rw [List.flatMap_cons, List.length_append, e2 c, List.length_take, e1, List.length_cons, Nat.succ_mul]
    omega
theorem Rb (k : Nat) : ((2 ^ k : Nat) : Int) = (2 : Int) ^ k := by simp
theorem vM (fr : List Int) (most : Int) : UR 200000 (fr, most) = some (kP fr most) := by
  unfold kP
  simp only [UR, ae]
  by_cases h1 : 320 < fr.length
  · rw [aY (by omega), if_pos (.inl h1)]
  rw [aV (by omega)]
  by_cases h2 : most < 1
  · rw [if_pos (by simpa using h2), if_pos (.inr (.inl h2))]
  rw [if_neg (by simpa using h2)]
  by_cases h3 : 15 < most
  · rw [if_pos (by simpa using h3), if_pos (.inr (.inr (.inl h3)))]
  rw [if_neg (by simpa using h3), Jr (by decide) fr (by omega), Option.bind_some]
  cases ho : okF fr with
  | false =>
    simp only [Bool.false_eq_true, if_false]
    rw [if_pos (show ((1 : Int) != 0) = true by decide), if_pos (.inr (.inr (.inr trivial)))]
  | true =>
    simp only [if_true]
    rw [if_neg (show ¬ (320 < fr.length ∨ most < 1 ∨ 15 < most ∨ true = false) by simp; omega)]
    have hco := oP fr
    have hp := ez (an fr fr.length)
    have hlen := aT (an fr fr.length)
    have hcl := fg fr fr.length
    have hin : ∀ x ∈ aH (an fr fr.length), (0 ≤ x.1 ∧ x.1 ≤ 1073741824) ∧ ∃ j : Nat, j < fr.length ∧ x.2.1 = [(j : Int)] := fun x hx => by
      obtain ⟨j, j1, j2, e⟩ := ff fr _ x (hp.mem_iff.1 hx)
      have := LM ho j1
      rw [e]
      exact ⟨this, j, j1, rfl⟩
    rw [← hlen]
    generalize aH (an fr fr.length) = l at *
    obtain ⟨m, hm⟩ : ∃ m : Nat, most = (m : Int) := ⟨most.toNat, by omega⟩
    subst hm
    have hm15 : m ≤ 15 := by omega
    have hp15 : 2 ^ m ≤ 2 ^ 15 := Nat.pow_le_pow_right (by decide) hm15
    have ew : IntKind.wrap .i64 ((1 : Int) * 2 ^ min (Int.toNat (m : Int)) 64) = ((2 ^ m : Nat) : Int) := by
      rw [Int.toNat_natCast, Nat.min_eq_left (by omega), Int.one_mul, ← Rb]
      generalize 2 ^ m = q at *
      exact wrap_i64 (by omega) (by omega)
    have hpw : ∃ q, q = 2 ^ m := ⟨_, rfl⟩
    obtain ⟨q, hq⟩ := hpw
    rw [← hq] at ew hp15
    rw [if_neg (show ¬ ((0 : Int) != 0) = true by decide), if_neg (show ¬ decide ((m : Int) < 0) = true by simp only [decide_eq_true_eq]; omega), ew]
    simp only [Int.toNat_natCast]
    rw [← hq]
    by_cases h4 : q < l.length
    · rw [aY (by omega), if_pos h4]
    rw [aV (by omega), if_neg h4, aY (by omega)]
    by_cases h5 : l.length = 1
    · obtain ⟨x, rfl⟩ := List.length_eq_one_iff.1 h5
      obtain ⟨_, j, hj, ex⟩ := hin x (List.mem_singleton_self _)
      rw [if_pos (by simp), if_pos (by rfl), List.getElem?_cons_zero, Option.bind_some, ex, if_pos (by rfl), List.getElem?_cons_zero, Option.bind_some, List.length_replicate, if_pos (wi hj), Int.toNat_natCast, List.getElem?_replicate, if_pos hj, Option.bind_some, if_pos (by simp)]
      have hc := qc fr.length [] hj
      rw [oR] at hc
      have e : bN [x] m = [(j : Int)] := by
        unfold bN
        rw [if_pos h5]
        simp [bf, ex]
      rw [e]
      exact congrArg (fun z => some ((0 : Int), z)) hc
    · rw [if_neg (by simp only [beq_iff_eq]; omega)]
      by_cases h6 : l.length < 2
      · rw [aY (by omega)]
        unfold bN
        rw [if_neg h5, if_pos h6, oR]
      · rw [aV (by omega)]
        obtain ⟨K, rfl⟩ : ∃ K, m = K + 1 := ⟨m - 1, by omega⟩
        have i1 : IntKind.wrap .i64 (((K + 1 : Nat) : Int) - 1) = (K : Int) := by rw [wrap_i64 (by omega) (by omega)]; omega
        have h1' : ∀ x ∈ l, x.2.1.length ≤ 1 := fun x hx => by
          obtain ⟨_, j, _, e⟩ := hin x hx
          rw [e]; exact Nat.le_refl _
        have hr := NZ (N := 200000) (by decide) hco.srt (by omega) (fun x hx => (hin x hx).1) h1' (List.replicate fr.length 0) K (by omega) K 0 200000 (by omega) (by omega)
        have hr' : bU 200000 200000 (l, 0, (K : Int), l, List.replicate fr.length 0) = some (aP l K, l, List.replicate fr.length 0) := hr
        have hen := eZ l (k := K) (by omega)
        have i2 : IntKind.wrap .i64 (IntKind.wrap .i64 ((2 : Int) * (l.length : Int)) - 2) = ((2 * l.length - 2 : Nat) : Int) := by
          rw [wrap_i64 (z := (2 : Int) * (l.length : Int)) (by omega) (by omega), wrap_i64 (by omega) (by omega)]; omega
        rw [i1, hr', Option.bind_some]
        simp only
        rw [i2, aY (by omega), Int.toNat_natCast, Nat.sub_zero, List.drop_zero]
        have hall : ∀ x ∈ aP l K, ∀ s ∈ x.2.1, ∃ j : Nat, j < fr.length ∧ s = (j : Int) := og (Q := fun s => ∃ j : Nat, j < fr.length ∧ s = (j : Int)) (fun x hx s hs => by
          obtain ⟨_, j, hj, e⟩ := hin x hx
          rw [e] at hs
          exact ⟨j, hj, List.mem_singleton.1 hs⟩) K
        have hp14 : (2 : Nat) ^ K ≤ 2 ^ 14 := Nat.pow_le_pow_right (by decide) (by omega)
        have htot : (bf ((aP l K).take (2 * l.length - 2))).length ≤ 900000 := by
          have hs := (sU (l := l) K (2 * l.length - 2) hen).1.length_eq
          have hf := Cy hco.one (n0 l K (2 * l.length - 2))
          rw [nY] at hf
          have : (K + 1) * l.length ≤ 15 * 320 := Nat.mul_le_mul (by omega) (by omega)
          omega
        have ho := Jv (N := 200000) (by decide) fr.length ((aP l K).take (2 * l.length - 2)) (by rw [List.length_take]; omega) (fun x hx => ⟨by
          have := jq h1' K x (List.mem_of_mem_take hx)
          omega, hall x (List.mem_of_mem_take hx)⟩) htot ((aP l K).take (2 * l.length - 2)).length 0 200000 (by omega) (by rw [List.length_take]; omega)
        rw [List.take_zero, show bf [] = [] from rfl, oR, show ((0 : Nat) : Int) = 0 from rfl] at ho
        rw [ho, Option.bind_some]
        unfold bN
        rw [if_neg h5, if_neg h6, Nat.add_sub_cancel]
end Go.Proofs.YteddgkplkjldcaaGreat.Am
namespace Go.Proofs.YteddgkplkjldcaaGreat.Am
open Go.Am
theorem By (g : Nat → Nat) : ∀ L : List Nat, ko (L.map fun (i : Nat) => ((g i : Nat) : Int)) = (((L.map fun i => OM (g i)).sum : Nat) : Int)
  | [] => rfl
  | x :: L => by
    rw [List.map_cons, ko, By g L, List.map_cons, List.sum_cons, Int.natCast_add]
    congr 1
    unfold OM
    by_cases h : 0 < g x
    · rw [if_pos (by omega), if_pos h, show (15 - ((g x : Nat) : Int)).toNat = 15 - g x by omega, Rb]
    · rw [if_neg (by omega), if_neg h]; rfl
theorem MQ {fr : List Int} (hl : fr.length ≤ 320) {m : Nat} (hm : 1 ≤ m) (hm2 : m ≤ 15) (hn : (aH (an fr fr.length)).length ≤ 2 ^ m) :
    chk (fh fr.length (bN (aH (an fr fr.length)) m)) = (if 2 ≤ (aH (an fr fr.length)).length then 0 else if (aH (an fr fr.length)).length = 1 then 16384 else 32768, 0) := by
  obtain ⟨p1, p2, p3⟩ := tr (oP fr) hm hm2 hn
  have hb : okB (fh fr.length (bN (aH (an fr fr.length)) m)) = true := by
    unfold okB
    rw [List.all_eq_true]
    intro x hx
    obtain ⟨i, _, rfl⟩ := List.mem_map.1 hx
    rw [Bool.and_eq_true, decide_eq_true_eq, decide_eq_true_eq]
    by_cases h : ((i : Int) ∈ bf (aH (an fr fr.length)))
    · have := p1 _ h; omega
    · rw [p2 _ h]; omega
  have hr := IL hm hm2 hn
  have ht := rY (fh fr.length (bN (aH (an fr fr.length)) m)) 15 (Nat.le_refl _)
  rw [jk _ hb] at ht
  have htk : ko (fh fr.length (bN (aH (an fr fr.length)) m)) = _ := By (fun i => (bN (aH (an fr fr.length)) m).count (i : Int)) (List.range fr.length)
  rw [htk, hr] at ht
  have hok : xN (fh fr.length (bN (aH (an fr fr.length)) m)) = true := by
    unfold xN
    rw [hb, dV, decide_eq_true hl]
    rfl
  have e0 : lf (fh fr.length (bN (aH (an fr fr.length)) m)) 15 * 2 ^ (15 - 15) = lf (fh fr.length (bN (aH (an fr fr.length)) m)) 15 := by simp
  rw [e0] at ht
  unfold chk
  rw [hok]
  generalize (aH (an fr fr.length)).length = n at *
  by_cases h2 : 2 ≤ n
  · rw [if_pos h2] at ht ⊢
    rw [ht, if_pos ⟨rfl, by decide⟩]
    rfl
  · rw [if_neg h2] at ht ⊢
    by_cases h1 : n = 1
    · rw [if_pos h1] at ht ⊢
      rw [ht, if_pos ⟨rfl, by decide⟩]
      rfl
    · rw [if_neg h1] at ht ⊢
      rw [ht, if_pos ⟨rfl, by decide⟩]
      rfl
end Go.Proofs.YteddgkplkjldcaaGreat.Am
namespace Go.Proofs.YteddgkplkjldcaaGreat.Am
open Go.Am
abbrev uq := Int × (Int × (Int × Unit))
def oe (L : List Int) (i most : Nat) : Nat → Nat → Nat
  | 0, n => n
  | d + 1, n => if n < most ∧ i + n < L.length ∧ L.getD (i + n) 0 = L.getD i 0 then oe L i most d (n + 1) else n
theorem Em (L : List Int) (i most : Nat) : ∀ (d n : Nat), n ≤ most → i + n ≤ L.length → (∀ k, k < n → L.getD (i + k) 0 = L.getD i 0) →
    n ≤ oe L i most d n ∧ oe L i most d n ≤ most ∧ i + oe L i most d n ≤ L.length ∧ ∀ k, k < oe L i most d n → L.getD (i + k) 0 = L.getD i 0 := by
  intro d
  induction d with
  | zero => intro n h1 h2 h3; exact ⟨Nat.le_refl _, h1, h2, h3⟩
  | succ d ih =>
    intro n h1 h2 h3
    unfold oe
    by_cases h : n < most ∧ i + n < L.length ∧ L.getD (i + n) 0 = L.getD i 0
    · rw [if_pos h]
      obtain ⟨a, b, c, e⟩ := ih (n + 1) (by omega) (by omega) fun k hk => by
        by_cases hkn : k < n
        · exact h3 k hkn
        · rw [show k = n by omega]; exact h.2.2
      exact ⟨by omega, b, c, e⟩
    · rw [if_neg h]
      exact ⟨Nat.le_refl _, h1, h2, h3⟩
def runN (L : List Int) (i : Nat) : Nat := oe L i 138 138 1
theorem xA {L : List Int} {i : Nat} (hi : i < L.length) : 1 ≤ runN L i ∧ runN L i ≤ 138 ∧ i + runN L i ≤ L.length ∧ ∀ k, k < runN L i → L.getD (i + k) 0 = L.getD i 0 :=
  Em L i 138 138 1 (by omega) (by omega) fun k hk => by rw [show k = 0 by omega]; rfl
def nb (L : List Int) (i : Nat) : uq × Nat :=
  if L.getD i 0 = 0 ∧ 10 < runN L i then ((18, 7, ((runN L i : Nat) : Int) - 11, ()), runN L i)
  else if L.getD i 0 = 0 ∧ 2 < runN L i then ((17, 3, ((runN L i : Nat) : Int) - 3, ()), runN L i)
  else if (0 < i ∧ L.getD i 0 = L.getD (i - 1) 0) ∧ 2 < runN L i then ((16, 2, ((min 6 (runN L i) : Nat) : Int) - 3, ()), min 6 (runN L i))
  else ((L.getD i 0, 0, 0, ()), 1)
theorem iD {L : List Int} {v : Int} {i : Nat} : ∀ (c : Nat), i + c ≤ L.length → (∀ k, k < c → L.getD (i + k) 0 = v) → L.take (i + c) = L.take i ++ List.replicate c v := by
  intro c
  induction c with
  | zero => intro _ _; simp
  | succ c ih =>
    intro h1 h2
    have hlt : i + c < L.length := by omega
    have e := h2 c (by omega)
    rw [List.getD, List.getElem?_eq_getElem hlt, Option.getD_some] at e
    rw [← Nat.add_assoc, List.take_add_one, ih (by omega) fun k hk => h2 k (by omega), List.getElem?_eq_getElem hlt, e, List.replicate_succ', List.append_assoc]
    rfl
inductive Means (L : List Int) (i : Nat) : uq → Nat → Prop
  | zeros (c : Nat) (h1 : 11 ≤ c) (h2 : c ≤ 138) (h3 : L.take (i + c) = L.take i ++ List.replicate c 0) : Means L i (18, 7, ((c : Nat) : Int) - 11, ()) c
  | few (c : Nat) (h1 : 3 ≤ c) (h2 : c ≤ 10) (h3 : L.take (i + c) = L.take i ++ List.replicate c 0) : Means L i (17, 3, ((c : Nat) : Int) - 3, ()) c
  | again (c : Nat) (h0 : 0 < i) (h1 : 3 ≤ c) (h2 : c ≤ 6) (h3 : L.take (i + c) = L.take i ++ List.replicate c (L.getD (i - 1) 0)) : Means L i (16, 2, ((c : Nat) : Int) - 3, ()) c
  | one (h3 : L.take (i + 1) = L.take i ++ [L.getD i 0]) : Means L i (L.getD i 0, 0, 0, ()) 1
theorem tp {L : List Int} {i : Nat} (hi : i < L.length) : Means L i (nb L i).1 (nb L i).2 ∧ 1 ≤ (nb L i).2 ∧ i + (nb L i).2 ≤ L.length := by
  obtain ⟨r1, r2, r3, r4⟩ := xA hi
  unfold nb
  by_cases h1 : L.getD i 0 = 0 ∧ 10 < runN L i
  · rw [if_pos h1]
    exact ⟨.zeros _ (by omega) r2 (iD _ r3 fun k hk => by rw [r4 k hk, h1.1]), by show 1 ≤ runN L i; omega, r3⟩
  · rw [if_neg h1]
    by_cases h2 : L.getD i 0 = 0 ∧ 2 < runN L i
    · rw [if_pos h2]
      exact ⟨.few _ (by omega) (by omega) (iD _ r3 fun k hk => by rw [r4 k hk, h2.1]), by show 1 ≤ runN L i; omega, r3⟩
    · rw [if_neg h2]
      by_cases h3 : (0 < i ∧ L.getD i 0 = L.getD (i - 1) 0) ∧ 2 < runN L i
      · rw [if_pos h3]
        refine ⟨.again _ h3.1.1 (by omega) (by omega) (iD _ (by omega) fun k hk => by rw [r4 k (by omega), h3.1.2]), by show 1 ≤ min 6 (runN L i); omega, by show i + min 6 (runN L i) ≤ L.length; omega⟩
      · rw [if_neg h3]
        exact ⟨.one (iD 1 (by omega) fun k hk => by rw [show k = 0 by omega]; rfl), Nat.le_refl _, by show i + 1 ≤ L.length; omega⟩
def cW (L : List Int) : Nat → Nat → List uq
  | 0, _ => []
  | d + 1, i => if i < L.length then (nb L i).1 :: cW L d (i + (nb L i).2) else []
theorem xJ (L : List Int) : ∀ d i, (cW L d i).length ≤ d
  | 0, _ => Nat.le_refl _
  | d + 1, i => by
    unfold cW
    split
    · rw [List.length_cons]; have := xJ L d (i + (nb L i).2); omega
    · exact Nat.zero_le _
theorem yY {L : List Int} (h : okB L = true) {i : Nat} (hi : i < L.length) : 0 ≤ L.getD i 0 ∧ L.getD i 0 ≤ 15 := by
  have := kJ h hi
  rwa [List.getD, List.getElem?_eq_getElem hi, Option.getD_some]
def xr (s : uq) : Prop := 0 ≤ s.1 ∧ s.1 < 19 ∧ 0 ≤ s.2.1 ∧ s.2.1 ≤ 7 ∧ 0 ≤ s.2.2.1 ∧ s.2.2.1 < 2 ^ s.2.1.toNat
theorem Cj {L : List Int} (h : okB L = true) {i : Nat} (hi : i < L.length) {s : uq} {c : Nat} (hm : Means L i s c) : xr s := by
  cases hm with
  | zeros c h1 h2 h3 => exact ⟨(by decide : (0 : Int) ≤ 18), (by decide : (18 : Int) < 19), (by decide : (0 : Int) ≤ 7), (by decide : (7 : Int) ≤ 7), by show (0 : Int) ≤ (c : Int) - 11; omega, by show (c : Int) - 11 < 2 ^ 7; omega⟩
  | few c h1 h2 h3 => exact ⟨(by decide : (0 : Int) ≤ 17), (by decide : (17 : Int) < 19), (by decide : (0 : Int) ≤ 3), (by decide : (3 : Int) ≤ 7), by show (0 : Int) ≤ (c : Int) - 3; omega, by show (c : Int) - 3 < 2 ^ 3; omega⟩
  | again c h0 h1 h2 h3 => exact ⟨(by decide : (0 : Int) ≤ 16), (by decide : (16 : Int) < 19), (by decide : (0 : Int) ≤ 2), (by decide : (2 : Int) ≤ 7), by show (0 : Int) ≤ (c : Int) - 3; omega, by show (c : Int) - 3 < 2 ^ 2; omega⟩
  | one h3 =>
    obtain ⟨a, b⟩ := yY h hi
    exact ⟨a, by show L.getD i 0 < 19; omega, (by decide : (0 : Int) ≤ 0), (by decide : (0 : Int) ≤ 7), (by decide : (0 : Int) ≤ 0), (by decide : (0 : Int) < 2 ^ (0 : Int).toNat)⟩
theorem Ce {L : List Int} (h : okB L = true) : ∀ d i, ∀ s ∈ cW L d i, xr s
  | 0, _, s, hs => by cases hs
  | d + 1, i, s, hs => by
    unfold cW at hs
    split at hs
    · rename_i hi
      rcases List.mem_cons.1 hs with rfl | hs
      · exact Cj h hi (tp hi).1
      · exact Ce h d _ s hs
    · cases hs
end Go.Proofs.YteddgkplkjldcaaGreat.Am
namespace Go.Proofs.YteddgkplkjldcaaGreat.Am
open Go.Am
theorem ay {i n : Nat} (h : i < n) : within (i : Int) n = true := by unfold within; simp only [decide_eq_true_eq]; omega
theorem bv {L : List Int} {i : Nat} (h : i < L.length) : L[i]? = some (L.getD i 0) := by rw [List.getD, List.getElem?_eq_getElem h]; rfl
theorem NV (N : Nat) (L : List Int) (hL : L.length ≤ 1000) {i : Nat} (hi : i < L.length) : ∀ (d n f : Nat), n ≤ 138 → d + n = 139 → d < f → nJ N f ((n : Int), 138, L, (i : Int)) = some ((oe L i 138 d n : Nat) : Int) := by
  intro d
  induction d with
  | zero => intro n f h1 h2 hf; omega
  | succ d ih =>
    intro n f h1 h2 hf
    cases f with
    | zero => omega
    | succ f =>
      have w1 : IntKind.wrap .i64 ((i : Int) + (n : Int)) = ((i + n : Nat) : Int) := by rw [wrap_i64 (by omega) (by omega)]; omega
      have w2 : IntKind.wrap .i64 ((n : Int) + 1) = ((n + 1 : Nat) : Int) := by rw [wrap_i64 (by omega) (by omega)]; omega
      simp only [nJ, GD, ae]
      unfold oe
      by_cases hn : n < 138
      · rw [aY (by omega), w1]
        by_cases hin : i + n < L.length
        · rw [aY (by omega), if_pos (ay hin), Int.toNat_natCast, bv hin, Option.bind_some, if_pos (ay hi), Int.toNat_natCast, bv hi, Option.bind_some]
          by_cases he : L.getD (i + n) 0 = L.getD i 0
          · rw [if_pos (by rw [he]; exact beq_self_eq_true _), if_pos ⟨hn, hin, he⟩, w2, ih (n + 1) f (by omega) (by omega) (by omega)]
            rfl
          · rw [if_neg (by simpa using he), if_neg (fun h => he h.2.2)]
        · rw [aV (by omega), if_neg (fun h => hin h.2.1)]
      · rw [aV (by omega), if_neg (fun h => hn h.1)]
theorem QH {N : Nat} (hN : 200 ≤ N) (L : List Int) (hL : L.length ≤ 1000) {i : Nat} (hi : i < L.length) : Xp N (L, (i : Int), 138) = some ((runN L i : Nat) : Int) := by
  simp only [Xp]
  have := NV N L hL hi 138 1 N (by omega) (by omega) (by omega)
  rw [show ((1 : Nat) : Int) = 1 from rfl] at this
  rw [this, Option.bind_some]
  rfl
theorem MW {α : Type} {P : List α} {x : α} (h : P.length ≤ 1000) (k : Nat) (hk : k ≤ 100) : decide ((P.length + [x].length) * k ≤ 140737488355328 ∧ P.length + [x].length ≤ 140737488355328) = true := by
  rw [decide_eq_true_eq, List.length_singleton]
  have : (P.length + 1) * k ≤ 1001 * 100 := Nat.mul_le_mul (by omega) hk
  omega
theorem RG {N : Nat} (L : List Int) (hL : L.length ≤ 1000) {i n : Nat} (hi : i < L.length) (hn : n ≤ 138) (b : Bool) (P : List uq) (hP : P.length ≤ 1000) :
    dl N (b, (i : Int), (n : Int), L, P) = some (if b = true then ((i : Int), (n : Int), L, P ++ [(17, 3, (n : Int) - 3, ())]) else
      if (0 < i ∧ L.getD i 0 = L.getD (i - 1) 0) ∧ 2 < n then ((i : Int), ((min 6 n : Nat) : Int), L, P ++ [(16, 2, ((min 6 n : Nat) : Int) - 3, ())]) else ((i : Int), 1, L, P ++ [(L.getD i 0, 0, 0, ())])) := by
  have w3 : IntKind.wrap .i64 ((n : Int) - 3) = (n : Int) - 3 := wrap_i64 (by omega) (by omega)
  have hmin : (if (6 : Int) < (n : Int) then (6 : Int) else (n : Int)) = ((min 6 n : Nat) : Int) := by split <;> omega
  have w4 : IntKind.wrap .i64 (((min 6 n : Nat) : Int) - 3) = ((min 6 n : Nat) : Int) - 3 := wrap_i64 (by omega) (by omega)
  have hw := ay hi
  simp only [dl, ae, hmin, w3, w4, hw, if_true, Int.toNat_natCast, bv hi, Option.bind_some, MW hP 24 (by decide)]
  cases b with
  | true => rfl
  | false =>
    simp only [Bool.false_eq_true, if_false]
    by_cases h0 : 0 < i
    · have w5 : IntKind.wrap .i64 ((i : Int) - 1) = ((i - 1 : Nat) : Int) := by rw [wrap_i64 (by omega) (by omega)]; omega
      have hw1 := ay (show i - 1 < L.length by omega)
      rw [aY (by omega), w5]
      simp only [hw1, if_true, Int.toNat_natCast, bv (show i - 1 < L.length by omega), Option.bind_some]
      by_cases he : L.getD i 0 = L.getD (i - 1) 0
      · rw [if_pos (by rw [he]; exact beq_self_eq_true _)]
        by_cases h2 : 2 < n
        · rw [aY (by omega), if_pos ⟨⟨h0, he⟩, h2⟩]
        · rw [aV (by omega), if_neg (fun h => h2 h.2)]
      · rw [if_neg (by simpa using he), if_neg (fun h => he h.1.2)]
    · rw [aV (by omega), if_neg (fun h => h0 h.1.1)]
theorem Xs {N : Nat} (L : List Int) (hL : L.length ≤ 1000) {i n : Nat} (hi : i < L.length) (hn : n ≤ 138) (b : Bool) (P : List uq) (hP : P.length ≤ 1000) :
    d6 N (b, (i : Int), (n : Int), L, P) = some (if b = true then ((i : Int), (n : Int), L, P ++ [(18, 7, (n : Int) - 11, ())]) else
      if L.getD i 0 = 0 ∧ 2 < n then ((i : Int), (n : Int), L, P ++ [(17, 3, (n : Int) - 3, ())]) else
      if (0 < i ∧ L.getD i 0 = L.getD (i - 1) 0) ∧ 2 < n then ((i : Int), ((min 6 n : Nat) : Int), L, P ++ [(16, 2, ((min 6 n : Nat) : Int) - 3, ())]) else ((i : Int), 1, L, P ++ [(L.getD i 0, 0, 0, ())])) := by
  have w3 : IntKind.wrap .i64 ((n : Int) - 11) = (n : Int) - 11 := wrap_i64 (by omega) (by omega)
  have hw := ay hi
  simp only [d6, ae, w3, hw, if_true, Int.toNat_natCast, bv hi, Option.bind_some, MW hP 24 (by decide)]
  cases b with
  | true => rfl
  | false =>
    simp only [Bool.false_eq_true, if_false]
    by_cases hz : L.getD i 0 = 0
    · rw [if_pos (by rw [hz]; rfl), RG L hL hi hn _ P hP, Option.bind_some]
      by_cases h2 : 2 < n
      · rw [aY (by omega), if_pos ⟨hz, h2⟩]
      · rw [aV (by omega), if_neg (show ¬ (L.getD i 0 = 0 ∧ 2 < n) from fun h => h2 h.2)]
    · rw [if_neg (by simpa using hz), RG L hL hi hn _ P hP, Option.bind_some, if_neg (by decide), if_neg (show ¬ (L.getD i 0 = 0 ∧ 2 < n) from fun h => hz h.1)]
theorem N0 {N : Nat} (hN : 200 ≤ N) (L : List Int) (hL : L.length ≤ 400) : ∀ (d i f : Nat) (P : List uq), L.length ≤ i + d → P.length ≤ i → i ≤ L.length → d < f →
    iy N f ((i : Int), L, P) = some (P ++ cW L d i) := by
  intro d
  induction d with
  | zero =>
    intro i f P hi hP hle hf
    cases f with
    | zero => omega
    | succ f =>
      simp only [iy, Bi, ae]
      rw [aV (by omega)]
      unfold cW
      rw [List.append_nil]
  | succ d ih =>
    intro i f P hi hP hle hf
    cases f with
    | zero => omega
    | succ f =>
      simp only [iy, Bi, ae]
      unfold cW
      by_cases hil : i < L.length
      · obtain ⟨r1, r2, r3, r4⟩ := xA hil
        have hs := (tp hil).2
        rw [aY (by omega), QH hN L (by omega) hil, Option.bind_some, if_pos (ay hil), Int.toNat_natCast, bv hil, Option.bind_some, if_pos hil]
        have key : ∀ b : Bool, (b = true ↔ L.getD i 0 = 0 ∧ 10 < runN L i) → d6 N (b, (i : Int), ((runN L i : Nat) : Int), L, P) = some ((i : Int), (((nb L i).2 : Nat) : Int), L, P ++ [(nb L i).1]) := by
          intro b hb
          rw [Xs L (by omega) hil r2 b P (by omega)]
          unfold nb
          by_cases h1 : L.getD i 0 = 0 ∧ 10 < runN L i
          · rw [if_pos (hb.2 h1), if_pos h1]
          · rw [if_neg (fun h => h1 (hb.1 h)), if_neg h1]
            by_cases h2 : L.getD i 0 = 0 ∧ 2 < runN L i
            · rw [if_pos h2, if_pos h2]
            · rw [if_neg h2, if_neg h2]
              by_cases h3 : (0 < i ∧ L.getD i 0 = L.getD (i - 1) 0) ∧ 2 < runN L i
              · rw [if_pos h3, if_pos h3]
              · rw [if_neg h3, if_neg h3]
                rfl
        have w : IntKind.wrap .i64 ((i : Int) + (((nb L i).2 : Nat) : Int)) = ((i + (nb L i).2 : Nat) : Int) := by rw [wrap_i64 (by omega) (by omega)]; omega
        have hI := ih (i + (nb L i).2) f (P ++ [(nb L i).1]) (by omega) (by rw [List.length_append, List.length_singleton]; omega) hs.2 (by omega)
        by_cases hz : L.getD i 0 = 0
        · rw [if_pos (by rw [hz]; rfl), key _ (by simp only [decide_eq_true_eq]; omega), Option.bind_some]
          show Option.bind (iy N f (IntKind.wrap .i64 ((i : Int) + (((nb L i).2 : Nat) : Int)), L, P ++ [(nb L i).1])) _ = _
          rw [w, hI, Option.bind_some, List.append_assoc]
          rfl
        · rw [if_neg (by simpa using hz), key _ (by simp only [Bool.false_eq_true, false_iff]; exact fun h => hz h.1), Option.bind_some]
          show Option.bind (iy N f (IntKind.wrap .i64 ((i : Int) + (((nb L i).2 : Nat) : Int)), L, P ++ [(nb L i).1])) _ = _
          rw [w, hI, Option.bind_some, List.append_assoc]
          rfl
      · rw [aV (by omega), if_neg hil, List.append_nil]
theorem FS {N : Nat} (hN : 500 ≤ N) (L : List Int) (hL : L.length ≤ 400) : Xt N L = some (cW L L.length 0) := by
  simp only [Xt]
  have := N0 (show 200 ≤ N by omega) L hL L.length 0 N [] (by omega) (by simp) (by omega) (by omega)
  rw [show ((0 : Nat) : Int) = 0 from rfl, List.nil_append] at this
  rw [this, Option.bind_some]
def LN (x : Int) : Bool := decide (x < 0) || decide (x > 15)
theorem QS (N : Nat) (x : Int) : Xu N x = some (LN x) := by
  simp only [Xu, ae]
  unfold LN
  by_cases h : x < 0
  · rw [if_pos (by simpa using h), decide_eq_true h, Bool.true_or]
  · rw [if_neg (by simpa using h), decide_eq_false h, Bool.false_or]
theorem NW (N : Nat) (L : List Int) (hL : L.length ≤ 1000) : ∀ (d i f : Nat), i + d = L.length → d < f →
    (okB (L.drop i) = true → fP N f ((L.length : Int), L, (i : Int)) = some (.inr ())) ∧ (okB (L.drop i) = false → ∃ k : Nat, fP N f ((L.length : Int), L, (i : Int)) = some (.inl (k : Int))) := by
  intro d
  induction d with
  | zero =>
    intro i f hi hf
    cases f with
    | zero => omega
    | succ f =>
      simp only [fP, sd, ae]
      rw [aV (by omega), List.drop_eq_nil_of_le (by omega)]
      exact ⟨fun _ => rfl, fun h => by cases h⟩
  | succ d ih =>
    intro i f hi hf
    cases f with
    | zero => omega
    | succ f =>
      have hil : i < L.length := by omega
      obtain ⟨i1, i2⟩ := ih (i + 1) f (by omega) (by omega)
      have w2 : IntKind.wrap .i64 ((i : Int) + 1) = ((i + 1 : Nat) : Int) := by rw [wrap_i64 (by omega) (by omega)]; omega
      have e : okB (L.drop i) = (!LN (L.getD i 0) && okB (L.drop (i + 1))) := by
        rw [List.drop_eq_getElem_cons hil]
        unfold okB LN
        rw [List.all_cons, List.getD, List.getElem?_eq_getElem hil, Option.getD_some]
        congr 1
        rw [Bool.not_or]
        congr 1
        · by_cases h : L[i] < 0
          · rw [decide_eq_true h, decide_eq_false (by omega)]; rfl
          · rw [decide_eq_false h, decide_eq_true (by omega)]; rfl
        · by_cases h : L[i] > 15
          · rw [decide_eq_true h, decide_eq_false (by omega)]; rfl
          · rw [decide_eq_false h, decide_eq_true (by omega)]; rfl
      simp only [fP, sd, ae]
      rw [aY (by omega), if_pos (ay hil), Int.toNat_natCast, bv hil, Option.bind_some, QS, Option.bind_some, e, w2]
      cases ho : LN (L.getD i 0) with
      | true =>
        rw [if_pos rfl]
        exact ⟨fun h => (by cases h), fun _ => ⟨i, rfl⟩⟩
      | false =>
        rw [if_neg (by decide), Bool.not_false, Bool.true_and]
        refine ⟨fun h => ?_, fun h => ?_⟩
        · rw [i1 h]; rfl
        · obtain ⟨k, hk⟩ := i2 h
          exact ⟨k, by rw [hk]; rfl⟩
theorem HA {N : Nat} (hN : 2000 ≤ N) (L : List Int) (hL : L.length ≤ 1000) : Jx N L = some (!okB L) := by
  obtain ⟨h1, h2⟩ := NW N L hL L.length 0 N (by omega) (by omega)
  rw [List.drop_zero, show ((0 : Nat) : Int) = 0 from rfl] at h1 h2
  simp only [Jx, QI]
  cases h : okB L with
  | true => rw [h1 h, Option.bind_some, Option.bind_some]; rfl
  | false =>
    obtain ⟨k, hk⟩ := h2 h
    rw [hk, Option.bind_some, Option.bind_some]
    show some (decide ((k : Int) ≥ 0)) = some true
    rw [decide_eq_true (by omega)]
end Go.Proofs.YteddgkplkjldcaaGreat.Am
namespace Go.Proofs.YteddgkplkjldcaaGreat.Am
open Go.Am
theorem yc (n : Nat) (S : List Int) {i : Nat} (h : i < n) : (fh n S).getD i 0 = ((S.count (i : Int) : Nat) : Int) := by
  rw [List.getD, iX n S h]; rfl
theorem qf {fr : List Int} {m : Nat} (hl : fr.length ≤ 320) (hm : 1 ≤ m) (hm2 : m ≤ 15) (hn : fr.length ≤ 2 ^ m) (ho : okF fr = true) :
    ∃ r, kP fr (m : Int) = (0, r) ∧ r.length = fr.length ∧ (chk r).2 = 0 ∧ ∀ s, s < fr.length → (0 < fr.getD s 0 → 1 ≤ r.getD s 0) ∧ 0 ≤ r.getD s 0 ∧ r.getD s 0 ≤ (m : Int) := by
  have hc := fg fr fr.length
  have hlen := aT (an fr fr.length)
  have hb : (aH (an fr fr.length)).length ≤ 2 ^ m := by omega
  obtain ⟨p1, p2, p3⟩ := tr (oP fr) hm hm2 hb
  refine ⟨fh fr.length (bN (aH (an fr fr.length)) m), ?_, dV _ _, ?_, fun s hs => ?_⟩
  · unfold kP
    rw [if_neg (by simp only [ho, Bool.true_eq_false, or_false]; omega), Int.toNat_natCast, if_neg (by omega)]
  · rw [MQ hl hm hm2 hb]
  · rw [yc _ _ hs]
    refine ⟨fun h => ?_, by omega, ?_⟩
    · have := p1 _ ((Ch hs).2 h)
      omega
    · by_cases h : ((s : Int) ∈ bf (aH (an fr fr.length)))
      · have := p1 _ h; omega
      · rw [p2 _ h]; omega
def jD (P : List uq) : List Int := P.map (·.1)
def fq (P : List uq) : List Int := fh 19 (jD P)
theorem Tl (P : List uq) (hP : P.length ≤ 1000) : okF (fq P) = true := by
  unfold okF fq fh
  rw [List.all_eq_true]
  intro x hx
  obtain ⟨i, _, rfl⟩ := List.mem_map.1 hx
  have : (jD P).count (i : Int) ≤ (jD P).length := List.count_le_length
  have e : (jD P).length = P.length := by unfold jD; simp
  rw [Bool.and_eq_true, decide_eq_true_eq, decide_eq_true_eq]
  omega
theorem Tk {P : List uq} {s : uq} (hs : s ∈ P) (h0 : 0 ≤ s.1) (h1 : s.1 < 19) : 0 < (fq P).getD s.1.toNat 0 := by
  unfold fq
  rw [yc _ _ (by omega), Int.toNat_of_nonneg h0]
  have : 0 < (jD P).count s.1 := List.count_pos_iff.2 (List.mem_map.2 ⟨s, hs, rfl⟩)
  omega
theorem N6 (N : Nat) (P : List uq) (hP : P.length ≤ 1000) (hok : ∀ s ∈ P, xr s) (x2 x3 : List Int) (x4 x5 : Int) (x8 : List Int) : ∀ (d i f : Nat), i + d = P.length → d < f →
    dm N f ((i : Int), (P.length : Int), x2, x3, x4, x5, P, fh 19 (jD (P.take i)), x8) = some (x3, x2, x4, x5, fq P, P, x8) := by
  intro d
  induction d with
  | zero =>
    intro i f hi hf
    cases f with
    | zero => omega
    | succ f =>
      simp only [dm, si, ae]
      rw [aV (by omega), List.take_of_length_le (by omega)]
      rfl
  | succ d ih =>
    intro i f hi hf
    cases f with
    | zero => omega
    | succ f =>
      have hil : i < P.length := by omega
      obtain ⟨o1, o2, _⟩ := hok _ (List.getElem_mem hil)
      obtain ⟨k, hk⟩ := Int.eq_ofNat_of_zero_le o1
      have hk19 : k < 19 := by omega
      have w : IntKind.wrap .i64 ((i : Int) + 1) = ((i + 1 : Nat) : Int) := by rw [wrap_i64 (by omega) (by omega)]; omega
      have hcl : (jD (P.take i)).count (k : Int) ≤ 1000 := by
        have : (jD (P.take i)).count (k : Int) ≤ (jD (P.take i)).length := List.count_le_length
        have e : (jD (P.take i)).length ≤ P.length := by unfold jD; simp; omega
        omega
      have w2 : IntKind.wrap .i64 (((jD (P.take i)).count (k : Int) : Int) + 1) = ((jD (P.take i)).count (k : Int) : Int) + 1 := wrap_i64 (by omega) (by omega)
      have et : jD (P.take (i + 1)) = jD (P.take i) ++ [(k : Int)] := by
        unfold jD
        rw [List.take_add_one, List.getElem?_eq_getElem hil, List.map_append]
        show _ ++ [P[i].1] = _
        rw [hk]
      have hw2 : within (k : Int) (fh 19 (jD (P.take i))).length = true := ay (by rw [dV]; exact hk19)
      simp only [dm, si, ae]
      rw [aY (by omega), if_pos (ay hil), Int.toNat_natCast, List.getElem?_eq_getElem hil, Option.bind_some, hk, if_pos hw2, Int.toNat_natCast, iX _ _ hk19, Option.bind_some, if_pos hw2, Option.bind_some, w, w2, qc _ _ hk19, ← et, ih (i + 1) f (by omega) (by omega)]
      rfl
def cn : List Int := [16, 17, 18, 0, 8, 7, 9, 6, 10, 5, 11, 4, 12, 3, 13, 2, 14, 1, 15]
theorem qJ : Xr 200000 () = some cn := by kernel_rfl
theorem yW : ∀ i, i < 19 → 0 ≤ cn.getD i 0 ∧ cn.getD i 0 < 19 := by decide
theorem dT : cn.length = 19 := rfl
def gP (lens : List Int) : Nat → Nat
  | 0 => 0
  | n + 1 => if n + 1 > 4 then (if lens.getD (cn.getD n 0).toNat 0 = 0 then gP lens n else n + 1) else n + 1
theorem oq (lens : List Int) : ∀ n, gP lens n ≤ n
  | 0 => Nat.le_refl _
  | n + 1 => by
    unfold gP
    have := oq lens n
    split
    · split <;> omega
    · omega
theorem yX (lens : List Int) : ∀ n, 4 ≤ n → 4 ≤ gP lens n
  | 0, h => by omega
  | n + 1, h => by
    unfold gP
    split
    · split
      · exact yX lens n (by omega)
      · omega
    · omega
theorem xM (lens : List Int) : ∀ n i, gP lens n ≤ i → i < n → lens.getD (cn.getD i 0).toNat 0 = 0
  | 0, i, _, h => by omega
  | n + 1, i, h1, h2 => by
    unfold gP at h1
    split at h1
    · split at h1
      · by_cases e : i = n
        · subst e; assumption
        · exact xM lens n i h1 (by omega)
      · omega
    · omega
theorem N4 (N : Nat) (lens : List Int) (hl : lens.length = 19) (x1 x2 : List Int) (x3 x4 : Int) (x6 : List uq) (x7 : List sa) (x9 : List Int) : ∀ (n f : Nat), n ≤ 19 → n < f → 1 ≤ n →
    dw N f ((n : Int), x1, x2, x3, x4, lens, x6, x7, cn, x9) = some (x2, x1, ((gP lens n : Nat) : Int), x3, x4, cn, x7, x6, lens, x9) := by
  intro n
  induction n with
  | zero => intro f h1 h2 h3; omega
  | succ n ih =>
    intro f h1 h2 h3
    cases f with
    | zero => omega
    | succ f =>
      have w : IntKind.wrap .i64 (((n + 1 : Nat) : Int) - 1) = (n : Int) := by rw [wrap_i64 (by omega) (by omega)]; omega
      simp only [dw, v8, ae]
      unfold gP
      rw [w]
      by_cases h4 : n + 1 > 4
      · obtain ⟨o1, o2⟩ := yW n (by omega)
        have hn19 : n < cn.length := by rw [dT]; omega
        obtain ⟨k, hk⟩ := Int.eq_ofNat_of_zero_le o1
        rw [aY (by omega), if_pos h4, if_pos (ay hn19), Int.toNat_natCast, bv hn19, Option.bind_some, hk, if_pos (ay (by omega)), Int.toNat_natCast, bv (by omega), Option.bind_some]
        show (if ((lens.getD k 0) == (0 : Int)) = true then _ else _) = some (_, _, (((if lens.getD k 0 = 0 then gP lens n else n + 1) : Nat) : Int), _)
        by_cases hz : lens.getD k 0 = 0
        · rw [if_pos (by rw [hz]; rfl), if_pos hz, ih f (by omega) (by omega) (by omega)]
          rfl
        · rw [if_neg (by simpa using hz), if_neg hz]
      · rw [aV (by omega), if_neg h4]
def kj (lens : List Int) (i : Nat) : List Bool := (cn.take i).flatMap fun a => aG 3 (lens.getD a.toNat 0)
theorem pR (lens : List Int) {i : Nat} (h : i < cn.length) : kj lens (i + 1) = kj lens i ++ aG 3 (lens.getD (cn.getD i 0).toNat 0) := by
  have e : cn.getD i 0 = cn[i] := by rw [List.getD, List.getElem?_eq_getElem h]; rfl
  unfold kj
  rw [List.take_add_one, List.getElem?_eq_getElem h, List.flatMap_append, e]
  simp
theorem iL (lens : List Int) : ∀ i, i ≤ 19 → (kj lens i).length = 3 * i
  | 0, _ => rfl
  | i + 1, h => by
    rw [pR lens (by rw [dT]; omega), List.length_append, iL lens i (by omega), am, show ak 3 = 3 from rfl]
    omega
theorem QY {N : Nat} (hN : 6 ≤ N) (lens : List Int) (hl : lens.length = 19) (m : List Bool) (hm : m.length ≤ 900000000) (n : Nat) (hn : n ≤ 19) (x5 : List sa) (x6 : List uq) : ∀ (d i f : Nat), i + d = n → d < f →
    bL N f ((i : Int), (n : Int), n, aJ (m ++ kj lens i), nF (m ++ kj lens i), x5, x6, cn, lens, bF (m ++ kj lens i)) = some (aJ (m ++ kj lens n), nF (m ++ kj lens n), x6, x5, bF (m ++ kj lens n)) := by
  intro d
  induction d with
  | zero =>
    intro i f hi hf
    cases f with
    | zero => omega
    | succ f =>
      simp only [bL, jX, ae]
      rw [aV (by omega), show i = n by omega]
  | succ d ih =>
    intro i f hi hf
    cases f with
    | zero => omega
    | succ f =>
      have w : IntKind.wrap .i64 ((i : Int) + 1) = ((i + 1 : Nat) : Int) := by rw [wrap_i64 (by omega) (by omega)]; omega
      obtain ⟨o1, o2⟩ := yW i (by omega)
      have hn19 : i < cn.length := by rw [dT]; omega
      obtain ⟨k, hk⟩ := Int.eq_ofNat_of_zero_le o1
      have hb := iL lens i (by omega)
      have hs := pR lens hn19
      rw [hk, Int.toNat_natCast] at hs
      simp only [bL, jX, ae]
      rw [aY (by omega), if_pos (ay (by omega)), Int.toNat_natCast, Nat.zero_add, bv hn19, Option.bind_some, hk, if_pos (ay (by omega)), Int.toNat_natCast, bv (by omega), Option.bind_some, bd hN _ (by rw [List.length_append]; omega), Option.bind_some, w, List.append_assoc, ← hs, ih (i + 1) f (by omega) (by omega)]
      rfl
def sB (lens : List Int) (s : uq) : List Bool := aI (bX lens s.1.toNat) ++ aG s.2.1 s.2.2.1
def wz (lens : List Int) (P : List uq) : List Bool := P.flatMap (sB lens)
theorem S4 (lens : List Int) (s : uq) : (sB lens s).length ≤ 64 := by
  unfold sB
  have h1 := cp (bX lens s.1.toNat)
  have h2 := bG s.2.1
  rw [List.length_append, am]
  omega
theorem yQ (lens : List Int) : ∀ P, (wz lens P).length ≤ 64 * P.length
  | [] => Nat.le_refl _
  | s :: P => by
    have h1 := S4 lens s
    have h2 := yQ lens P
    unfold wz at h2 ⊢
    rw [List.flatMap_cons, List.length_append, List.length_cons]
    omega
theorem N5 {N : Nat} (hN : 6 ≤ N) (lens : List Int) (hl : lens.length = 19) (P : List uq) (hP : P.length ≤ 1000) (hok : ∀ s ∈ P, xr s) (m : List Bool) (hm : m.length ≤ 900000000) : ∀ (d i f : Nat), i + d = P.length → d < f →
    cq N f ((i : Int), (P.length : Int), aJ (m ++ wz lens (P.take i)), nF (m ++ wz lens (P.take i)), P, af lens, bF (m ++ wz lens (P.take i))) = some (aJ (m ++ wz lens P), nF (m ++ wz lens P), bF (m ++ wz lens P)) := by
  intro d
  induction d with
  | zero =>
    intro i f hi hf
    cases f with
    | zero => omega
    | succ f =>
      simp only [cq, jW, ae]
      rw [aV (by omega), List.take_of_length_le (by omega)]
  | succ d ih =>
    intro i f hi hf
    cases f with
    | zero => omega
    | succ f =>
      have hil : i < P.length := by omega
      obtain ⟨o1, o2, o3, o4, _⟩ := hok _ (List.getElem_mem hil)
      obtain ⟨k, hk⟩ := Int.eq_ofNat_of_zero_le o1
      have hk19 : k < 19 := by omega
      have w : IntKind.wrap .i64 ((i : Int) + 1) = ((i + 1 : Nat) : Int) := by rw [wrap_i64 (by omega) (by omega)]; omega
      have hC : (af lens).length = 19 := by rw [ci, hl]
      have hbl := yQ lens (P.take i)
      rw [List.length_take] at hbl
      have hcb := cp (bX lens k)
      have et : wz lens (P.take (i + 1)) = wz lens (P.take i) ++ (aI (bX lens k) ++ aG P[i].2.1 P[i].2.2.1) := by
        unfold wz
        rw [List.take_add_one, List.getElem?_eq_getElem hil, List.flatMap_append]
        show _ ++ ([P[i]].flatMap (sB lens)) = _
        rw [List.flatMap_cons, List.flatMap_nil, List.append_nil]
        unfold sB
        rw [hk, Int.toNat_natCast]
      simp only [cq, jW, ae]
      rw [aY (by omega), if_pos (ay hil), Int.toNat_natCast, List.getElem?_eq_getElem hil, Option.bind_some, hk, if_pos (ay (by omega)), Int.toNat_natCast, gD lens (by omega), Option.bind_some, lD hN _ (by rw [List.length_append]; omega), Option.bind_some]
      simp only
      rw [bd hN _ (by simp only [List.length_append]; omega), Option.bind_some, w, List.append_assoc, List.append_assoc, ← et]
      simp only
      rw [ih (i + 1) f (by omega) (by omega)]
      rfl
end Go.Proofs.YteddgkplkjldcaaGreat.Am
namespace Go.Proofs.YteddgkplkjldcaaGreat.Am
open Go.Am
def rM (lits dists : List Int) : List uq := cW (lits ++ dists) (lits ++ dists).length 0
def py (lits dists : List Int) : List Int := (kP (fq (rM lits dists)) 7).2
def rj (lits dists : List Int) : Nat := gP (py lits dists) 19
def Br (lits dists : List Int) : List Bool :=
  aG 5 (((lits.length - 257 : Nat) : Nat) : Int) ++ (aG 5 (((dists.length - 1 : Nat) : Nat) : Int) ++ (aG 4 (((rj lits dists - 4 : Nat) : Nat) : Int) ++ (kj (py lits dists) (rj lits dists) ++ wz (py lits dists) (rM lits dists))))
structure HdOk (lits dists : List Int) : Prop where
  l1 : 257 ≤ lits.length
  l2 : lits.length ≤ 286
  d1 : 1 ≤ dists.length
  d2 : dists.length ≤ 30
  lo : okB lits = true
  dz : okB dists = true
theorem nd (a b : List Int) : okB (a ++ b) = (okB a && okB b) := by unfold okB; rw [List.all_append]
structure LensOk (lens : List Int) (P : List uq) : Prop where
  len : lens.length = 19
  chk : (chk lens).2 = 0
  pos : ∀ s ∈ P, 0 < lens.getD s.1.toNat 0
  bnd : ∀ j, j < 19 → 0 ≤ lens.getD j 0 ∧ lens.getD j 0 ≤ 7
theorem zk {lits dists : List Int} (h : HdOk lits dists) : kP (fq (rM lits dists)) 7 = (0, py lits dists) ∧ LensOk (py lits dists) (rM lits dists) ∧ (rM lits dists).length ≤ 316 ∧ (∀ s ∈ rM lits dists, xr s) := by
  obtain ⟨h1, h2, h3, h4, h5, h6⟩ := h
  have hok : okB (lits ++ dists) = true := by rw [nd, h5, h6]; rfl
  have hlen : (rM lits dists).length ≤ 316 := by
    have := xJ (lits ++ dists) (lits ++ dists).length 0
    have e : (lits ++ dists).length = lits.length + dists.length := List.length_append
    unfold rM; omega
  have hsy : ∀ s ∈ rM lits dists, xr s := Ce hok _ _
  have hfl : (fq (rM lits dists)).length = 19 := dV _ _
  obtain ⟨r, r1, r2, r3, r4⟩ := qf (fr := fq (rM lits dists)) (m := 7) (by omega) (by decide) (by decide) (by rw [hfl]; decide) (Tl _ (by omega))
  have r1 : kP (fq (rM lits dists)) 7 = (0, r) := r1
  have e : py lits dists = r := by unfold py; rw [r1]
  rw [e]
  refine ⟨r1, ⟨by omega, r3, fun s hs => ?_, fun j hj => ?_⟩, hlen, hsy⟩
  · obtain ⟨o1, o2, _⟩ := hsy s hs
    have := (r4 s.1.toNat (by omega)).1 (Tk hs o1 o2)
    omega
  · have := (r4 j (by omega)).2
    exact ⟨this.1, this.2⟩
theorem JA {lits dists : List Int} (h : HdOk lits dists) (m : List Bool) (hm : m.length ≤ 800000000) :
    qM 200000 (lits, dists, aJ m, nF m, bF m) = some (0, aJ (m ++ Br lits dists), nF (m ++ Br lits dists), bF (m ++ Br lits dists)) := by
  obtain ⟨k1, k2, k3, k4⟩ := zk h
  obtain ⟨h1, h2, h3, h4, h5, h6⟩ := h
  have e : (lits ++ dists).length = lits.length + dists.length := List.length_append
  have hfr := N6 200000 (rM lits dists) (by omega) k4 lits dists (aJ m) (nF m) (bF m) (rM lits dists).length 0 200000 (by omega) (by omega)
  have e0 : fh 19 (jD ((rM lits dists).take 0)) = List.replicate 19 0 := oR 19
  rw [e0, show ((0 : Nat) : Int) = 0 from rfl] at hfr
  have hn1 := oq (py lits dists) 19
  have hn2 := yX (py lits dists) 19 (by decide)
  have ht := N4 200000 (py lits dists) k2.len dists lits (aJ m) (nF m) (rM lits dists) (af (py lits dists)) (bF m) 19 200000 (by omega) (by omega) (by omega)
  have p5 : ∀ v, (aG 5 v).length = 5 := fun v => by rw [am]; rfl
  have p4 : ∀ v, (aG 4 v).length = 4 := fun v => by rw [am]; rfl
  have hob := iL (py lits dists) (rj lits dists) (by unfold rj; omega)
  have w1 : IntKind.wrap .i64 ((lits.length : Int) - 257) = ((lits.length - 257 : Nat) : Int) := by rw [wrap_i64 (by omega) (by omega)]; omega
  have w2 : IntKind.wrap .i64 ((dists.length : Int) - 1) = ((dists.length - 1 : Nat) : Int) := by rw [wrap_i64 (by omega) (by omega)]; omega
  have w3 : IntKind.wrap .i64 (((gP (py lits dists) 19 : Nat) : Int) - 4) = ((rj lits dists - 4 : Nat) : Int) := by rw [wrap_i64 (by omega) (by omega)]; unfold rj; omega
  have hC : RF 200000 (py lits dists) = some (0, af (py lits dists)) := by rw [qK (by decide), if_pos k2.chk]
  unfold qM
  simp only [ae]
  rw [Hz (by decide) lits dists (by omega), Option.bind_some, FS (by decide) _ (by omega), Option.bind_some]
  show Option.bind (dm 200000 200000 (0, ((rM lits dists).length : Int), lits, dists, aJ m, nF m, rM lits dists, List.replicate 19 0, bF m)) _ = _
  rw [hfr, Option.bind_some]
  simp only
  rw [vM, k1, Option.bind_some]
  simp only
  rw [hC, Option.bind_some, qJ, Option.bind_some]
  simp only
  rw [show ((cn.length : Nat) : Int) = ((19 : Nat) : Int) from rfl, ht, Option.bind_some]
  simp only
  rw [w1, w2, w3, bd (by decide) m (by omega), Option.bind_some]
  simp only
  rw [bd (by decide) _ (by rw [List.length_append, p5]; omega), Option.bind_some]
  simp only
  rw [bd (by decide) _ (by rw [List.length_append, List.length_append, p5, p5]; omega), Option.bind_some]
  simp only
  rw [if_pos (by rw [dT]; simp only [decide_eq_true_eq]; omega)]
  have ho := QY (N := 200000) (by decide) (py lits dists) k2.len (m ++ aG 5 ((lits.length - 257 : Nat) : Int) ++ aG 5 ((dists.length - 1 : Nat) : Int) ++ aG 4 ((rj lits dists - 4 : Nat) : Int)) (by simp only [List.length_append, p5, p4]; omega) (rj lits dists) (by unfold rj; omega) (af (py lits dists)) (rM lits dists) (rj lits dists) 0 200000 (by omega) (by unfold rj; omega)
  have eo : kj (py lits dists) 0 = [] := rfl
  rw [eo, List.append_nil, show ((0 : Nat) : Int) = 0 from rfl] at ho
  rw [Int.toNat_natCast, Nat.sub_zero]
  show Option.bind (bL 200000 200000 (0, ((rj lits dists : Nat) : Int), rj lits dists, _)) _ = _
  rw [ho, Option.bind_some]
  simp only
  have hs := N5 (N := 200000) (by decide) (py lits dists) k2.len (rM lits dists) (by omega) k4 (m ++ aG 5 ((lits.length - 257 : Nat) : Int) ++ aG 5 ((dists.length - 1 : Nat) : Int) ++ aG 4 ((rj lits dists - 4 : Nat) : Int) ++ kj (py lits dists) (rj lits dists)) (by
    have : rj lits dists ≤ 19 := hn1
    simp only [List.length_append, p5, p4, hob]; omega) (rM lits dists).length 0 200000 (by omega) (by omega)
  have es : wz (py lits dists) ((rM lits dists).take 0) = [] := rfl
  rw [es, List.append_nil, show ((0 : Nat) : Int) = 0 from rfl] at hs
  rw [hs, Option.bind_some]
  unfold Br
  simp only [List.append_assoc]
theorem Us {lits dists : List Int} (h : HdOk lits dists) (m : List Bool) (hm : m.length ≤ 800000000) :
    Xx 200000 (lits, dists, aJ m, nF m, bF m) = some (0, aJ (m ++ Br lits dists), nF (m ++ Br lits dists), bF (m ++ Br lits dists)) := by
  have h15 := JA h m hm
  obtain ⟨h1, h2, h3, h4, h5, h6⟩ := h
  simp only [Xx, ae]
  rw [aV (by omega), aV (by omega), aV (by omega), aV (by omega), HA (by decide) _ (by omega), Option.bind_some, h5, if_neg (by decide), HA (by decide) _ (by omega), Option.bind_some, h6, if_neg (by decide), h15, Option.bind_some]
end Go.Proofs.YteddgkplkjldcaaGreat.Am
namespace Go.Proofs.YteddgkplkjldcaaGreat.Am
open Go.Am
theorem IF (n : Nat) (f : Nat → Int) {k : Nat} (hk : k < n) (v : Int) : ((List.range n).map f).set k v = (List.range n).map fun j => if j = k then v else f j := by
  apply List.ext_getElem?
  intro i
  rw [List.getElem?_set]
  by_cases hi : i < n
  · simp only [List.getElem?_map, List.getElem?_range hi, Option.map_some, List.length_map, List.length_range]
    by_cases e : k = i
    · subst e; simp [hi]
    · rw [if_neg e, if_neg (fun h => e h.symm)]
  · have e : ¬ k = i := by omega
    rw [if_neg e]
    simp only [List.getElem?_map]
    rw [List.getElem?_eq_none (by simp; omega)]
    rfl
def mL (lens : List Int) (i : Nat) : List Int := (List.range 19).map fun (j : Nat) => bif (cn.take i).contains (j : Int) then lens.getD j 0 else 0
theorem xL (lens : List Int) (i : Nat) : (mL lens i).length = 19 := by unfold mL; simp
theorem Et (lens : List Int) : mL lens 0 = List.replicate 19 0 := rfl
theorem IT (lens : List Int) {i k : Nat} (hi : i < 19) (hk : cn.getD i 0 = (k : Int)) (hk19 : k < 19) : (mL lens i).set k (lens.getD k 0) = mL lens (i + 1) := by
  unfold mL
  rw [IF 19 _ hk19]
  apply List.map_congr_left
  intro j hj
  have hil : i < cn.length := by rw [dT]; exact hi
  have et : cn.take (i + 1) = cn.take i ++ [(k : Int)] := by
    rw [List.take_add_one, List.getElem?_eq_getElem hil]
    have : cn[i] = (k : Int) := by rw [← hk, List.getD, List.getElem?_eq_getElem hil]; rfl
    rw [this]; rfl
  rw [et]
  by_cases e : j = k
  · subst e
    rw [if_pos rfl]
    have : (cn.take i ++ [(j : Int)]).contains (j : Int) = true := by simp
    rw [this]; rfl
  · rw [if_neg e]
    have : (cn.take i ++ [(k : Int)]).contains (j : Int) = (cn.take i).contains (j : Int) := by
      apply Bool.eq_iff_iff.2
      simp only [List.contains_iff_mem, List.mem_append, List.mem_singleton]
      constructor
      · rintro (h | h)
        · exact h
        · omega
      · exact .inl
    rw [this]
theorem O7 : ∀ j : Nat, j < 19 → ∃ t : Nat, t < 19 ∧ cn.getD t 0 = (j : Int) := by decide
theorem IU {lens : List Int} (hl : lens.length = 19) : mL lens (gP lens 19) = lens := by
  apply List.ext_getElem?
  intro i
  by_cases hi : i < 19
  · unfold mL
    rw [List.getElem?_map, List.getElem?_range hi, Option.map_some, List.getElem?_eq_getElem (by omega)]
    have e : lens.getD i 0 = lens[i] := getD_at (by omega)
    obtain ⟨t, t1, t2⟩ := O7 i hi
    have htl : t < cn.length := by rw [dT]; exact t1
    by_cases h : t < gP lens 19
    · have : (cn.take (gP lens 19)).contains (i : Int) = true := by
        rw [List.contains_iff_mem, ← t2, List.getD, List.getElem?_eq_getElem htl, Option.getD_some]
        exact List.mem_take_iff_getElem.2 ⟨t, by omega, rfl⟩
      rw [this, cond_true, e]
    · have := xM lens 19 t (by omega) t1
      rw [t2, Int.toNat_natCast] at this
      rw [this]
      cases (cn.take (gP lens 19)).contains (i : Int) <;> simp only [cond_true, cond_false] <;> rw [← e, this]
  · rw [List.getElem?_eq_none (by rw [xL]; omega), List.getElem?_eq_none (by omega)]
theorem HW {L : List Int} {i : Nat} (h0 : 0 < i) (hi : i ≤ L.length) : (L.take i).length = i ∧ (L.take i)[i - 1]? = some (L.getD (i - 1) 0) := by
  have e : (L.take i).length = i := by rw [List.length_take]; omega
  refine ⟨e, ?_⟩
  rw [List.getElem?_take_of_lt (by omega), bv (by omega)]
end Go.Proofs.YteddgkplkjldcaaGreat.Am
namespace Go.Proofs.YteddgkplkjldcaaGreat.Am
open Go.Am
theorem G7 {lits dists : List Int} (h : HdOk lits dists) : (Br lits dists).length ≤ 21000 := by
  obtain ⟨k1, k2, k3, k4⟩ := zk h
  have hn := oq (py lits dists) 19
  have hob := iL (py lits dists) (rj lits dists) (by unfold rj; omega)
  have hs := yQ (py lits dists) (rM lits dists)
  have hN : rj lits dists ≤ 19 := hn
  unfold Br
  simp only [List.length_append, am, hob]
  have c5 : ak 5 = 5 := rfl
  have c4 : ak 4 = 4 := rfl
  omega
end Go.Proofs.YteddgkplkjldcaaGreat.Am
