/- The library's stable sort, and the best lengths, as the code counts them (no more than 320 symbols). -/
import Derived.Test.YtpjkklailofkjaaSC
import Derived.Test.YtpjkklailofkjaaPM
import Derived.Test.YtpjkklailofkjaaAmC
namespace Go.Proofs.Ytpjkklailofkjaa.Am
open Go.Am
set_option linter.unusedSimpArgs false
set_option linter.unusedVariables false

theorem at_mid {D L R : List Bun} {x : Bun} (h : D = L ++ x :: R) {i : Nat} (hi : i = L.length) : D[i]? = some x := by
  subst h; subst hi
  rw [List.getElem?_append_right (Nat.le_refl _), Nat.sub_self]; rfl
theorem set_mid {D L R : List Bun} {x : Bun} (h : D = L ++ x :: R) {i : Nat} (hi : i = L.length) (y : Bun) : D.set i y = L ++ y :: R := by
  subst h; subst hi
  rw [List.set_append_right _ _ (Nat.le_refl _), Nat.sub_self]; rfl
theorem eta (y : Bun) : (y.1, y.2.1, ()) = y := rfl
theorem wi {i n : Nat} (h : i < n) : within (i : Int) n = true := by unfold within; simp only [decide_eq_true_eq]; omega

/-- Which of two is lighter. -/
theorem F56_cmp (N : Nat) (x y : Bun) : ∃ c, F56 N (x.1, x.2.1, y.1, y.2.1) = some c ∧ (decide (c < 0) = decide (x.1 < y.1)) := by
  have e71 : ∀ z : Int, F71 N z = some false := fun z => by simp [F71]
  simp only [F56, F57, iteP_eq, e71, Option.bind_some]
  rw [if_neg (by decide), if_neg (by decide)]
  by_cases h : x.1 < y.1
  · rw [if_pos (by simpa using h), Option.bind_some]
    exact ⟨-1, rfl, by rw [decide_eq_true h]; rfl⟩
  · rw [if_neg (by simpa using h), decide_eq_false h]
    by_cases h2 : x.1 > y.1
    · rw [if_pos (by simpa using h2), Option.bind_some]
      exact ⟨1, rfl, rfl⟩
    · rw [if_neg (by simpa using h2), Option.bind_some]
      exact ⟨0, rfl, rfl⟩

/-! ### Two ranges change places -/
theorem F80_loop (N : Nat) (P M S : List Bun) (n k a b : Nat) (hn : n ≤ 100000) : ∀ (A2 B2 A1 B1 : List Bun) (i f : Nat) (D : List Bun), D = P ++ (B1 ++ (A2 ++ (M ++ (A1 ++ (B2 ++ S))))) → D.length = n → P.length = a → A1.length = i → B1.length = i → A2.length = B2.length → i + A2.length = k → a + k + M.length = b → A2.length < f →
    F80a_6 N f ((i : Int), (k : Int), (b : Int), 0, n, (a : Int), D) = some (P ++ (B1 ++ (B2 ++ (M ++ (A1 ++ (A2 ++ S)))))) := by
  intro A2
  induction A2 with
  | nil =>
    intro B2 A1 B1 i f D hD hlen hP hA1 hB1 hAB hk hb hf
    cases f with
    | zero => omega
    | succ f =>
      have : B2 = [] := List.eq_nil_of_length_eq_zero (by simpa using hAB.symm)
      subst this
      simp only [List.length_nil, Nat.add_zero] at hk
      simp only [F80a_6, B80a_6, iteP_eq]
      rw [if_neg (by simp only [decide_eq_true_eq]; omega), hD]
  | cons x A2 ih =>
    intro B2 A1 B1 i f D hD hlen hP hA1 hB1 hAB hk hb hf
    cases f with
    | zero => omega
    | succ f =>
      cases B2 with
      | nil => simp at hAB
      | cons y B2 =>
        simp only [List.length_cons] at hAB hk hf
        have hlen' : a + i + (A2.length + 1) + M.length + i + (B2.length + 1) + S.length = n := by
          rw [← hlen, hD]; simp only [List.length_append, List.length_cons]; omega
        have e1 : D = (P ++ B1) ++ x :: (A2 ++ (M ++ (A1 ++ (y :: B2 ++ S)))) := by rw [hD]; simp
        have e2 : D = (P ++ (B1 ++ (x :: A2 ++ (M ++ A1)))) ++ y :: (B2 ++ S) := by rw [hD]; simp
        have i1 : IntKind.wrap .i64 ((a : Int) + (i : Int)) = ((a + i : Nat) : Int) := by rw [wrap_i64 (by omega) (by omega)]; omega
        have i2 : IntKind.wrap .i64 ((b : Int) + (i : Int)) = ((b + i : Nat) : Int) := by rw [wrap_i64 (by omega) (by omega)]; omega
        have i3 : IntKind.wrap .i64 ((i : Int) + 1) = ((i + 1 : Nat) : Int) := by rw [wrap_i64 (by omega) (by omega)]; omega
        have l1 : a + i = (P ++ B1).length := by rw [List.length_append]; omega
        have l2 : b + i = (P ++ (B1 ++ (x :: A2 ++ (M ++ A1)))).length := by simp only [List.length_append, List.length_cons]; omega
        have s1 := set_mid e1 l1 y
        have e3 : D.set (a + i) y = (P ++ (B1 ++ (y :: A2 ++ (M ++ A1)))) ++ y :: (B2 ++ S) := by rw [s1]; simp
        have l3 : b + i = (P ++ (B1 ++ (y :: A2 ++ (M ++ A1)))).length := by simp only [List.length_append, List.length_cons]; omega
        simp only [F80a_6, B80a_6, iteP_eq]
        rw [if_pos (by simp only [decide_eq_true_eq]; omega)]
        simp only [i1, i2, i3, wi (show a + i < n by omega), wi (show b + i < n by omega), if_true, Int.toNat_natCast, Nat.zero_add, at_mid e1 l1, at_mid e2 l2, Option.bind_some, eta]
        rw [at_mid e3 l3, Option.bind_some, set_mid e3 l3 x]
        rw [ih B2 (A1 ++ [x]) (B1 ++ [y]) (i + 1) f _ (by simp) (by simp only [List.length_append, List.length_cons]; omega) hP (by simp [hA1]) (by simp [hB1]) (by omega) (by omega) hb (by omega)]
        simp

theorem F80_swap {N : Nat} (P A M B S : List Bun) (hAB : A.length = B.length) (hN : A.length < N) (n a b : Nat) (hn : n ≤ 100000) (hlen : (P ++ (A ++ (M ++ (B ++ S)))).length = n) (ha : P.length = a) (hb : a + A.length + M.length = b) :
    F80a N (0, n, (a : Int), (b : Int), (A.length : Int), P ++ (A ++ (M ++ (B ++ S)))) = some (P ++ (B ++ (M ++ (A ++ S)))) := by
  simp only [F80a, iteP_eq]
  have := F80_loop N P M S n A.length a b hn A B [] [] 0 N _ rfl (by simpa using hlen) ha rfl rfl hAB (by omega) hb hN
  simp only [List.nil_append] at this
  rw [show ((0 : Nat) : Int) = 0 from rfl] at this
  rw [this, Option.bind_some]

/-! ### Sorted by insertion -/
theorem insR_spec (x : Bun) : ∀ (A1 A2 : List Bun), (∀ y ∈ A1, y.1 ≤ x.1) → (∀ y ∈ A2, x.1 < y.1) → insR x (A1 ++ A2) = A1 ++ x :: A2
  | [], [], _, _ => rfl
  | [], y :: A2, _, h => by rw [List.nil_append, insR, if_pos (h y (List.mem_cons_self ..))]; rfl
  | y :: A1, A2, h1, h2 => by
    rw [List.cons_append, insR, if_neg (by have := h1 y (List.mem_cons_self ..); omega), insR_spec x A1 A2 (fun z hz => h1 z (List.mem_cons_of_mem _ hz)) h2]
    rfl

theorem snoc_ind {α : Type} {motive : List α → Prop} (h0 : motive []) (h1 : ∀ l b, motive l → motive (l ++ [b])) (l : List α) : motive l := by
  have key : ∀ m : List α, motive m.reverse := fun m => by
    induction m with
    | nil => exact h0
    | cons b m ih => rw [List.reverse_cons]; exact h1 _ _ ih
  have := key l.reverse
  rwa [List.reverse_reverse] at this

theorem F76_inner (N : Nat) (P S : List Bun) (x : Bun) (n a : Nat) (hn : n ≤ 100000) (ha : P.length = a) (x2 x3 : Int) (A1 : List Bun) : ∀ (A2 : List Bun) (f : Nat) (D : List Bun), D = P ++ (A1 ++ (x :: (A2 ++ S))) → D.length = n → Srt (A1 ++ A2) → (∀ y ∈ A2, x.1 < y.1) → A1.length < f →
    F76a_402 N f (((a + A1.length : Nat) : Int), (a : Int), x2, x3, 0, n, D) = some (x3, x2, (a : Int), 0, n, P ++ (insR x (A1 ++ A2) ++ S)) := by
  refine snoc_ind (motive := fun A1 => ∀ (A2 : List Bun) (f : Nat) (D : List Bun), D = P ++ (A1 ++ (x :: (A2 ++ S))) → D.length = n → Srt (A1 ++ A2) → (∀ y ∈ A2, x.1 < y.1) → A1.length < f →
    F76a_402 N f (((a + A1.length : Nat) : Int), (a : Int), x2, x3, 0, n, D) = some (x3, x2, (a : Int), 0, n, P ++ (insR x (A1 ++ A2) ++ S))) ?_ (fun A1 y ih => ?_) A1
  · intro A2 f D hD hlen hs hA2 hf
    cases f with
    | zero => omega
    | succ f =>
      simp only [F76a_402, B76a_402, iteP_eq]
      rw [if_neg (by simp), insR_spec x [] A2 (fun _ h => by cases h) hA2, hD]
      simp
  · intro A2 f D hD hlen hs hA2 hf
    cases f with
    | zero => omega
    | succ f =>
      simp only [List.length_append, List.length_singleton] at hf ⊢
      have hlen' : a + A1.length + 1 + 1 + A2.length + S.length = n := by
        rw [← hlen, hD]; simp only [List.length_append, List.length_cons, List.length_nil]; omega
      have e1 : D = (P ++ (A1 ++ [y])) ++ x :: (A2 ++ S) := by rw [hD]; simp
      have e2 : D = (P ++ A1) ++ y :: (x :: (A2 ++ S)) := by rw [hD]; simp
      have l1 : a + (A1.length + 1) = (P ++ (A1 ++ [y])).length := by simp only [List.length_append, List.length_singleton]; omega
      have l2 : a + A1.length = (P ++ A1).length := by rw [List.length_append]; omega
      have i1 : IntKind.wrap .i64 (((a + (A1.length + 1) : Nat) : Int) - 1) = ((a + A1.length : Nat) : Int) := by rw [wrap_i64 (by omega) (by omega)]; omega
      obtain ⟨c, c1, c2⟩ := F56_cmp N x y
      simp only [F76a_402, B76a_402, iteP_eq]
      rw [if_pos (by simp only [decide_eq_true_eq]; omega)]
      simp only [i1, wi (show a + (A1.length + 1) < n by omega), wi (show a + A1.length < n by omega), if_true, Int.toNat_natCast, Nat.zero_add, at_mid e1 l1, at_mid e2 l2, Option.bind_some, c1, c2, eta]
      by_cases hxy : x.1 < y.1
      · rw [if_pos (by simpa using hxy)]
        have s1 := set_mid e1 l1 y
        have e3 : D.set (a + (A1.length + 1)) y = (P ++ A1) ++ y :: (y :: (A2 ++ S)) := by rw [s1]; simp
        rw [at_mid e3 l2, Option.bind_some, set_mid e3 l2 x]
        have hs' : Srt (A1 ++ (y :: A2)) := by
          have e : A1 ++ [y] ++ A2 = A1 ++ (y :: A2) := by simp
          rw [e] at hs; exact hs
        rw [ih (y :: A2) f _ (by simp) (by simp only [List.length_append, List.length_cons]; omega) hs' (fun z hz => by
          rcases List.mem_cons.1 hz with rfl | hz
          · exact hxy
          · exact hA2 z hz) (by omega)]
        simp
      · rw [if_neg (by simpa using hxy), hD]
        rw [insR_spec x (A1 ++ [y]) A2 (fun z hz => ?_) hA2]
        · simp
        · rcases List.mem_append.1 hz with hz | hz
          · have hp := List.pairwise_append.1 hs
            have := (List.pairwise_append.1 hp.1).2.2 z hz y (List.mem_singleton_self _)
            omega
          · rw [List.mem_singleton.1 hz]; omega

theorem F76_outer (N : Nat) (P S : List Bun) (n a b : Nat) (hn : n ≤ 100000) (hN : 100000 < N) (ha : P.length = a) : ∀ (M2 M1 : List Bun) (f : Nat) (D : List Bun), D = P ++ (isort M1 ++ (M2 ++ S)) → D.length = n → a + M1.length + M2.length = b → 0 < M1.length → M2.length < f →
    F76a_6 N f ((b : Int), (a : Int), ((a + M1.length : Nat) : Int), 0, n, D) = some (P ++ (isort (M1 ++ M2) ++ S)) := by
  intro M2
  induction M2 with
  | nil =>
    intro M1 f D hD hlen hb h0 hf
    cases f with
    | zero => omega
    | succ f =>
      simp only [List.length_nil] at hb
      simp only [F76a_6, B76a_6, iteP_eq]
      rw [if_neg (by simp only [decide_eq_true_eq]; omega), hD]
      simp
  | cons x M2 ih =>
    intro M1 f D hD hlen hb h0 hf
    cases f with
    | zero => omega
    | succ f =>
      simp only [List.length_cons] at hb hf
      have hl1 := isort_len M1
      have hlen' : a + M1.length + (M2.length + 1) + S.length = n := by
        rw [← hlen, hD]; simp only [List.length_append, List.length_cons]; omega
      simp only [F76a_6, B76a_6, iteP_eq]
      rw [if_pos (by simp only [decide_eq_true_eq]; omega)]
      have hin := F76_inner N P (M2 ++ S) x n a hn ha (b : Int) ((a + M1.length : Nat) : Int) (isort M1) [] N D (by rw [hD]; simp) hlen (by rw [List.append_nil]; exact isort_srt M1) (fun _ h => by cases h) (by omega)
      rw [hl1, List.append_nil, ← isort_snoc] at hin
      have i3 : IntKind.wrap .i64 (((a + M1.length : Nat) : Int) + 1) = ((a + (M1 ++ [x]).length : Nat) : Int) := by rw [wrap_i64 (by omega) (by omega), List.length_append, List.length_singleton]; omega
      rw [hin, Option.bind_some]
      simp only
      rw [i3, ih (M1 ++ [x]) f _ rfl (by simp only [List.length_append, isort_len, List.length_singleton]; omega) (by rw [List.length_append, List.length_singleton]; omega) (by rw [List.length_append, List.length_singleton]; omega) (by omega)]
      simp

/-- A range is sorted. -/
theorem F76_sort {N : Nat} (hN : 100000 < N) (P M S : List Bun) (n a b : Nat) (hn : n ≤ 100000) (hlen : (P ++ (M ++ S)).length = n) (ha : P.length = a) (hb : a + M.length = b) :
    F76a N (0, n, (a : Int), (b : Int), P ++ (M ++ S)) = some (P ++ (isort M ++ S)) := by
  have hl : a + M.length + S.length = n := by rw [← hlen]; simp only [List.length_append]; omega
  simp only [F76a, iteP_eq]
  have i1 : IntKind.wrap .i64 ((a : Int) + 1) = ((a + 1 : Nat) : Int) := by rw [wrap_i64 (by omega) (by omega)]; omega
  rw [i1]
  cases M with
  | nil =>
    have key : ∀ f, F76a_6 N (f + 1) ((b : Int), (a : Int), ((a + 1 : Nat) : Int), 0, n, P ++ ([] ++ S)) = some (P ++ ([] ++ S)) := fun f => by
      simp only [List.length_nil] at hb
      simp only [F76a_6, B76a_6, iteP_eq]
      rw [if_neg (by simp only [decide_eq_true_eq]; omega)]
    obtain ⟨f, rfl⟩ : ∃ f, N = f + 1 := ⟨N - 1, by omega⟩
    rw [key f, Option.bind_some]
    rfl
  | cons x M =>
    simp only [List.length_cons] at hb hl
    have := F76_outer N P S n a b hn hN ha M [x] N (P ++ (x :: M ++ S)) (by simp [isort, insB]) hlen (by rw [List.length_singleton]; omega) (by simp) (by omega)
    rw [List.length_singleton] at this
    rw [this, Option.bind_some]
    rfl

/-! ### Two parts change places -/
theorem F79_loop (N : Nat) (n : Nat) (hn : n ≤ 100000) (hN : 100000 < N) : ∀ (t : Nat) (P U V S : List Bun) (m f : Nat) (D : List Bun), U.length + V.length ≤ t → D = P ++ (U ++ (V ++ S)) → D.length = n → 0 < U.length → 0 < V.length → P.length + U.length = m → t < f →
    ∃ (i : Nat) (D' : List Bun), F79a_28 N f ((U.length : Int), 0, n, (m : Int), (V.length : Int), D) = some (0, n, (m : Int), (i : Int), D') ∧ F80a N (0, n, IntKind.wrap .i64 ((m : Int) - (i : Int)), (m : Int), (i : Int), D') = some (P ++ (V ++ (U ++ S))) := by
  intro t
  induction t with
  | zero => intro P U V S m f D ht _ _ hU _ _ _; omega
  | succ t ih =>
    intro P U V S m f D ht hD hlen hU hV hm hf
    cases f with
    | zero => omega
    | succ f =>
      have hl : P.length + U.length + V.length + S.length = n := by rw [← hlen, hD]; simp only [List.length_append]; omega
      have i1 : IntKind.wrap .i64 ((m : Int) - (U.length : Int)) = ((m - U.length : Nat) : Int) := by rw [wrap_i64 (by omega) (by omega)]; omega
      simp only [F79a_28, B79a_28, iteP_eq]
      by_cases he : U.length = V.length
      · rw [if_neg (by simp [he])]
        refine ⟨U.length, D, rfl, ?_⟩
        rw [i1, hD]
        have := F80_swap (N := N) P U [] V S he (by omega) n (m - U.length) m hn (by rw [← hlen, hD]; simp) (by omega) (by simp; omega)
        simpa using this
      · rw [if_pos (by simp; omega)]
        by_cases hgt : U.length > V.length
        · rw [if_pos (by simpa using hgt)]
          -- the first part is longer
          have hsw := F80_swap (N := N) P (U.take V.length) (U.drop V.length) V S (by rw [List.length_take]; omega) (by rw [List.length_take]; omega) n (m - U.length) m hn (by
            rw [← hlen, hD, ← List.append_assoc (U.take V.length), List.take_append_drop]) (by omega) (by rw [List.length_take, List.length_drop]; omega)
          rw [List.length_take, Nat.min_eq_left (by omega), ← List.append_assoc (U.take V.length), List.take_append_drop, ← hD] at hsw
          rw [i1, hsw, Option.bind_some]
          have i2 : IntKind.wrap .i64 ((U.length : Int) - (V.length : Int)) = ((U.drop V.length).length : Int) := by rw [wrap_i64 (by omega) (by omega), List.length_drop]; omega
          have hlV : (U.take V.length).length = V.length := by rw [List.length_take]; omega
          obtain ⟨i, D', g1, g2⟩ := ih (P ++ V) (U.drop V.length) (U.take V.length) S m f (P ++ (V ++ (U.drop V.length ++ (U.take V.length ++ S)))) (by rw [List.length_drop, List.length_take]; omega) (by simp) (by simp only [List.length_append, List.length_drop, List.length_take]; omega) (by rw [List.length_drop]; omega) (by omega) (by rw [List.length_append, List.length_drop]; omega) (by omega)
          rw [hlV] at g1
          refine ⟨i, D', by rw [i2, g1]; rfl, ?_⟩
          rw [g2, ← List.append_assoc (U.take V.length), List.take_append_drop]
          simp
        · rw [if_neg (by simpa using hgt)]
          have hsw := F80_swap (N := N) P U (V.take (V.length - U.length)) (V.drop (V.length - U.length)) S (by rw [List.length_drop]; omega) (by omega) n (m - U.length) (m + V.length - U.length) hn (by
            rw [← hlen, hD]; simp only [List.length_append, List.length_take, List.length_drop]; omega) (by omega) (by rw [List.length_take]; omega)
          have e1 : P ++ (U ++ (V.take (V.length - U.length) ++ (V.drop (V.length - U.length) ++ S))) = D := by
            rw [hD, ← List.append_assoc (V.take _), List.take_append_drop]
          rw [e1] at hsw
          have i3 : IntKind.wrap .i64 (IntKind.wrap .i64 ((m : Int) + (V.length : Int)) - (U.length : Int)) = ((m + V.length - U.length : Nat) : Int) := by
            rw [wrap_i64 (z := (m : Int) + (V.length : Int)) (by omega) (by omega), wrap_i64 (by omega) (by omega)]; omega
          rw [i1, i3, hsw, Option.bind_some]
          have hlD : (V.drop (V.length - U.length)).length = U.length := by rw [List.length_drop]; omega
          have hlT : (V.take (V.length - U.length)).length = V.length - U.length := by rw [List.length_take]; omega
          have i2 : IntKind.wrap .i64 ((V.length : Int) - (U.length : Int)) = ((V.take (V.length - U.length)).length : Int) := by rw [wrap_i64 (by omega) (by omega), hlT]; omega
          obtain ⟨i, D', g1, g2⟩ := ih P (V.drop (V.length - U.length)) (V.take (V.length - U.length)) (U ++ S) m f (P ++ (V.drop (V.length - U.length) ++ (V.take (V.length - U.length) ++ (U ++ S)))) (by omega) rfl (by simp only [List.length_append]; omega) (by omega) (by omega) (by omega) (by omega)
          rw [hlD] at g1
          refine ⟨i, D', by rw [i2, g1]; rfl, ?_⟩
          rw [g2, ← List.append_assoc (V.take _), List.take_append_drop]

theorem F79_rotate {N : Nat} (hN : 100000 < N) (P U V S : List Bun) (n a m b : Nat) (hn : n ≤ 100000) (hlen : (P ++ (U ++ (V ++ S))).length = n) (hU : 0 < U.length) (hV : 0 < V.length) (ha : P.length = a) (hm : a + U.length = m) (hb : m + V.length = b) :
    F79a N (0, n, (a : Int), (m : Int), (b : Int), P ++ (U ++ (V ++ S))) = some (P ++ (V ++ (U ++ S))) := by
  have hl : P.length + U.length + V.length + S.length = n := by rw [← hlen]; simp only [List.length_append]; omega
  obtain ⟨i, D', g1, g2⟩ := F79_loop N n hn hN (U.length + V.length) P U V S m N _ (Nat.le_refl _) rfl hlen hU hV (by omega) (by omega)
  simp only [F79a, iteP_eq]
  have i1 : IntKind.wrap .i64 ((m : Int) - (a : Int)) = (U.length : Int) := by rw [wrap_i64 (by omega) (by omega)]; omega
  have i2 : IntKind.wrap .i64 ((b : Int) - (m : Int)) = (V.length : Int) := by rw [wrap_i64 (by omega) (by omega)]; omega
  rw [i1, i2, g1, Option.bind_some]
  simp only
  rw [g2, Option.bind_some]
end Go.Proofs.Ytpjkklailofkjaa.Am

namespace Go.Proofs.Ytpjkklailofkjaa.Am
open Go.Am
set_option linter.unusedSimpArgs false
set_option linter.unusedVariables false

abbrev GT := (Nat × Nat × Int × Int × Int × List Bun) → Option (List Bun)

/-- The weight at a place. -/
def wt (D : List Bun) (c : Nat) : Int := (D.getD c (0, [], ())).1
theorem at_wt {D : List Bun} {c : Nat} (h : c < D.length) : D[c]? = some (D.getD c (0, [], ())) := by
  rw [List.getD, List.getElem?_eq_getElem h]; rfl
theorem wt_get {D : List Bun} {c : Nat} (h : c < D.length) : wt D c = D[c].1 := by
  unfold wt; rw [List.getD, List.getElem?_eq_getElem h]; rfl
theorem wt_mid (P X R : List Bun) {a i : Nat} (ha : P.length = a) (hi : i < X.length) : wt (P ++ (X ++ R)) (a + i) = wt X i := by
  subst ha
  unfold wt
  rw [List.getD, List.getD, List.getElem?_append_right (by omega), Nat.add_sub_cancel_left, List.getElem?_append_left hi]
theorem wt_mono {X : List Bun} (h : Srt X) {i j : Nat} (hij : i ≤ j) (hj : j < X.length) : wt X i ≤ wt X j := by
  rw [wt_get hj, wt_get (by omega)]
  by_cases e : i = j
  · subst e; exact Int.le_refl _
  · exact List.pairwise_iff_getElem.1 h i j (by omega) hj (by omega)

theorem mid_eq {i j : Nat} (h : i + j ≤ 1000000) : IntKind.wrap .i64 (Int.fdiv (IntKind.wrap .u64 (IntKind.wrap .i64 ((i : Int) + (j : Int)))) 2) = (((i + j) / 2 : Nat) : Int) := by
  rw [wrap_i64 (z := (i : Int) + j) (by omega) (by omega), wrap_u64, Int.emod_eq_of_lt (by omega) (by omega), Int.fdiv_eq_ediv_of_nonneg _ (by decide), wrap_i64 (by omega) (by omega)]
  omega

/-! ### Where something belongs -/
theorem F77_172_find (N : Nat) (G : GT) (n a : Nat) (hn : n ≤ 100000) (D : List Bun) (hD : D.length = n) (ha : a < n) (i0 j0 : Nat) (hj0 : j0 ≤ n) (hmono : ∀ c d, i0 ≤ c → c ≤ d → d < j0 → wt D c ≤ wt D d) :
    ∀ (t i j f : Nat), j - i ≤ t → t < f → i0 ≤ i → i ≤ j → j ≤ j0 → (∀ c, i0 ≤ c → c < i → wt D c < wt D a) → (∀ c, j ≤ c → c < j0 → wt D a ≤ wt D c) →
    ∃ s : Nat, F77a_172 N G f ((i : Int), (j : Int), 0, n, (a : Int), D) = some ((a : Int), (s : Int), 0, n, D) ∧ i0 ≤ s ∧ s ≤ j0 ∧ (∀ c, i0 ≤ c → c < s → wt D c < wt D a) ∧ (∀ c, s ≤ c → c < j0 → wt D a ≤ wt D c) := by
  intro t
  induction t with
  | zero =>
    intro i j f ht hf h1 h2 h3 hlo hhi
    cases f with
    | zero => omega
    | succ f =>
      simp only [F77a_172, B77a_172, iteP_eq]
      rw [if_neg (by simp only [decide_eq_true_eq]; omega)]
      exact ⟨i, rfl, h1, by omega, hlo, fun c hc => hhi c (by omega)⟩
  | succ t ih =>
    intro i j f ht hf h1 h2 h3 hlo hhi
    cases f with
    | zero => omega
    | succ f =>
      simp only [F77a_172, B77a_172, iteP_eq]
      by_cases hij : i < j
      · have hm := mid_eq (i := i) (j := j) (by omega)
        have hh : (i + j) / 2 < n := by omega
        rw [if_pos (by simp only [decide_eq_true_eq]; omega), hm]
        have i3 : IntKind.wrap .i64 ((((i + j) / 2 : Nat) : Int) + 1) = (((i + j) / 2 + 1 : Nat) : Int) := by rw [wrap_i64 (by omega) (by omega)]; omega
        obtain ⟨c, c1, c2⟩ := F56_cmp N (D.getD ((i + j) / 2) (0, [], ())) (D.getD a (0, [], ()))
        simp only [wi hh, wi ha, if_true, Int.toNat_natCast, Nat.zero_add, at_wt (show (i + j) / 2 < D.length by omega), at_wt (show a < D.length by omega), Option.bind_some, c1, c2, i3]
        by_cases hlt : wt D ((i + j) / 2) < wt D a
        · rw [if_pos (by simpa [wt] using hlt)]
          obtain ⟨s, g1, g2⟩ := ih ((i + j) / 2 + 1) j f (by omega) (by omega) (by omega) (by omega) h3 (fun c hc1 hc2 => by
            have := hmono c ((i + j) / 2) hc1 (by omega) (by omega)
            omega) hhi
          exact ⟨s, by rw [g1]; rfl, g2⟩
        · rw [if_neg (by simpa [wt] using hlt)]
          obtain ⟨s, g1, g2⟩ := ih i ((i + j) / 2) f (by omega) (by omega) h1 (by omega) (by omega) hlo (fun c hc1 hc2 => by
            have := hmono ((i + j) / 2) c (by omega) hc1 hc2
            omega)
          exact ⟨s, by rw [g1]; rfl, g2⟩
      · rw [if_neg (by simp only [decide_eq_true_eq]; omega)]
        exact ⟨i, rfl, h1, by omega, hlo, fun c hc => hhi c (by omega)⟩

theorem F77_428_find (N : Nat) (G : GT) (n a : Nat) (hn : n ≤ 100000) (D : List Bun) (hD : D.length = n) (ha : a < n) (i0 j0 : Nat) (hj0 : j0 ≤ n) (hmono : ∀ c d, i0 ≤ c → c ≤ d → d < j0 → wt D c ≤ wt D d) :
    ∀ (t i j f : Nat), j - i ≤ t → t < f → i0 ≤ i → i ≤ j → j ≤ j0 → (∀ c, i0 ≤ c → c < i → wt D c ≤ wt D a) → (∀ c, j ≤ c → c < j0 → wt D a < wt D c) →
    ∃ s : Nat, F77a_428 N G f ((i : Int), (j : Int), (a : Int), 0, n, D) = some ((a : Int), (s : Int), 0, n, D) ∧ i0 ≤ s ∧ s ≤ j0 ∧ (∀ c, i0 ≤ c → c < s → wt D c ≤ wt D a) ∧ (∀ c, s ≤ c → c < j0 → wt D a < wt D c) := by
  intro t
  induction t with
  | zero =>
    intro i j f ht hf h1 h2 h3 hlo hhi
    cases f with
    | zero => omega
    | succ f =>
      simp only [F77a_428, B77a_428, iteP_eq]
      rw [if_neg (by simp only [decide_eq_true_eq]; omega)]
      exact ⟨i, rfl, h1, by omega, hlo, fun c hc => hhi c (by omega)⟩
  | succ t ih =>
    intro i j f ht hf h1 h2 h3 hlo hhi
    cases f with
    | zero => omega
    | succ f =>
      simp only [F77a_428, B77a_428, iteP_eq]
      by_cases hij : i < j
      · have hm := mid_eq (i := i) (j := j) (by omega)
        have hh : (i + j) / 2 < n := by omega
        rw [if_pos (by simp only [decide_eq_true_eq]; omega), hm]
        have i3 : IntKind.wrap .i64 ((((i + j) / 2 : Nat) : Int) + 1) = (((i + j) / 2 + 1 : Nat) : Int) := by rw [wrap_i64 (by omega) (by omega)]; omega
        obtain ⟨c, c1, c2⟩ := F56_cmp N (D.getD a (0, [], ())) (D.getD ((i + j) / 2) (0, [], ()))
        simp only [wi hh, wi ha, if_true, Int.toNat_natCast, Nat.zero_add, at_wt (show (i + j) / 2 < D.length by omega), at_wt (show a < D.length by omega), Option.bind_some, c1, c2, i3]
        by_cases hlt : wt D a < wt D ((i + j) / 2)
        · have hlt' : decide ((D.getD a (0, [], ())).1 < (D.getD ((i + j) / 2) (0, [], ())).1) = true := by simpa [wt] using hlt
          rw [hlt', if_neg (by decide)]
          obtain ⟨s, g1, g2⟩ := ih i ((i + j) / 2) f (by omega) (by omega) h1 (by omega) (by omega) hlo (fun c hc1 hc2 => by
            have := hmono ((i + j) / 2) c (by omega) hc1 hc2
            omega)
          exact ⟨s, by rw [g1]; rfl, g2⟩
        · have hlt' : decide ((D.getD a (0, [], ())).1 < (D.getD ((i + j) / 2) (0, [], ())).1) = false := by simpa [wt] using hlt
          rw [hlt', if_pos (by decide)]
          obtain ⟨s, g1, g2⟩ := ih ((i + j) / 2 + 1) j f (by omega) (by omega) (by omega) (by omega) h3 (fun c hc1 hc2 => by
            have := hmono c ((i + j) / 2) hc1 (by omega) (by omega)
            omega) hhi
          exact ⟨s, by rw [g1]; rfl, g2⟩
      · rw [if_neg (by simp only [decide_eq_true_eq]; omega)]
        exact ⟨i, rfl, h1, by omega, hlo, fun c hc => hhi c (by omega)⟩

/-! ### One is moved -/
theorem F77_698_up (N : Nat) (G : GT) (n : Nat) (hn : n ≤ 100000) (P R : List Bun) (x : Bun) (s : Nat) : ∀ (Z2 Z1 : List Bun) (f : Nat) (D : List Bun), D = P ++ (Z1 ++ (x :: (Z2 ++ R))) → D.length = n → P.length + Z1.length + Z2.length + 1 = s → Z2.length < f →
    F77a_698 N G f (((P.length + Z1.length : Nat) : Int), (s : Int), 0, n, D) = some (P ++ (Z1 ++ (Z2 ++ (x :: R)))) := by
  intro Z2
  induction Z2 with
  | nil =>
    intro Z1 f D hD hlen hs hf
    cases f with
    | zero => omega
    | succ f =>
      have hl : P.length + Z1.length + 1 + R.length = n := by rw [← hlen, hD]; simp only [List.length_append, List.length_cons, List.length_nil]; omega
      simp only [List.length_nil] at hs
      simp only [F77a_698, B77a_698, iteP_eq]
      rw [wrap_i64 (z := (s : Int) - 1) (by omega) (by omega), if_neg (by simp only [decide_eq_true_eq]; omega), hD]
      rfl
  | cons y Z2 ih =>
    intro Z1 f D hD hlen hs hf
    cases f with
    | zero => omega
    | succ f =>
      simp only [List.length_cons] at hs hf
      have hl : P.length + Z1.length + 1 + (Z2.length + 1) + R.length = n := by rw [← hlen, hD]; simp only [List.length_append, List.length_cons]; omega
      have e1 : D = (P ++ Z1) ++ x :: (y :: (Z2 ++ R)) := by rw [hD]; simp
      have e2 : D = (P ++ (Z1 ++ [x])) ++ y :: (Z2 ++ R) := by rw [hD]; simp
      have l1 : P.length + Z1.length = (P ++ Z1).length := by rw [List.length_append]
      have l2 : P.length + Z1.length + 1 = (P ++ (Z1 ++ [x])).length := by simp only [List.length_append, List.length_singleton]; omega
      have s1 := set_mid e1 l1 y
      have e3 : D.set (P.length + Z1.length) y = (P ++ (Z1 ++ [y])) ++ y :: (Z2 ++ R) := by rw [s1]; simp
      have l3 : P.length + Z1.length + 1 = (P ++ (Z1 ++ [y])).length := by simp only [List.length_append, List.length_singleton]; omega
      have i3 : IntKind.wrap .i64 (((P.length + Z1.length : Nat) : Int) + 1) = ((P.length + Z1.length + 1 : Nat) : Int) := by rw [wrap_i64 (by omega) (by omega)]; omega
      simp only [F77a_698, B77a_698, iteP_eq]
      rw [wrap_i64 (z := (s : Int) - 1) (by omega) (by omega), if_pos (by simp only [decide_eq_true_eq]; omega)]
      simp only [i3, wi (show P.length + Z1.length < n by omega), wi (show P.length + Z1.length + 1 < n by omega), if_true, Int.toNat_natCast, Nat.zero_add, at_mid e1 l1, at_mid e2 l2, Option.bind_some, eta]
      rw [at_mid e3 l3, Option.bind_some, set_mid e3 l3 x]
      have := ih (Z1 ++ [y]) f ((P ++ (Z1 ++ [y])) ++ x :: (Z2 ++ R)) (by simp) (by simp only [List.length_append, List.length_cons, List.length_nil]; omega) (by rw [List.length_append, List.length_singleton]; omega) (by omega)
      rw [List.length_append, List.length_singleton, ← Nat.add_assoc] at this
      rw [this]
      simp

theorem F77_1722_down (N : Nat) (G : GT) (n : Nat) (hn : n ≤ 100000) (P S : List Bun) (y : Bun) (Z1 : List Bun) : ∀ (Z2 : List Bun) (f : Nat) (D : List Bun), D = P ++ (Z1 ++ (y :: (Z2 ++ S))) → D.length = n → Z1.length < f →
    F77a_1722 N G f (((P.length + Z1.length : Nat) : Int), (P.length : Int), 0, n, D) = some (P ++ (y :: (Z1 ++ (Z2 ++ S)))) := by
  refine snoc_ind (motive := fun Z1 => ∀ (Z2 : List Bun) (f : Nat) (D : List Bun), D = P ++ (Z1 ++ (y :: (Z2 ++ S))) → D.length = n → Z1.length < f →
    F77a_1722 N G f (((P.length + Z1.length : Nat) : Int), (P.length : Int), 0, n, D) = some (P ++ (y :: (Z1 ++ (Z2 ++ S))))) ?_ (fun Z1 x ih => ?_) Z1
  · intro Z2 f D hD hlen hf
    cases f with
    | zero => omega
    | succ f =>
      simp only [F77a_1722, B77a_1722, iteP_eq]
      rw [if_neg (by simp), hD]
      rfl
  · intro Z2 f D hD hlen hf
    cases f with
    | zero => omega
    | succ f =>
      simp only [List.length_append, List.length_singleton] at hf ⊢
      have hl : P.length + (Z1.length + 1) + 1 + Z2.length + S.length = n := by rw [← hlen, hD]; simp only [List.length_append, List.length_cons, List.length_nil]; omega
      have e1 : D = (P ++ (Z1 ++ [x])) ++ y :: (Z2 ++ S) := by rw [hD]; simp
      have e2 : D = (P ++ Z1) ++ x :: (y :: (Z2 ++ S)) := by rw [hD]; simp
      have l1 : P.length + (Z1.length + 1) = (P ++ (Z1 ++ [x])).length := by simp only [List.length_append, List.length_singleton]
      have l2 : P.length + Z1.length = (P ++ Z1).length := by rw [List.length_append]
      have s1 := set_mid e1 l1 x
      have e3 : D.set (P.length + (Z1.length + 1)) x = (P ++ Z1) ++ x :: (x :: (Z2 ++ S)) := by rw [s1]; simp
      have i3 : IntKind.wrap .i64 (((P.length + (Z1.length + 1) : Nat) : Int) - 1) = ((P.length + Z1.length : Nat) : Int) := by rw [wrap_i64 (by omega) (by omega)]; omega
      simp only [F77a_1722, B77a_1722, iteP_eq]
      rw [if_pos (by simp only [decide_eq_true_eq]; omega)]
      simp only [i3, wi (show P.length + Z1.length < n by omega), wi (show P.length + (Z1.length + 1) < n by omega), if_true, Int.toNat_natCast, Nat.zero_add, at_mid e1 l1, at_mid e2 l2, Option.bind_some, eta]
      rw [at_mid e3 l2, Option.bind_some, set_mid e3 l2 y]
      rw [ih (x :: Z2) f _ (by simp) (by simp only [List.length_append, List.length_cons]; omega) (by omega)]
      simp

/-! ### Where both are cut -/
theorem F77_1020_find (N : Nat) (G : GT) (n : Nat) (hn : n ≤ 100000) (D : List Bun) (hD : D.length = n) (p i0 j0 : Nat) (x1 x2 x3 x4 x5 : Int) (hj0 : j0 ≤ n) (hp : ∀ c, i0 ≤ c → c < j0 → c ≤ p ∧ p - c < n) (hp2 : p ≤ 1000000)
    (hmono : ∀ c d, i0 ≤ c → c ≤ d → d < j0 → wt D c ≤ wt D d ∧ wt D (p - d) ≤ wt D (p - c)) :
    ∀ (t i j f : Nat), j - i ≤ t → t < f → i0 ≤ i → i ≤ j → j ≤ j0 → (∀ c, i0 ≤ c → c < i → wt D c ≤ wt D (p - c)) → (∀ c, j ≤ c → c < j0 → wt D (p - c) < wt D c) →
    ∃ s : Nat, F77a_1020 N G f ((i : Int), x1, x2, x3, x4, x5, (j : Int), (p : Int), 0, n, D) = some (x5, x4, x3, (s : Int), 0, n, x2, x1, D) ∧ i0 ≤ s ∧ s ≤ j0 ∧ (∀ c, i0 ≤ c → c < s → wt D c ≤ wt D (p - c)) ∧ (∀ c, s ≤ c → c < j0 → wt D (p - c) < wt D c) := by
  intro t
  induction t with
  | zero =>
    intro i j f ht hf h1 h2 h3 hlo hhi
    cases f with
    | zero => omega
    | succ f =>
      simp only [F77a_1020, B77a_1020, iteP_eq]
      rw [if_neg (by simp only [decide_eq_true_eq]; omega)]
      exact ⟨i, rfl, h1, by omega, hlo, fun c hc => hhi c (by omega)⟩
  | succ t ih =>
    intro i j f ht hf h1 h2 h3 hlo hhi
    cases f with
    | zero => omega
    | succ f =>
      simp only [F77a_1020, B77a_1020, iteP_eq]
      by_cases hij : i < j
      · have hm := mid_eq (i := i) (j := j) (by omega)
        obtain ⟨q1, q2⟩ := hp ((i + j) / 2) (by omega) (by omega)
        have hh : (i + j) / 2 < n := by omega
        rw [if_pos (by simp only [decide_eq_true_eq]; omega), hm]
        have i3 : IntKind.wrap .i64 ((((i + j) / 2 : Nat) : Int) + 1) = (((i + j) / 2 + 1 : Nat) : Int) := by rw [wrap_i64 (by omega) (by omega)]; omega
        have i4 : IntKind.wrap .i64 ((p : Int) - (((i + j) / 2 : Nat) : Int)) = ((p - (i + j) / 2 : Nat) : Int) := by rw [wrap_i64 (by omega) (by omega)]; omega
        obtain ⟨c, c1, c2⟩ := F56_cmp N (D.getD (p - (i + j) / 2) (0, [], ())) (D.getD ((i + j) / 2) (0, [], ()))
        simp only [i4, wi hh, wi q2, if_true, Int.toNat_natCast, Nat.zero_add, at_wt (show (i + j) / 2 < D.length by omega), at_wt (show p - (i + j) / 2 < D.length by omega), Option.bind_some, c1, c2, i3]
        by_cases hlt : wt D (p - (i + j) / 2) < wt D ((i + j) / 2)
        · have hlt' : decide ((D.getD (p - (i + j) / 2) (0, [], ())).1 < (D.getD ((i + j) / 2) (0, [], ())).1) = true := by simpa [wt] using hlt
          rw [hlt', if_neg (by decide)]
          obtain ⟨s, g1, g2⟩ := ih i ((i + j) / 2) f (by omega) (by omega) h1 (by omega) (by omega) hlo (fun c hc1 hc2 => by
            have := hmono ((i + j) / 2) c (by omega) hc1 hc2
            omega)
          exact ⟨s, by rw [g1]; rfl, g2⟩
        · have hlt' : decide ((D.getD (p - (i + j) / 2) (0, [], ())).1 < (D.getD ((i + j) / 2) (0, [], ())).1) = false := by simpa [wt] using hlt
          rw [hlt', if_pos (by decide)]
          obtain ⟨s, g1, g2⟩ := ih ((i + j) / 2 + 1) j f (by omega) (by omega) (by omega) (by omega) h3 (fun c hc1 hc2 => by
            have := hmono c ((i + j) / 2) hc1 (by omega) (by omega)
            omega) hhi
          exact ⟨s, by rw [g1]; rfl, g2⟩
      · rw [if_neg (by simp only [decide_eq_true_eq]; omega)]
        exact ⟨i, rfl, h1, by omega, hlo, fun c hc => hhi c (by omega)⟩

/-- What stands behind the search. -/
noncomputable def mergeT (N : Nat) (G : GT) (y : Int × Int × Int × Int × Nat × Nat × Int × Int × List Bun) : Option (List Bun) :=
  Option.bind (iteP (decide (y.2.2.2.1 < y.2.1)) (iteP (decide (y.2.1 < IntKind.wrap .i64 (y.1 - y.2.2.2.1))) (F79a N (y.2.2.2.2.1, y.2.2.2.2.2.1, y.2.2.2.1, y.2.1, IntKind.wrap .i64 (y.1 - y.2.2.2.1), y.2.2.2.2.2.2.2.2)) (some y.2.2.2.2.2.2.2.2)) (some y.2.2.2.2.2.2.2.2)) fun d1 =>
  Option.bind (iteP (decide (y.2.2.1 < y.2.2.2.1)) (iteP (decide (y.2.2.2.1 < y.2.2.2.2.2.2.1)) (G (y.2.2.2.2.1, y.2.2.2.2.2.1, y.2.2.1, y.2.2.2.1, y.2.2.2.2.2.2.1, d1)) (some d1)) (some d1)) fun d2 =>
  iteP (decide (y.2.2.2.2.2.2.1 < IntKind.wrap .i64 (y.1 - y.2.2.2.1))) (iteP (decide (IntKind.wrap .i64 (y.1 - y.2.2.2.1) < y.2.2.2.2.2.2.2.1)) (Option.bind (G (y.2.2.2.2.1, y.2.2.2.2.2.1, y.2.2.2.2.2.2.1, IntKind.wrap .i64 (y.1 - y.2.2.2.1), y.2.2.2.2.2.2.2.1, d2)) fun d3 => some d3) (some d2)) (some d2)

theorem F77ag_eq (N : Nat) (G : GT) (o len : Nat) (a m b : Int) (D : List Bun) : F77ag N G (o, len, a, m, b, D) =
    iteP (IntKind.wrap .i64 (m - a) == 1) (
      Option.bind (F77a_172 N G N (m, b, o, len, a, D)) fun y0 =>
      Option.bind (F77a_698 N G N (y0.1, y0.2.1, y0.2.2.1, y0.2.2.2.1, y0.2.2.2.2)) fun y1 => some y1) (
    iteP (IntKind.wrap .i64 (b - m) == 1) (
      Option.bind (F77a_428 N G N (a, m, m, o, len, D)) fun y2 =>
      Option.bind (F77a_1722 N G N (y2.1, y2.2.1, y2.2.2.1, y2.2.2.2.1, y2.2.2.2.2)) fun y3 => some y3) (
    iteP (decide (m > IntKind.wrap .i64 (Int.fdiv (IntKind.wrap .u64 (IntKind.wrap .i64 (a + b))) 2))) (
      Option.bind (F77a_1020 N G N (IntKind.wrap .i64 (IntKind.wrap .i64 (IntKind.wrap .i64 (Int.fdiv (IntKind.wrap .u64 (IntKind.wrap .i64 (a + b))) 2) + m) - b), b, IntKind.wrap .i64 (Int.fdiv (IntKind.wrap .u64 (IntKind.wrap .i64 (a + b))) 2), a, m, IntKind.wrap .i64 (IntKind.wrap .i64 (Int.fdiv (IntKind.wrap .u64 (IntKind.wrap .i64 (a + b))) 2) + m), IntKind.wrap .i64 (Int.fdiv (IntKind.wrap .u64 (IntKind.wrap .i64 (a + b))) 2), IntKind.wrap .i64 (IntKind.wrap .i64 (IntKind.wrap .i64 (Int.fdiv (IntKind.wrap .u64 (IntKind.wrap .i64 (a + b))) 2) + m) - 1), o, len, D)) (mergeT N G)) (
      Option.bind (F77a_1020 N G N (a, b, IntKind.wrap .i64 (Int.fdiv (IntKind.wrap .u64 (IntKind.wrap .i64 (a + b))) 2), a, m, IntKind.wrap .i64 (IntKind.wrap .i64 (Int.fdiv (IntKind.wrap .u64 (IntKind.wrap .i64 (a + b))) 2) + m), m, IntKind.wrap .i64 (IntKind.wrap .i64 (IntKind.wrap .i64 (Int.fdiv (IntKind.wrap .u64 (IntKind.wrap .i64 (a + b))) 2) + m) - 1), o, len, D)) (mergeT N G)))) := by
  unfold F77ag
  simp only
  have key : ∀ y : Int × Int × Int × Int × Nat × Nat × Int × Int × List Bun, ∀ z, z = mergeT N G y → z = mergeT N G y := fun _ _ h => h
  congr 2
  congr 1
  all_goals
    congr 1
    funext y
    unfold mergeT
    generalize decide (y.2.2.2.1 < y.2.1) = c1
    generalize decide (y.2.1 < IntKind.wrap .i64 (y.1 - y.2.2.2.1)) = c2
    generalize decide (y.2.2.1 < y.2.2.2.1) = c3
    generalize decide (y.2.2.2.1 < y.2.2.2.2.2.2.1) = c4
    generalize decide (y.2.2.2.2.2.2.1 < IntKind.wrap .i64 (y.1 - y.2.2.2.1)) = c5
    generalize decide (IntKind.wrap .i64 (y.1 - y.2.2.2.1) < y.2.2.2.2.2.2.2.1) = c6
    cases c1 <;> cases c2 <;> cases c3 <;> cases c4 <;> cases c5 <;> cases c6 <;> rfl
end Go.Proofs.Ytpjkklailofkjaa.Am

namespace Go.Proofs.Ytpjkklailofkjaa.Am
open Go.Am
set_option linter.unusedSimpArgs false
set_option linter.unusedVariables false

theorem mem_left {A B : List Bun} {y : Bun} (h : y ∈ A) : ∃ i, i < A.length ∧ wt (A ++ B) i = y.1 := by
  obtain ⟨i, hi, e⟩ := List.getElem_of_mem h
  refine ⟨i, hi, ?_⟩
  rw [wt_get (by rw [List.length_append]; omega), List.getElem_append_left hi, e]
theorem mem_right {A B : List Bun} {y : Bun} (h : y ∈ B) : ∃ i, A.length ≤ i ∧ i < (A ++ B).length ∧ wt (A ++ B) i = y.1 := by
  obtain ⟨i, hi, e⟩ := List.getElem_of_mem h
  refine ⟨A.length + i, by omega, by rw [List.length_append]; omega, ?_⟩
  rw [wt_get (by rw [List.length_append]; omega), List.getElem_append_right (by omega)]
  simp only [Nat.add_sub_cancel_left, e]
theorem cut_at (X : List Bun) (k : Nat) (h : k ≤ X.length) : ∃ X1 X2, X = X1 ++ X2 ∧ X1.length = k :=
  ⟨X.take k, X.drop k, (List.take_append_drop ..).symm, by rw [List.length_take]; omega⟩

theorem F77_fin {N : Nat} (hN : 100000 < N) (n : Nat) (hn : n ≤ 100000) (k : Nat) (ih : ∀ (P X Y S : List Bun) (a m b : Nat), X.length + Y.length < k → (P ++ (X ++ (Y ++ S))).length = n → P.length = a → a + X.length = m → m + Y.length = b → 0 < X.length → 0 < Y.length → Srt X → Srt Y →
      F77ak N k (0, n, (a : Int), (m : Int), (b : Int), P ++ (X ++ (Y ++ S))) = some (P ++ (mrg X Y ++ S)))
    (P X Y S : List Bun) (a m b mid : Nat) (hk : X.length + Y.length < k + 1) (hlen : (P ++ (X ++ (Y ++ S))).length = n) (ha : P.length = a) (hm : a + X.length = m) (hb : m + Y.length = b) (hX : 0 < X.length) (hY : 0 < Y.length) (hsX : Srt X) (hsY : Srt Y) (hmid2 : 2 * mid ≤ a + b ∧ a + b ≤ 2 * mid + 1)
    (hl : a + X.length + Y.length + S.length = n) (wX : ∀ i, i < X.length → wt (P ++ (X ++ (Y ++ S))) (a + i) = wt X i) (wY : ∀ i, i < Y.length → wt (P ++ (X ++ (Y ++ S))) (m + i) = wt Y i) :
    ∀ (lo r s : Nat), ((mid < m ∧ lo + b = mid + m ∧ r = mid) ∨ (m ≤ mid ∧ lo = a ∧ r = m)) → lo ≤ s → s ≤ r → (∀ c, lo ≤ c → c < s → wt (P ++ (X ++ (Y ++ S))) c ≤ wt (P ++ (X ++ (Y ++ S))) (mid + m - 1 - c)) → (∀ c, s ≤ c → c < r → wt (P ++ (X ++ (Y ++ S))) (mid + m - 1 - c) < wt (P ++ (X ++ (Y ++ S))) c) →
      mergeT N (F77ak N k) (((mid + m : Nat) : Int), (m : Int), (a : Int), (s : Int), 0, n, (mid : Int), (b : Int), P ++ (X ++ (Y ++ S))) = some (P ++ (mrg X Y ++ S)) := by
  intro lo r s hlo h3 h4 h5 h6
  obtain ⟨e, he⟩ : ∃ e, e + s = mid + m := ⟨mid + m - s, by omega⟩
  have hs1 : a ≤ s ∧ s ≤ m ∧ m ≤ e ∧ e ≤ b := by omega
  obtain ⟨X1, X2, rfl, hX1⟩ := cut_at X (s - a) (by omega)
  obtain ⟨Y1, Y2, rfl, hY1⟩ := cut_at Y (e - m) (by omega)
  rw [List.length_append] at hm hb hX hY
  simp only [List.length_append] at hl
  have c1 : ∀ y ∈ Y1, ∀ x ∈ X2, y.1 < x.1 := fun y hy x hx => by
    obtain ⟨i, hi, ei⟩ := mem_left (B := Y2) hy
    obtain ⟨j, hj1, hj2, ej⟩ := mem_right (A := X1) hx
    have hY1p : 0 < Y1.length := List.length_pos_of_mem hy
    have hX2p : 0 < X2.length := List.length_pos_of_mem hx
    have := h6 s (Nat.le_refl _) (by omega)
    rw [show mid + m - 1 - s = m + (Y1.length - 1) by omega, wY _ (by rw [List.length_append]; omega), show s = a + X1.length by omega, wX _ (by rw [List.length_append]; omega)] at this
    have k1 := wt_mono hsY (i := i) (j := Y1.length - 1) (by omega) (by rw [List.length_append]; omega)
    have k2 := wt_mono hsX (i := X1.length) (j := j) hj1 hj2
    omega
  have c2 : ∀ x ∈ X1, ∀ y ∈ Y2, x.1 ≤ y.1 := fun x hx y hy => by
    obtain ⟨i, hi, ei⟩ := mem_left (B := X2) hx
    obtain ⟨j, hj1, hj2, ej⟩ := mem_right (A := Y1) hy
    have hX1p : 0 < X1.length := List.length_pos_of_mem hx
    have hY2p : 0 < Y2.length := List.length_pos_of_mem hy
    have := h5 (s - 1) (by omega) (by omega)
    rw [show mid + m - 1 - (s - 1) = m + Y1.length by omega, wY _ (by rw [List.length_append]; omega), show s - 1 = a + (X1.length - 1) by omega, wX _ (by rw [List.length_append]; omega)] at this
    have k1 := wt_mono hsX (i := i) (j := X1.length - 1) (by omega) (by rw [List.length_append]; omega)
    have k2 := wt_mono hsY (i := Y1.length) (j := j) hj1 hj2
    omega
  have sX := List.pairwise_append.1 hsX
  have sY := List.pairwise_append.1 hsY
  rw [mrg_parts X1 X2 Y1 Y2 c1 c2]
  have jE : IntKind.wrap .i64 (((mid + m : Nat) : Int) - (s : Int)) = (e : Int) := by rw [wrap_i64 (by omega) (by omega)]; omega
  unfold mergeT
  simp only [jE, iteP_eq]
  -- turned
  have d1 : (if decide ((s : Int) < (m : Int)) = true then (if decide ((m : Int) < (e : Int)) = true then F79a N (0, n, (s : Int), (m : Int), (e : Int), P ++ (X1 ++ X2 ++ (Y1 ++ Y2 ++ S))) else some (P ++ (X1 ++ X2 ++ (Y1 ++ Y2 ++ S)))) else some (P ++ (X1 ++ X2 ++ (Y1 ++ Y2 ++ S)))) = some (P ++ (X1 ++ (Y1 ++ (X2 ++ (Y2 ++ S))))) := by
    by_cases q1 : s < m
    · rw [if_pos (by simp only [decide_eq_true_eq]; omega)]
      by_cases q2 : m < e
      · rw [if_pos (by simp only [decide_eq_true_eq]; omega)]
        have := F79_rotate hN (P ++ X1) X2 Y1 (Y2 ++ S) n s m e hn (by rw [← hlen]; simp only [List.length_append]; omega) (by omega) (by omega) (by rw [List.length_append]; omega) (by omega) (by omega)
        simpa only [List.append_assoc] using this
      · rw [if_neg (by simp only [decide_eq_true_eq]; omega)]
        have : Y1 = [] := List.eq_nil_of_length_eq_zero (by omega)
        subst this
        simp
    · rw [if_neg (by simp only [decide_eq_true_eq]; omega)]
      have : X2 = [] := List.eq_nil_of_length_eq_zero (by omega)
      subst this
      simp
  rw [d1, Option.bind_some]
  -- the lower part
  have d2 : (if decide ((a : Int) < (s : Int)) = true then (if decide ((s : Int) < (mid : Int)) = true then F77ak N k (0, n, (a : Int), (s : Int), (mid : Int), P ++ (X1 ++ (Y1 ++ (X2 ++ (Y2 ++ S))))) else some (P ++ (X1 ++ (Y1 ++ (X2 ++ (Y2 ++ S)))))) else some (P ++ (X1 ++ (Y1 ++ (X2 ++ (Y2 ++ S)))))) = some (P ++ (mrg X1 Y1 ++ (X2 ++ (Y2 ++ S)))) := by
    by_cases q1 : a < s
    · rw [if_pos (by simp only [decide_eq_true_eq]; omega)]
      by_cases q2 : s < mid
      · rw [if_pos (by simp only [decide_eq_true_eq]; omega)]
        exact ih P X1 Y1 (X2 ++ (Y2 ++ S)) a s mid (by simp only [List.length_append] at hk; omega) (by rw [← hlen]; simp only [List.length_append]; omega) ha (by omega) (by omega) (by omega) (by omega) sX.1 sY.1
      · rw [if_neg (by simp only [decide_eq_true_eq]; omega)]
        have : Y1 = [] := List.eq_nil_of_length_eq_zero (by omega)
        subst this
        simp [mrg_nil]
    · rw [if_neg (by simp only [decide_eq_true_eq]; omega)]
      have : X1 = [] := List.eq_nil_of_length_eq_zero (by omega)
      subst this
      simp [mrg_nil0]
  rw [d2, Option.bind_some]
  -- the upper part
  have hml := mrg_len X1 Y1
  by_cases q1 : mid < e
  · rw [if_pos (by simp only [decide_eq_true_eq]; omega)]
    by_cases q2 : e < b
    · rw [if_pos (by simp only [decide_eq_true_eq]; omega)]
      have := ih (P ++ mrg X1 Y1) X2 Y2 S mid e b (by simp only [List.length_append] at hk; omega) (by rw [← hlen]; simp only [List.length_append, hml]; omega) (by rw [List.length_append, hml]; omega) (by omega) (by omega) (by omega) (by omega) sX.2.1 sY.2.1
      rw [List.append_assoc] at this
      rw [this, Option.bind_some]
      simp
    · rw [if_neg (by simp only [decide_eq_true_eq]; omega)]
      have : Y2 = [] := List.eq_nil_of_length_eq_zero (by omega)
      subst this
      simp [mrg_nil]
  · rw [if_neg (by simp only [decide_eq_true_eq]; omega)]
    have : X2 = [] := List.eq_nil_of_length_eq_zero (by omega)
    subst this
    simp [mrg_nil0]


theorem F77_merge {N : Nat} (hN : 100000 < N) (n : Nat) (hn : n ≤ 100000) : ∀ (k : Nat) (P X Y S : List Bun) (a m b : Nat), X.length + Y.length < k → (P ++ (X ++ (Y ++ S))).length = n → P.length = a → a + X.length = m → m + Y.length = b → 0 < X.length → 0 < Y.length → Srt X → Srt Y →
    F77ak N k (0, n, (a : Int), (m : Int), (b : Int), P ++ (X ++ (Y ++ S))) = some (P ++ (mrg X Y ++ S)) := by
  intro k
  induction k with
  | zero => intro P X Y S a m b h; omega
  | succ k ih =>
    intro P X Y S a m b hk hlen ha hm hb hX hY hsX hsY
    have hl : a + X.length + Y.length + S.length = n := by rw [← hlen]; simp only [List.length_append]; omega
    have wX : ∀ i, i < X.length → wt (P ++ (X ++ (Y ++ S))) (a + i) = wt X i := fun i hi => wt_mid P X (Y ++ S) ha hi
    have wY : ∀ i, i < Y.length → wt (P ++ (X ++ (Y ++ S))) (m + i) = wt Y i := fun i hi => by
      have := wt_mid (P ++ X) Y S (a := m) (by rw [List.length_append]; omega) hi
      rwa [List.append_assoc] at this
    have i1 : IntKind.wrap .i64 ((m : Int) - (a : Int)) = (X.length : Int) := by rw [wrap_i64 (by omega) (by omega)]; omega
    have i2 : IntKind.wrap .i64 ((b : Int) - (m : Int)) = (Y.length : Int) := by rw [wrap_i64 (by omega) (by omega)]; omega
    show F77ag N (F77ak N k) (0, n, (a : Int), (m : Int), (b : Int), P ++ (X ++ (Y ++ S))) = _
    rw [F77ag_eq, iteP_eq, iteP_eq, iteP_eq, i1, i2, mid_eq (by omega)]
    by_cases h1 : X.length = 1
    · -- one goes up
      rw [if_pos (by simp only [beq_iff_eq]; omega)]
      obtain ⟨x, rfl⟩ := List.length_eq_one_iff.1 h1
      obtain ⟨s, g1, g2, g3, g4, g5⟩ := F77_172_find N (F77ak N k) n a hn _ hlen (by omega) m b (by omega) (fun c d hc hcd hd => by
        have := wt_mono hsY (i := c - m) (j := d - m) (by omega) (by omega)
        rw [← wY (c - m) (by omega), ← wY (d - m) (by omega)] at this
        rwa [show m + (c - m) = c by omega, show m + (d - m) = d by omega] at this) (b - m) m b N (Nat.le_refl _) (by omega) (Nat.le_refl _) (by omega) (Nat.le_refl _) (fun c _ _ => by omega) (fun c _ _ => by omega)
      rw [g1, Option.bind_some]
      have wa : wt (P ++ ([x] ++ (Y ++ S))) a = x.1 := by
        have := wX 0 (by simp)
        simpa [wt] using this
      obtain ⟨Y1, Y2, rfl, hY1⟩ := cut_at Y (s - m) (by omega)
      have hlow : ∀ y ∈ Y1, y.1 < x.1 := fun y hy => by
        obtain ⟨i, hi, e⟩ := mem_left (B := Y2) hy
        have := g4 (m + i) (by omega) (by omega)
        rw [wY i (by rw [List.length_append]; omega), wa, e] at this
        exact this
      have hhigh : ∀ y ∈ Y2, x.1 ≤ y.1 := fun y hy => by
        obtain ⟨i, hi1, hi2, e⟩ := mem_right (A := Y1) hy
        have := g5 (m + i) (by omega) (by omega)
        rw [wY i hi2, wa, e] at this
        exact this
      have hmv := F77_698_up N (F77ak N k) n hn P (Y2 ++ S) x s Y1 [] N _ rfl (by rw [← hlen]; simp only [List.length_append, List.length_cons, List.length_nil]; omega) (by simp only [List.length_nil]; simp only [List.length_singleton] at hm; omega) (by rw [List.length_append] at hl; omega)
      simp only [List.length_nil, Nat.add_zero, ha] at hmv
      simp only
      have e1 : P ++ ([x] ++ (Y1 ++ Y2 ++ S)) = P ++ ([] ++ (x :: (Y1 ++ (Y2 ++ S)))) := by simp
      rw [e1, hmv, Option.bind_some]
      have hp := mrg_parts [] [x] Y1 Y2 (fun y hy z hz => by rw [List.mem_singleton.1 hz]; exact hlow y hy) (fun z hz => by cases hz)
      rw [List.nil_append, mrg_nil0, mrg_right [x] Y2 (fun z hz y hy => by rw [List.mem_singleton.1 hz]; exact hhigh y hy)] at hp
      rw [hp]
      simp
    · rw [if_neg (by simp only [beq_iff_eq]; omega)]
      by_cases h2 : Y.length = 1
      · -- one goes down
        rw [if_pos (by simp only [beq_iff_eq]; omega)]
        obtain ⟨y, rfl⟩ := List.length_eq_one_iff.1 h2
        obtain ⟨s, g1, g2, g3, g4, g5⟩ := F77_428_find N (F77ak N k) n m hn _ hlen (by omega) a m (by omega) (fun c d hc hcd hd => by
          have := wt_mono hsX (i := c - a) (j := d - a) (by omega) (by omega)
          rw [← wX (c - a) (by omega), ← wX (d - a) (by omega)] at this
          rwa [show a + (c - a) = c by omega, show a + (d - a) = d by omega] at this) (m - a) a m N (Nat.le_refl _) (by omega) (Nat.le_refl _) (by omega) (Nat.le_refl _) (fun c _ _ => by omega) (fun c _ _ => by omega)
        rw [g1, Option.bind_some]
        have wm : wt (P ++ (X ++ ([y] ++ S))) m = y.1 := by
          have := wY 0 (by simp)
          simpa [wt] using this
        obtain ⟨X1, X2, rfl, hX1⟩ := cut_at X (s - a) (by omega)
        have hlow : ∀ x ∈ X1, x.1 ≤ y.1 := fun x hx => by
          obtain ⟨i, hi, e⟩ := mem_left (B := X2) hx
          have := g4 (a + i) (by omega) (by omega)
          rw [wX i (by rw [List.length_append]; omega), wm, e] at this
          exact this
        have hhigh : ∀ x ∈ X2, y.1 < x.1 := fun x hx => by
          obtain ⟨i, hi1, hi2, e⟩ := mem_right (A := X1) hx
          have := g5 (a + i) (by omega) (by omega)
          rw [wX i hi2, wm, e] at this
          exact this
        rw [List.length_append] at hm hl
        have hmv := F77_1722_down N (F77ak N k) n hn (P ++ X1) S y X2 [] N _ rfl (by rw [← hlen]; simp only [List.length_append, List.length_cons, List.length_nil]; omega) (by omega)
        rw [List.length_append, show P.length + X1.length + X2.length = m by omega, show P.length + X1.length = s by omega] at hmv
        simp only
        have e1 : P ++ (X1 ++ X2 ++ ([y] ++ S)) = P ++ X1 ++ (X2 ++ (y :: ([] ++ S))) := by simp
        rw [e1, hmv, Option.bind_some]
        have hp := mrg_parts X1 X2 [] [y] (fun z hz => by cases hz) (fun x hx z hz => by rw [List.mem_singleton.1 hz]; exact hlow x hx)
        rw [List.nil_append, mrg_nil, mrg_left X2 [y] (fun z hz x hx => by rw [List.mem_singleton.1 hz]; exact hhigh x hx)] at hp
        rw [hp]
        simp
      · rw [if_neg (by simp only [beq_iff_eq]; omega)]
        -- what stands behind both ways
        obtain ⟨mid, hmid⟩ : ∃ mid, mid = (a + b) / 2 := ⟨_, rfl⟩
        rw [← hmid]
        have hmid2 : 2 * mid ≤ a + b ∧ a + b ≤ 2 * mid + 1 := by omega
        clear hmid
        have j1 : IntKind.wrap .i64 ((mid : Int) + (m : Int)) = ((mid + m : Nat) : Int) := by rw [wrap_i64 (by omega) (by omega)]; omega
        have j2 : IntKind.wrap .i64 (((mid + m : Nat) : Int) - (b : Int)) = ((mid : Int) + m - b) := by rw [wrap_i64 (by omega) (by omega)]; omega
        have j3 : IntKind.wrap .i64 (((mid + m : Nat) : Int) - 1) = ((mid + m - 1 : Nat) : Int) := by rw [wrap_i64 (by omega) (by omega)]; omega
        rw [j1, j2, j3]
        have fin := F77_fin hN n hn k ih P X Y S a m b mid hk hlen ha hm hb hX hY hsX hsY hmid2 hl wX wY
        have mono : ∀ c d, a ≤ c → c ≤ d → d < m → m + d < b + d + 1 → m ≤ mid + m - 1 - d → mid + m - 1 - c < b → c ≤ mid + m - 1 → wt (P ++ (X ++ (Y ++ S))) c ≤ wt (P ++ (X ++ (Y ++ S))) d ∧ wt (P ++ (X ++ (Y ++ S))) (mid + m - 1 - d) ≤ wt (P ++ (X ++ (Y ++ S))) (mid + m - 1 - c) := by
          intro c d q1 q2 q3 _ q4 q5 q6
          constructor
          · have := wt_mono hsX (i := c - a) (j := d - a) (by omega) (by omega)
            rw [← wX (c - a) (by omega), ← wX (d - a) (by omega)] at this
            rwa [show a + (c - a) = c by omega, show a + (d - a) = d by omega] at this
          · have := wt_mono hsY (i := mid + m - 1 - d - m) (j := mid + m - 1 - c - m) (by omega) (by omega)
            rw [← wY (mid + m - 1 - d - m) (by omega), ← wY (mid + m - 1 - c - m) (by omega)] at this
            rwa [show m + (mid + m - 1 - d - m) = mid + m - 1 - d by omega, show m + (mid + m - 1 - c - m) = mid + m - 1 - c by omega] at this
        by_cases hmm : mid < m
        · rw [if_pos (by simp only [decide_eq_true_eq]; omega)]
          obtain ⟨lo, hlo⟩ : ∃ lo, lo + b = mid + m := ⟨mid + m - b, by omega⟩
          rw [show (mid : Int) + m - b = (lo : Int) by omega]
          obtain ⟨s, g1, g2, g3, g4, g5⟩ := F77_1020_find N (F77ak N k) n hn _ hlen (mid + m - 1) lo mid (b : Int) (mid : Int) (a : Int) (m : Int) ((mid + m : Nat) : Int) (by omega) (fun c q1 q2 => by omega) (by omega) (fun c d q1 q2 q3 => mono c d (by omega) q2 (by omega) (by omega) (by omega) (by omega) (by omega)) (mid - lo) lo mid N (Nat.le_refl _) (by omega) (Nat.le_refl _) (by omega) (Nat.le_refl _) (fun c _ _ => by omega) (fun c _ _ => by omega)
          rw [g1, Option.bind_some]
          exact fin lo mid s (.inl ⟨hmm, hlo, rfl⟩) g2 g3 g4 g5
        · rw [if_neg (by simp only [decide_eq_true_eq]; omega)]
          obtain ⟨s, g1, g2, g3, g4, g5⟩ := F77_1020_find N (F77ak N k) n hn _ hlen (mid + m - 1) a m (b : Int) (mid : Int) (a : Int) (m : Int) ((mid + m : Nat) : Int) (by omega) (fun c q1 q2 => by omega) (by omega) (fun c d q1 q2 q3 => mono c d (by omega) q2 (by omega) (by omega) (by omega) (by omega) (by omega)) (m - a) a m N (Nat.le_refl _) (by omega) (Nat.le_refl _) (by omega) (Nat.le_refl _) (fun c _ _ => by omega) (fun c _ _ => by omega)
          rw [g1, Option.bind_some]
          exact fin a m s (.inr ⟨by omega, rfl, rfl⟩) g2 g3 g4 g5
end Go.Proofs.Ytpjkklailofkjaa.Am

namespace Go.Proofs.Ytpjkklailofkjaa.Am
open Go.Am
set_option linter.unusedSimpArgs false
set_option linter.unusedVariables false

/-! ### The stable sort -/
/-- Sorted block by block. -/
def blk (bs : Nat) : Nat → List Bun → List Bun
  | 0, _ => []
  | k + 1, L => isort (L.take bs) ++ blk bs k (L.drop bs)

theorem blk_nil (bs : Nat) : ∀ k, blk bs k [] = []
  | 0 => rfl
  | k + 1 => by rw [blk, List.take_nil, List.drop_nil, blk_nil bs k]; rfl
theorem blk_small {bs : Nat} {L : List Bun} (h : L.length ≤ bs) (k : Nat) : blk bs (k + 1) L = isort L := by
  rw [blk, List.take_of_length_le h, List.drop_of_length_le h, blk_nil, List.append_nil]
theorem blk_len {bs : Nat} : ∀ (k : Nat) (L : List Bun), L.length ≤ bs * k → (blk bs k L).length = L.length
  | 0, L, h => by have : L.length = 0 := by omega
                  rw [blk, this]; rfl
  | k + 1, L, h => by
    rw [Nat.mul_succ] at h
    rw [blk, List.length_append, isort_len, blk_len k (L.drop bs) (by rw [List.length_drop]; omega), List.length_take, List.length_drop]
    omega
theorem blk_fuel {bs : Nat} : ∀ (k k' : Nat) (L : List Bun), L.length ≤ bs * k → k ≤ k' → blk bs k' L = blk bs k L
  | 0, k', L, h, _ => by
    have : L = [] := List.eq_nil_of_length_eq_zero (by omega)
    rw [this, blk_nil, blk_nil]
  | k + 1, 0, L, _, h => by omega
  | k + 1, k' + 1, L, h, hk => by
    rw [Nat.mul_succ] at h
    rw [blk, blk, blk_fuel k k' (L.drop bs) (by rw [List.length_drop]; omega) (by omega)]

theorem F70_28_loop {N : Nat} (hN : 100000 < N) (n : Nat) (hn : n ≤ 50000) : ∀ (k : Nat) (P L : List Bun) (a f : Nat), P.length = a → a + L.length = n → L.length ≤ 20 * k → k < f →
    ∃ (a' : Nat) (P' R : List Bun), F70a_28 N f ((a : Int), ((a + 20 : Nat) : Int), (n : Int), 0, n, 20, P ++ L) = some ((a' : Int), (n : Int), 0, n, 20, P' ++ R) ∧ P'.length = a' ∧ a' + R.length = n ∧ P' ++ isort R = P ++ blk 20 k L := by
  intro k
  induction k with
  | zero =>
    intro P L a f ha hl hk hf
    cases f with
    | zero => omega
    | succ f =>
      simp only [F70a_28, B70a_28, iteP_eq]
      rw [if_neg (by simp only [decide_eq_true_eq]; omega)]
      have : L = [] := List.eq_nil_of_length_eq_zero (by omega)
      subst this
      exact ⟨a, P, [], rfl, ha, hl, rfl⟩
  | succ k ih =>
    intro P L a f ha hl hk hf
    cases f with
    | zero => omega
    | succ f =>
      simp only [F70a_28, B70a_28, iteP_eq]
      by_cases h : 20 ≤ L.length
      · rw [if_pos (by simp only [decide_eq_true_eq]; omega)]
        have hs := F76_sort hN P (L.take 20) (L.drop 20) n a (a + 20) (by omega) (by rw [List.take_append_drop, List.length_append]; omega) ha (by rw [List.length_take]; omega)
        rw [List.take_append_drop] at hs
        rw [hs, Option.bind_some]
        have i1 : IntKind.wrap .i64 (((a + 20 : Nat) : Int) + 20) = ((a + 20 + 20 : Nat) : Int) := by rw [wrap_i64 (by omega) (by omega)]; omega
        obtain ⟨a', P', R, g1, g2, g3, g4⟩ := ih (P ++ isort (L.take 20)) (L.drop 20) (a + 20) f (by rw [List.length_append, isort_len, List.length_take]; omega) (by rw [List.length_drop]; omega) (by rw [List.length_drop]; omega) (by omega)
        rw [List.append_assoc] at g1
        exact ⟨a', P', R, by rw [i1, g1]; rfl, g2, g3, by rw [g4, blk, List.append_assoc]⟩
      · rw [if_neg (by simp only [decide_eq_true_eq]; omega)]
        exact ⟨a, P, L, rfl, ha, hl, by rw [blk_small (by omega)]⟩

theorem F70_3988_loop {N : Nat} (hN : 100000 < N) (n bs : Nat) (hn : n ≤ 50000) (hb : 0 < bs) (hb2 : bs ≤ 50000) : ∀ (k : Nat) (P L : List Bun) (a f : Nat), P.length = a → a + L.length = n → L.length ≤ 2 * bs * k → k < f →
    ∃ (a' : Nat) (D' : List Bun), F70a_3988 N f ((a : Int), ((a + 2 * bs : Nat) : Int), (n : Int), 0, n, (bs : Int), P ++ blk bs (2 * k) L) = some ((a' : Int), (bs : Int), (n : Int), 0, n, D') ∧ a' ≤ n ∧
      (a' + bs < n → F77a N (0, n, (a' : Int), ((a' + bs : Nat) : Int), (n : Int), D') = some (P ++ blk (2 * bs) k L)) ∧ (¬ a' + bs < n → D' = P ++ blk (2 * bs) k L) := by
  intro k
  induction k with
  | zero =>
    intro P L a f ha hl hk hf
    cases f with
    | zero => omega
    | succ f =>
      simp only [F70a_3988, B70a_3988, iteP_eq]
      rw [if_neg (by simp only [decide_eq_true_eq]; omega)]
      exact ⟨a, _, rfl, by omega, fun h => by omega, fun _ => rfl⟩
  | succ k ih =>
    intro P L a f ha hl hk hf
    cases f with
    | zero => omega
    | succ f =>
      rw [Nat.mul_succ] at hk
      simp only [F70a_3988, B70a_3988, iteP_eq]
      have e2 : 2 * (k + 1) = 2 * k + 1 + 1 := by omega
      have i2 : IntKind.wrap .i64 ((2 : Int) * (bs : Int)) = ((2 * bs : Nat) : Int) := by rw [wrap_i64 (by omega) (by omega)]; omega
      by_cases h : 2 * bs ≤ L.length
      · rw [if_pos (by simp only [decide_eq_true_eq]; omega)]
        have i1 : IntKind.wrap .i64 ((a : Int) + (bs : Int)) = ((a + bs : Nat) : Int) := by rw [wrap_i64 (by omega) (by omega)]; omega
        have i3 : IntKind.wrap .i64 (((a + 2 * bs : Nat) : Int) + ((2 * bs : Nat) : Int)) = ((a + 2 * bs + 2 * bs : Nat) : Int) := by rw [wrap_i64 (by omega) (by omega)]; omega
        have hbl := blk_len (bs := bs) (2 * k) ((L.drop bs).drop bs) (by
          rw [List.length_drop, List.length_drop]
          have : bs * (2 * k) = 2 * bs * k := by rw [← Nat.mul_assoc, Nat.mul_comm bs 2]
          omega)
        have hm := F77_merge hN n (by omega) N P (isort (L.take bs)) (isort ((L.drop bs).take bs)) (blk bs (2 * k) ((L.drop bs).drop bs)) a (a + bs) (a + 2 * bs)
          (by simp only [isort_len, List.length_take, List.length_drop]; omega)
          (by simp only [List.length_append, isort_len, List.length_take, List.length_drop, hbl]; omega) ha (by rw [isort_len, List.length_take]; omega) (by rw [isort_len, List.length_take, List.length_drop]; omega)
          (by rw [isort_len, List.length_take]; omega) (by rw [isort_len, List.length_take, List.length_drop]; omega) (isort_srt _) (isort_srt _)
        have et : L.take bs ++ (L.drop bs).take bs = L.take (2 * bs) := by
          rw [show 2 * bs = bs + bs by omega, List.take_add]
        have ed : (L.drop bs).drop bs = L.drop (2 * bs) := by rw [List.drop_drop]; congr 1; omega
        rw [mrg_isort, et, ed] at hm
        rw [e2, blk, blk, i1, ed]
        have hm' : F77a N (0, n, (a : Int), ((a + bs : Nat) : Int), ((a + 2 * bs : Nat) : Int), P ++ (isort (L.take bs) ++ (isort ((L.drop bs).take bs) ++ blk bs (2 * k) (L.drop (2 * bs))))) = some (P ++ (isort (L.take (2 * bs)) ++ blk bs (2 * k) (L.drop (2 * bs)))) := hm
        rw [hm', Option.bind_some, i2, i3]
        obtain ⟨a', D', g1, g2, g3, g4⟩ := ih (P ++ isort (L.take (2 * bs))) (L.drop (2 * bs)) (a + 2 * bs) f (by rw [List.length_append, isort_len, List.length_take]; omega) (by rw [List.length_drop]; omega) (by rw [List.length_drop]; omega) (by omega)
        rw [List.append_assoc] at g1 g3 g4
        exact ⟨a', D', by rw [g1]; rfl, g2, by rw [blk]; exact g3, by rw [blk]; exact g4⟩
      · rw [if_neg (by simp only [decide_eq_true_eq]; omega)]
        refine ⟨a, _, rfl, by omega, fun h2 => ?_, fun h2 => ?_⟩
        · have hm := F77_merge hN n (by omega) N P (isort (L.take bs)) (isort (L.drop bs)) [] a (a + bs) n
            (by simp only [isort_len, List.length_take, List.length_drop]; omega)
            (by simp only [List.length_append, isort_len, List.length_take, List.length_drop, List.length_nil]; omega) ha (by rw [isort_len, List.length_take]; omega) (by rw [isort_len, List.length_drop]; omega)
            (by rw [isort_len, List.length_take]; omega) (by rw [isort_len, List.length_drop]; omega) (isort_srt _) (isort_srt _)
          rw [mrg_isort, List.take_append_drop, List.append_nil, List.append_nil] at hm
          rw [e2, blk, blk_small (by rw [List.length_drop]; omega), blk_small (by omega)]
          exact hm
        · rw [e2, blk_small (by omega), blk_small (by omega)]

theorem F70_62_loop {N : Nat} (hN : 100000 < N) (n : Nat) (hn : n ≤ 20000) (L : List Bun) (hL : L.length = n) : ∀ (t bs f : Nat), n ≤ bs * 2 ^ t → 0 < bs → bs ≤ 40000 → t < f →
    F70a_62 N f ((n : Int), 0, n, (bs : Int), blk bs (2 * n) L) = some (isort L) := by
  intro t
  induction t with
  | zero =>
    intro bs f ht hb hb2 hf
    cases f with
    | zero => omega
    | succ f =>
      rw [Nat.pow_zero, Nat.mul_one] at ht
      simp only [F70a_62, B70a_62, iteP_eq]
      rw [if_neg (by simp only [decide_eq_true_eq]; omega)]
      congr 1
      cases n with
      | zero =>
        have : L = [] := List.eq_nil_of_length_eq_zero hL
        subst this
        rfl
      | succ n =>
        rw [show 2 * (n + 1) = 2 * n + 1 + 1 by omega, blk_small (by omega)]
  | succ t ih =>
    intro bs f ht hb hb2 hf
    cases f with
    | zero => omega
    | succ f =>
      simp only [F70a_62, B70a_62, iteP_eq]
      by_cases h : bs < n
      · rw [if_pos (by simp only [decide_eq_true_eq]; omega)]
        have i2 : IntKind.wrap .i64 ((2 : Int) * (bs : Int)) = ((0 + 2 * bs : Nat) : Int) := by rw [wrap_i64 (by omega) (by omega)]; omega
        have hle : n ≤ 2 * bs * n := by
          have : 1 * n ≤ 2 * bs * n := Nat.mul_le_mul_right n (by omega)
          omega
        obtain ⟨a', D', g1, g2, g3, g4⟩ := F70_3988_loop hN n bs (by omega) hb (by omega) n [] L 0 N rfl (by omega) (by omega) (by omega)
        rw [show ((0 : Nat) : Int) = 0 from rfl, List.nil_append] at g1
        rw [i2, g1, Option.bind_some]
        simp only
        have i3 : IntKind.wrap .i64 ((a' : Int) + (bs : Int)) = ((a' + bs : Nat) : Int) := by rw [wrap_i64 (by omega) (by omega)]; omega
        have i4 : IntKind.wrap .i64 ((bs : Int) * 2) = ((2 * bs : Nat) : Int) := by rw [wrap_i64 (by omega) (by omega)]; omega
        have hbk : blk (2 * bs) (2 * n) L = blk (2 * bs) n L := blk_fuel n (2 * n) L (by omega) (by omega)
        have ih' := ih (2 * bs) f (by rw [Nat.pow_succ] at ht; rw [Nat.mul_assoc, Nat.mul_left_comm, Nat.mul_comm 2]; exact ht) (by omega) (by omega) (by omega)
        rw [hbk] at ih'
        rw [i3, i4]
        by_cases hm : a' + bs < n
        · rw [if_pos (by simp only [decide_eq_true_eq]; omega), g3 hm, Option.bind_some, List.nil_append, ih', Option.bind_some]
        · rw [if_neg (by simp only [decide_eq_true_eq]; omega), g4 hm, List.nil_append, ih', Option.bind_some]
      · rw [if_neg (by simp only [decide_eq_true_eq]; omega)]
        congr 1
        cases n with
        | zero =>
          have : L = [] := List.eq_nil_of_length_eq_zero hL
          subst this
          rfl
        | succ n =>
          rw [show 2 * (n + 1) = 2 * n + 1 + 1 by omega, blk_small (by omega)]

/-- THE STABLE SORT. -/
theorem F55_sort {N : Nat} (hN : 100000 < N) (L : List Bun) (hn : L.length ≤ 10000) : F55a N (0, L.length, L) = some (isort L) := by
  simp only [F55a, F70a, iteP_eq]
  obtain ⟨a', P', R, g1, g2, g3, g4⟩ := F70_28_loop hN L.length (by omega) (2 * L.length) [] L 0 N rfl (by omega) (by omega) (by omega)
  rw [show ((0 : Nat) : Int) = 0 from rfl, show ((0 + 20 : Nat) : Int) = 20 from rfl, List.nil_append] at g1
  rw [g1, Option.bind_some]
  simp only
  have hs := F76_sort hN P' R [] L.length a' L.length (by omega) (by simp only [List.length_append, List.length_nil]; omega) g2 (by omega)
  rw [List.append_nil, List.append_nil, g4, List.nil_append] at hs
  rw [hs, Option.bind_some]
  have := F70_62_loop hN L.length (by omega) L rfl 10 20 N (by omega) (by decide) (by omega) (by omega)
  rw [show ((20 : Nat) : Int) = 20 from rfl] at this
  rw [this, Option.bind_some, Option.bind_some]
end Go.Proofs.Ytpjkklailofkjaa.Am

namespace Go.Proofs.Ytpjkklailofkjaa.Am
open Go.Am
set_option linter.unusedSimpArgs false
set_option linter.unusedVariables false

/-! ### Side by side -/
theorem F69_grow {N : Nat} (k : Nat) (hk : k ≤ 1000000) : (∃ z, F69 N (k : Int) = some (.inl z)) ∨ (F69 N (k : Int) = some (.inr [])) := by
  simp only [F69, iteP_eq]
  have e : IntKind.wrap .i64 ((k : Int) - 0) = (k : Int) := by rw [wrap_i64 (by omega) (by omega)]; omega
  rw [e, if_neg (by simp only [decide_eq_true_eq]; omega)]
  by_cases h : 0 < k
  · rw [if_pos (by simp only [decide_eq_true_eq]; omega), if_pos (by simp only [decide_eq_true_eq]; omega), if_pos (by simp only [decide_eq_true_eq]; omega)]
    exact .inl ⟨_, rfl⟩
  · rw [if_neg (by simp only [decide_eq_true_eq]; omega)]
    exact .inr rfl
theorem F72_grow {N : Nat} (k : Nat) (hk : k ≤ 1000000) : (∃ z, F72 N (k : Int) = some (.inl z)) ∨ (F72 N (k : Int) = some (.inr [])) := by
  simp only [F72, iteP_eq]
  have e : IntKind.wrap .i64 ((k : Int) - 0) = (k : Int) := by rw [wrap_i64 (by omega) (by omega)]; omega
  rw [e, if_neg (by simp only [decide_eq_true_eq]; omega)]
  by_cases h : 0 < k
  · rw [if_pos (by simp only [decide_eq_true_eq]; omega), if_pos (by simp only [decide_eq_true_eq]; omega), if_pos (by simp only [decide_eq_true_eq]; omega)]
    exact .inl ⟨_, rfl⟩
  · rw [if_neg (by simp only [decide_eq_true_eq]; omega)]
    exact .inr rfl

theorem F54_two {N : Nat} (hN : 3 < N) (a b : List Bun) (h : a.length + b.length ≤ 100000) : F54 N [a, b] = some (a ++ b) := by
  obtain ⟨M, rfl⟩ : ∃ M, N = M + 3 := ⟨N - 3, by omega⟩
  have e1 : IntKind.wrap .i64 ((0 : Int) + (a.length : Int)) = (a.length : Int) := by rw [wrap_i64 (by omega) (by omega)]; omega
  have e2 : IntKind.wrap .i64 ((a.length : Int) + (b.length : Int)) = ((a.length + b.length : Nat) : Int) := by rw [wrap_i64 (by omega) (by omega)]; omega
  have h1 : F54_58 (M + 3) (M + 3) (0, 0, 2, [a, b]) = some (((a.length + b.length : Nat) : Int), [a, b]) := by
    simp only [F54_58, B54_58, iteP_eq]
    rw [if_pos (by decide), if_pos (by rfl)]
    simp only [Int.toNat_zero, List.getElem?_cons_zero, Option.bind_some]
    rw [e1, if_neg (by simp only [decide_eq_true_eq]; omega)]
    rw [show IntKind.wrap .i64 ((0 : Int) + 1) = 1 from by decide +kernel]
    rw [if_pos (by decide), if_pos (by rfl)]
    simp only [show Int.toNat 1 = 1 from rfl, List.getElem?_cons_succ, List.getElem?_cons_zero, Option.bind_some]
    rw [e2, if_neg (by simp only [decide_eq_true_eq]; omega)]
    rw [show IntKind.wrap .i64 ((1 : Int) + 1) = 2 from by decide +kernel]
    rw [if_neg (by decide)]
    rfl
  have h2 : F54_250 (M + 3) (M + 3) (0, 2, [], [a, b]) = some (a ++ b) := by
    simp only [F54_250, B54_250, iteP_eq]
    rw [if_pos (by decide), if_pos (by rfl)]
    simp only [Int.toNat_zero, List.getElem?_cons_zero, Option.bind_some]
    rw [if_pos (by simp only [decide_eq_true_eq, List.length_nil]; omega)]
    rw [show IntKind.wrap .i64 ((0 : Int) + 1) = 1 from by decide +kernel]
    rw [if_pos (by decide), if_pos (by rfl)]
    simp only [show Int.toNat 1 = 1 from rfl, List.getElem?_cons_succ, List.getElem?_cons_zero, Option.bind_some, List.nil_append]
    rw [if_pos (by simp only [decide_eq_true_eq]; omega)]
    rw [show IntKind.wrap .i64 ((1 : Int) + 1) = 2 from by decide +kernel]
    rw [if_neg (by decide)]
    rfl
  simp only [F54]
  have el : ((([a, b] : List (List Bun)).length : Nat) : Int) = 2 := rfl
  rw [el, h1, Option.bind_some]
  simp only
  rcases F69_grow (N := M + 3) (a.length + b.length) (by omega) with ⟨z, hz⟩ | hz
  · rw [hz, Option.bind_some]
    simp only
    rw [el, h2, Option.bind_some]
  · rw [hz, Option.bind_some]
    simp only
    rw [el, h2, Option.bind_some]

theorem F58_two {N : Nat} (hN : 3 < N) (a b : List Int) (h : a.length + b.length ≤ 100000) : F58 N [a, b] = some (a ++ b) := by
  obtain ⟨M, rfl⟩ : ∃ M, N = M + 3 := ⟨N - 3, by omega⟩
  have e1 : IntKind.wrap .i64 ((0 : Int) + (a.length : Int)) = (a.length : Int) := by rw [wrap_i64 (by omega) (by omega)]; omega
  have e2 : IntKind.wrap .i64 ((a.length : Int) + (b.length : Int)) = ((a.length + b.length : Nat) : Int) := by rw [wrap_i64 (by omega) (by omega)]; omega
  have h1 : F58_58 (M + 3) (M + 3) (0, 0, 2, [a, b], [a, b]) = some (((a.length + b.length : Nat) : Int), [a, b]) := by
    simp only [F58_58, B58_58, iteP_eq]
    rw [if_pos (by decide), if_pos (by rfl)]
    simp only [Int.toNat_zero, List.getElem?_cons_zero, Option.bind_some]
    rw [e1, if_neg (by simp only [decide_eq_true_eq]; omega)]
    rw [show IntKind.wrap .i64 ((0 : Int) + 1) = 1 from by decide +kernel]
    rw [if_pos (by decide), if_pos (by rfl)]
    simp only [show Int.toNat 1 = 1 from rfl, List.getElem?_cons_succ, List.getElem?_cons_zero, Option.bind_some]
    rw [e2, if_neg (by simp only [decide_eq_true_eq]; omega)]
    rw [show IntKind.wrap .i64 ((1 : Int) + 1) = 2 from by decide +kernel]
    rw [if_neg (by decide)]
    rfl
  have h2 : F58_250 (M + 3) (M + 3) (0, 2, [a, b], []) = some (a ++ b) := by
    simp only [F58_250, B58_250, iteP_eq]
    rw [if_pos (by decide), if_pos (by rfl)]
    simp only [Int.toNat_zero, List.getElem?_cons_zero, Option.bind_some]
    rw [if_pos (by simp only [decide_eq_true_eq, List.length_nil]; omega)]
    rw [show IntKind.wrap .i64 ((0 : Int) + 1) = 1 from by decide +kernel]
    rw [if_pos (by decide), if_pos (by rfl)]
    simp only [show Int.toNat 1 = 1 from rfl, List.getElem?_cons_succ, List.getElem?_cons_zero, Option.bind_some, List.nil_append]
    rw [if_pos (by simp only [decide_eq_true_eq]; omega)]
    rw [show IntKind.wrap .i64 ((1 : Int) + 1) = 2 from by decide +kernel]
    rw [if_neg (by decide)]
    rfl
  simp only [F58]
  have el : ((([a, b] : List (List Int)).length : Nat) : Int) = 2 := rfl
  rw [el, h1, Option.bind_some]
  simp only
  rcases F72_grow (N := M + 3) (a.length + b.length) (by omega) with ⟨z, hz⟩ | hz
  · rw [hz, Option.bind_some]
    simp only
    rw [el, h2, Option.bind_some]
  · rw [hz, Option.bind_some]
    simp only
    rw [el, h2, Option.bind_some]

theorem F39_merged {N : Nat} (hN : 100000 < N) (a b : List Bun) (h : a.length + b.length ≤ 10000) : F39 N (a, b) = some (isort (a ++ b)) := by
  simp only [F39]
  rw [F54_two (by omega) a b (by omega), Option.bind_some, F55_sort hN (a ++ b) (by rw [List.length_append]; omega), Option.bind_some]

/-! ### Pairs -/
theorem F40_loop {N : Nat} (hN : 3 < N) (L : List Bun) (hL : L.length ≤ 10000) (hw : ∀ x ∈ L, 0 ≤ x.1 ∧ x.1 ≤ 1000000000000000) (hs : ∀ x ∈ L, x.2.1.length ≤ 50000) : ∀ (d i f : Nat), L.length ≤ i + 2 * d → 2 * (i / 2) = i → d < f → i ≤ L.length + 1 →
    F40_58 N f ((i : Int), L, pairs (L.take i)) = some (pairs L) := by
  intro d
  induction d with
  | zero =>
    intro i f hd he hf hi
    cases f with
    | zero => omega
    | succ f =>
      simp only [F40_58, B40_58, iteP_eq]
      rw [wrap_i64 (by omega) (by omega), if_neg (by simp only [decide_eq_true_eq]; omega), List.take_of_length_le (by omega)]
  | succ d ih =>
    intro i f hd he hf hi
    cases f with
    | zero => omega
    | succ f =>
      simp only [F40_58, B40_58, iteP_eq]
      have i1 : IntKind.wrap .i64 ((i : Int) + 1) = ((i + 1 : Nat) : Int) := by rw [wrap_i64 (by omega) (by omega)]; omega
      have i2 : IntKind.wrap .i64 ((i : Int) + 2) = ((i + 2 : Nat) : Int) := by rw [wrap_i64 (by omega) (by omega)]; omega
      rw [i1]
      by_cases h : i + 1 < L.length
      · have hp := pairs_len (L.take i)
        rw [List.length_take, Nat.min_eq_left (by omega)] at hp
        have g1 : L[i]? = some L[i] := List.getElem?_eq_getElem (by omega)
        have g2 : L[i + 1]? = some L[i + 1] := List.getElem?_eq_getElem h
        obtain ⟨w1, w2⟩ := hw L[i] (List.getElem_mem _)
        obtain ⟨w3, w4⟩ := hw L[i + 1] (List.getElem_mem _)
        have s1 := hs L[i] (List.getElem_mem _)
        have s2 := hs L[i + 1] (List.getElem_mem _)
        rw [if_pos (by simp only [decide_eq_true_eq]; omega)]
        simp only [wi (show i < L.length by omega), wi h, if_true, Int.toNat_natCast, g1, g2, Option.bind_some, i2]
        rw [F58_two hN _ _ (by omega), Option.bind_some, wrap_i64 (by omega) (by omega), if_pos (by simp only [decide_eq_true_eq, List.length_singleton]; omega)]
        have et : pairs (L.take i) ++ [(L[i].1 + L[i + 1].1, L[i].2.1 ++ L[i + 1].2.1, ())] = pairs (L.take (i + 2)) := by
          have e : ∀ (p : Nat) (A : List Bun), A.length = 2 * p → ∀ x y : Bun, pairs (A ++ [x, y]) = pairs A ++ [(x.1 + y.1, x.2.1 ++ y.2.1, ())] := by
            intro p
            induction p with
            | zero =>
              intro A hA x y
              have : A = [] := List.eq_nil_of_length_eq_zero (by omega)
              subst this
              rfl
            | succ p ih =>
              intro A hA x y
              match A, hA with
              | a :: b :: A, hA =>
                rw [List.cons_append, List.cons_append, pairs, ih A (by simp at hA; omega) x y, pairs]
                rfl
          rw [← e (i / 2) (L.take i) (by rw [List.length_take]; omega)]
          congr 1
          have t1 : L.take (i + 1) = L.take i ++ [L[i]] := by rw [List.take_add_one, g1]; rfl
          have t2 : L.take (i + 2) = L.take (i + 1) ++ [L[i + 1]] := by rw [show i + 2 = i + 1 + 1 by omega, List.take_add_one, g2]; rfl
          rw [t2, t1, List.append_assoc]
          rfl
        rw [et, ih (i + 2) f (by omega) (by omega) (by omega) (by omega), Option.bind_some]
      · rw [if_neg (by simp only [decide_eq_true_eq]; omega)]
        congr 1
        by_cases h1 : L.length ≤ i
        · rw [List.take_of_length_le h1]
        · have hi1 : i < L.length := by omega
          have : pairs L = (pairs L).take (i / 2) := by rw [List.take_of_length_le]; rw [pairs_len]; omega
          rw [this, pairs_take, he]

theorem F40_pairs {N : Nat} (hN : 10000 < N) (L : List Bun) (hL : L.length ≤ 10000) (hw : ∀ x ∈ L, 0 ≤ x.1 ∧ x.1 ≤ 1000000000000000) (hs : ∀ x ∈ L, x.2.1.length ≤ 50000) : F40 N L = some (pairs L) := by
  simp only [F40]
  have := F40_loop (N := N) (by omega) L hL hw hs L.length 0 N (by omega) (by omega) (by omega) (by omega)
  rw [List.take_zero, show ((0 : Nat) : Int) = 0 from rfl, show pairs [] = [] from rfl] at this
  rw [this, Option.bind_some]

/-! ### The symbols that come -/
theorem okF_at {fr : List Int} (h : okF fr = true) {i : Nat} (hi : i < fr.length) : 0 ≤ fr.getD i 0 ∧ fr.getD i 0 ≤ 1073741824 := by
  unfold okF at h
  have := List.all_eq_true.1 h (fr[i]) (List.getElem_mem hi)
  rw [Bool.and_eq_true, decide_eq_true_eq, decide_eq_true_eq] at this
  rw [List.getD, List.getElem?_eq_getElem hi]
  exact this

theorem getAt {a : List Int} {i : Nat} (h : i < a.length) : a[i]? = some (a.getD i 0) := by
  rw [List.getD, List.getElem?_eq_getElem h]; rfl

theorem F38_loop (N : Nat) (fr : List Int) (hl : fr.length ≤ 1000) : ∀ (d i f : Nat), i + d = fr.length → d < f →
    ((∀ j, i ≤ j → j < fr.length → 0 ≤ fr.getD j 0 ∧ fr.getD j 0 ≤ 1073741824) → F38_58 N f ((fr.length : Int), fr, (i : Int), coinsTo fr i) = some (.inr (coinsTo fr fr.length))) ∧
    ((∃ j, i ≤ j ∧ j < fr.length ∧ ¬ (0 ≤ fr.getD j 0 ∧ fr.getD j 0 ≤ 1073741824)) → F38_58 N f ((fr.length : Int), fr, (i : Int), coinsTo fr i) = some (.inl (1, []))) := by
  intro d
  induction d with
  | zero =>
    intro i f hi hf
    cases f with
    | zero => omega
    | succ f =>
      simp only [F38_58, B38_58, iteP_eq]
      rw [if_neg (by simp only [decide_eq_true_eq]; omega), show i = fr.length by omega]
      exact ⟨fun _ => rfl, fun ⟨j, h1, h2, _⟩ => by omega⟩
  | succ d ih =>
    intro i f hi hf
    cases f with
    | zero => omega
    | succ f =>
      obtain ⟨ih1, ih2⟩ := ih (i + 1) f (by omega) (by omega)
      have hil : i < fr.length := by omega
      have i1 : IntKind.wrap .i64 ((i : Int) + 1) = ((i + 1 : Nat) : Int) := by rw [wrap_i64 (by omega) (by omega)]; omega
      have hcl := coinsTo_len fr i
      simp only [F38_58, B38_58, iteP_eq]
      rw [if_pos (by simp only [decide_eq_true_eq]; omega)]
      simp only [wi hil, if_true, Int.toNat_natCast, getAt hil, Option.bind_some, i1]
      by_cases h1 : fr.getD i 0 < 0
      · rw [if_pos (by simpa using h1)]
        exact ⟨fun h => by have := h i (Nat.le_refl _) hil; omega, fun _ => rfl⟩
      rw [if_neg (by simpa using h1)]
      by_cases h2 : fr.getD i 0 > 1073741824
      · rw [if_pos (by simpa using h2)]
        exact ⟨fun h => by have := h i (Nat.le_refl _) hil; omega, fun _ => rfl⟩
      rw [if_neg (by simpa using h2)]
      have hex : (∃ j, i ≤ j ∧ j < fr.length ∧ ¬ (0 ≤ fr.getD j 0 ∧ fr.getD j 0 ≤ 1073741824)) → ∃ j, i + 1 ≤ j ∧ j < fr.length ∧ ¬ (0 ≤ fr.getD j 0 ∧ fr.getD j 0 ≤ 1073741824) := by
        rintro ⟨j, q1, q2, q3⟩
        refine ⟨j, ?_, q2, q3⟩
        by_cases e : j = i
        · subst e; omega
        · omega
      by_cases h3 : 0 < fr.getD i 0
      · have e : coinsTo fr (i + 1) = coinsTo fr i ++ [(fr.getD i 0, [(i : Int)], ())] := by rw [coinsTo, if_pos h3]
        rw [if_pos (by simpa using h3), if_pos (by simp only [decide_eq_true_eq, List.length_singleton]; omega), ← e]
        exact ⟨fun h => by rw [ih1 fun j q1 q2 => h j (by omega) q2]; rfl, fun h => by rw [ih2 (hex h)]; rfl⟩
      · have e : coinsTo fr (i + 1) = coinsTo fr i := by rw [coinsTo, if_neg h3]
        rw [if_neg (by simpa using h3), ← e]
        exact ⟨fun h => by rw [ih1 fun j q1 q2 => h j (by omega) q2]; rfl, fun h => by rw [ih2 (hex h)]; rfl⟩

theorem F38_coins {N : Nat} (hN : 100000 < N) (fr : List Int) (hl : fr.length ≤ 1000) : F38 N fr = some (if okF fr = true then .inr (isort (coinsTo fr fr.length), 0) else .inl (1, [])) := by
  simp only [F38]
  obtain ⟨h1, h2⟩ := F38_loop N fr hl fr.length 0 N (by omega) (by omega)
  rw [show ((0 : Nat) : Int) = 0 from rfl, show coinsTo fr 0 = [] from rfl] at h1 h2
  cases ho : okF fr with
  | true =>
    rw [h1 fun j _ hj => okF_at ho hj, Option.bind_some]
    have hcl := coinsTo_len fr fr.length
    simp only [if_true]
    rw [F39_merged hN _ _ (by simp; omega), Option.bind_some, List.append_nil]
  | false =>
    have : ∃ j, 0 ≤ j ∧ j < fr.length ∧ ¬ (0 ≤ fr.getD j 0 ∧ fr.getD j 0 ≤ 1073741824) := by
      refine Classical.byContradiction fun hn => ?_
      have : okF fr = true := by
        unfold okF
        rw [List.all_eq_true]
        intro x hx
        obtain ⟨j, hj, e⟩ := List.getElem_of_mem hx
        have hg : fr.getD j 0 = x := by rw [List.getD, List.getElem?_eq_getElem hj, ← e]; rfl
        rw [Bool.and_eq_true, decide_eq_true_eq, decide_eq_true_eq]
        refine Classical.byContradiction fun hh => hn ⟨j, Nat.zero_le _, hj, ?_⟩
        rw [hg]; exact hh
      rw [ho] at this; cases this
    rw [h2 this, Option.bind_some]
    rfl

/-! ### Rows upon rows, and how often each comes -/
theorem pairs_syms_le {l : List Bun} {w : Nat} (h : ∀ x ∈ l, x.2.1.length ≤ w) : ∀ z ∈ pairs l, z.2.1.length ≤ 2 * w := by
  intro z hz
  have key : ∀ (l : List Bun), (∀ x ∈ l, x.2.1.length ≤ w) → z ∈ pairs l → z.2.1.length ≤ 2 * w := by
    intro l
    induction l using pairs.induct with
    | case1 x y l ih =>
      intro h hz
      rw [pairs] at hz
      rcases List.mem_cons.1 hz with rfl | hz
      · have h1 := h x (by simp)
        have h2 := h y (by simp)
        simp only [List.length_append]
        omega
      · exact ih (fun a ha => h a (by simp [ha])) hz
    | case2 l hl =>
      intro h hz
      match l, hl with
      | [], _ => cases hz
      | [x], _ => cases hz
      | x :: y :: l, hl => exact absurd rfl (hl x y l)
  exact key l h hz

theorem rowK_syms_le {l : List Bun} (h : ∀ x ∈ l, x.2.1.length ≤ 1) : ∀ k, ∀ x ∈ rowK l k, x.2.1.length ≤ 2 ^ k
  | 0 => h
  | k + 1 => fun x hx => by
    rcases List.mem_append.1 ((mrg_perm _ _).mem_iff.1 hx) with hx | hx
    · have := h x hx
      have hp : 1 ≤ 2 ^ (k + 1) := Nat.one_le_two_pow
      omega
    · have := pairs_syms_le (rowK_syms_le h k) x hx
      rw [Nat.pow_succ]; omega

theorem F17_rows {N : Nat} (hN : 100000 < N) {l : List Bun} (hs : Srt l) (hl : l.length ≤ 320) (hw : ∀ x ∈ l, 0 ≤ x.1 ∧ x.1 ≤ 1073741824) (h1 : ∀ x ∈ l, x.2.1.length ≤ 1) (out : List Int) (m : Nat) (hm : m ≤ 14) : ∀ (d k f : Nat), k + d = m → d < f →
    F17_4090 N f (rowK l k, (k : Int), (m : Int), l, out) = some (rowK l m, l, out) := by
  intro d
  induction d with
  | zero =>
    intro k f hk hf
    cases f with
    | zero => omega
    | succ f =>
      simp only [F17_4090, B17_4090, iteP_eq]
      rw [if_neg (by simp only [decide_eq_true_eq]; omega), show k = m by omega]
  | succ d ih =>
    intro k f hk hf
    cases f with
    | zero => omega
    | succ f =>
      have i1 : IntKind.wrap .i64 ((k : Int) + 1) = ((k + 1 : Nat) : Int) := by rw [wrap_i64 (by omega) (by omega)]; omega
      have hlen := rowK_len_le l k
      have hp : (2 : Nat) ^ k ≤ 2 ^ 14 := Nat.pow_le_pow_right (by decide) (by omega)
      have hp2 : (2 : Int) ^ k ≤ 16384 := by
        have : ((2 ^ k : Nat) : Int) ≤ ((2 ^ 14 : Nat) : Int) := Int.ofNat_le.2 hp
        simpa using this
      simp only [F17_4090, B17_4090, iteP_eq]
      rw [if_pos (by simp only [decide_eq_true_eq]; omega), F40_pairs (by omega) _ (by omega) (fun x hx => by
        have := rowK_max hw k x hx
        have h3 : (1073741824 : Int) * 2 ^ k ≤ 1073741824 * 16384 := Int.mul_le_mul_of_nonneg_left hp2 (by decide)
        omega) (fun x hx => by
        have := rowK_syms_le h1 k x hx
        omega), Option.bind_some, F39_merged hN _ _ (by rw [pairs_len]; omega), Option.bind_some, rowK_next hs, i1, ih (k + 1) f (by omega) (by omega), Option.bind_some]

theorem F17_inner (N n : Nat) (x2 : List Bun) (x3 x4 : Int) (C : List Int) (hC : C.length ≤ 50000) (hC2 : ∀ s ∈ C, ∃ j : Nat, j < n ∧ s = (j : Int)) (S0 : List Int) (hS : S0.length + C.length ≤ 1000000) : ∀ (d i f : Nat), i + d = C.length → d < f →
    F17_2095718 N f ((i : Int), (C.length : Int), x2, x3, x4, C, cnts n (S0 ++ C.take i)) = some (x4, x3, x2, cnts n (S0 ++ C)) := by
  intro d
  induction d with
  | zero =>
    intro i f hi hf
    cases f with
    | zero => omega
    | succ f =>
      simp only [F17_2095718, B17_2095718, iteP_eq]
      rw [if_neg (by simp only [decide_eq_true_eq]; omega), List.take_of_length_le (by omega)]
  | succ d ih =>
    intro i f hi hf
    cases f with
    | zero => omega
    | succ f =>
      have hil : i < C.length := by omega
      have i1 : IntKind.wrap .i64 ((i : Int) + 1) = ((i + 1 : Nat) : Int) := by rw [wrap_i64 (by omega) (by omega)]; omega
      have hg : C[i]? = some C[i] := List.getElem?_eq_getElem hil
      obtain ⟨j, hj, ej⟩ := hC2 C[i] (List.getElem_mem hil)
      have hcl := cnts_len n (S0 ++ C.take i)
      have hcnt : (S0 ++ C.take i).count (j : Int) ≤ 1000000 := Nat.le_trans List.count_le_length (by rw [List.length_append, List.length_take]; omega)
      have ih' := ih (i + 1) f (by omega) (by omega)
      have et : S0 ++ C.take (i + 1) = (S0 ++ C.take i) ++ [(j : Int)] := by rw [List.take_add_one, hg, ← ej]; simp
      rw [et] at ih'
      simp only [F17_2095718, B17_2095718, iteP_eq]
      rw [if_pos (by simp only [decide_eq_true_eq]; omega)]
      simp only [wi hil, if_true, Int.toNat_natCast, hg, Option.bind_some, i1, ej, hcl, wi hj, cnts_get n _ hj]
      rw [wrap_i64 (by omega) (by omega), cnts_snoc n _ hj, ih', Option.bind_some]

theorem F17_outer {N : Nat} (hN : 100000 < N) (n : Nat) (T : List Bun) (hT : T.length ≤ 1000) (hs : ∀ x ∈ T, x.2.1.length ≤ 50000 ∧ ∀ s ∈ x.2.1, ∃ j : Nat, j < n ∧ s = (j : Int)) (htot : (syms T).length ≤ 900000) : ∀ (d i f : Nat), i + d = T.length → d < f →
    F17_8186 N f ((T.length : Int), T, (i : Int), cnts n (syms (T.take i))) = some (cnts n (syms T)) := by
  intro d
  induction d with
  | zero =>
    intro i f hi hf
    cases f with
    | zero => omega
    | succ f =>
      simp only [F17_8186, B17_8186, iteP_eq]
      rw [if_neg (by simp only [decide_eq_true_eq]; omega), List.take_of_length_le (by omega)]
  | succ d ih =>
    intro i f hi hf
    cases f with
    | zero => omega
    | succ f =>
      have hil : i < T.length := by omega
      have i1 : IntKind.wrap .i64 ((i : Int) + 1) = ((i + 1 : Nat) : Int) := by rw [wrap_i64 (by omega) (by omega)]; omega
      have hg : T[i]? = some T[i] := List.getElem?_eq_getElem hil
      obtain ⟨s1, s2⟩ := hs T[i] (List.getElem_mem hil)
      have hsplit : syms T = syms (T.take i) ++ syms (T.drop i) := by rw [← syms_append, List.take_append_drop]
      have hle : (syms (T.take i)).length ≤ 900000 := by
        have := congrArg List.length hsplit
        rw [List.length_append] at this
        omega
      have hin := F17_inner N n T (T.length : Int) (i : Int) T[i].2.1 s1 s2 (syms (T.take i)) (by omega) T[i].2.1.length 0 N (by omega) (by omega)
      rw [List.take_zero, List.append_nil, show ((0 : Nat) : Int) = 0 from rfl] at hin
      have et : syms (T.take i) ++ T[i].2.1 = syms (T.take (i + 1)) := by
        rw [List.take_add_one, hg, syms_append]
        simp [syms]
      rw [et] at hin
      simp only [F17_8186, B17_8186, iteP_eq]
      rw [if_pos (by simp only [decide_eq_true_eq]; omega)]
      simp only [wi hil, if_true, Int.toNat_natCast, hg, Option.bind_some]
      rw [hin, Option.bind_some]
      simp only
      rw [i1, ih (i + 1) f (by omega) (by omega), Option.bind_some]
end Go.Proofs.Ytpjkklailofkjaa.Am

namespace Go.Proofs.Ytpjkklailofkjaa.Am
open Go.Am
set_option linter.unusedSimpArgs false
set_option linter.unusedVariables false

theorem rowK_syms_in {l : List Bun} {Q : Int → Prop} (h : ∀ x ∈ l, ∀ s ∈ x.2.1, Q s) : ∀ k, ∀ x ∈ rowK l k, ∀ s ∈ x.2.1, Q s
  | 0 => h
  | k + 1 => fun x hx => by
    rcases List.mem_append.1 ((mrg_perm _ _).mem_iff.1 hx) with hx | hx
    · exact h x hx
    · have key : ∀ (l : List Bun), (∀ x ∈ l, ∀ s ∈ x.2.1, Q s) → x ∈ pairs l → ∀ s ∈ x.2.1, Q s := by
        intro l
        induction l using pairs.induct with
        | case1 a b l ih =>
          intro h hz
          rw [pairs] at hz
          rcases List.mem_cons.1 hz with rfl | hz
          · intro s hs
            rcases List.mem_append.1 hs with hs | hs
            · exact h a (by simp) s hs
            · exact h b (by simp) s hs
          · exact ih (fun y hy => h y (by simp [hy])) hz
        | case2 l hl =>
          intro h hz
          match l, hl with
          | [], _ => cases hz
          | [a], _ => cases hz
          | a :: b :: l, hl => exact absurd rfl (hl a b l)
      exact key _ (rowK_syms_in h k) hx

theorem flat_len {l : List Bun} (h1 : ∀ x ∈ l, ∃ s, x.2.1 = [s]) : ∀ lv : List Nat, (lv.flatMap fun c => syms (l.take c)).length ≤ lv.length * l.length
  | [] => by simp
  | c :: lv => by
    have ih := flat_len h1 lv
    obtain ⟨e1, e2⟩ := syms_single h1
    rw [List.flatMap_cons, List.length_append, e2 c, List.length_take, e1, List.length_cons, Nat.succ_mul]
    omega

theorem pow_i (k : Nat) : ((2 ^ k : Nat) : Int) = (2 : Int) ^ k := by simp

/-- THE BEST LENGTHS, as the code counts them. -/
theorem F17_lens (fr : List Int) (most : Int) : F17 200000 (fr, most) = some (lensR fr most) := by
  unfold lensR
  simp only [F17, iteP_eq]
  by_cases h1 : 320 < fr.length
  · rw [if_pos (by simp only [decide_eq_true_eq]; omega), if_pos (.inl h1)]
  rw [if_neg (by simp only [decide_eq_true_eq]; omega)]
  by_cases h2 : most < 1
  · rw [if_pos (by simpa using h2), if_pos (.inr (.inl h2))]
  rw [if_neg (by simpa using h2)]
  by_cases h3 : 15 < most
  · rw [if_pos (by simpa using h3), if_pos (.inr (.inr (.inl h3)))]
  rw [if_neg (by simpa using h3), F38_coins (by decide) fr (by omega), Option.bind_some]
  cases ho : okF fr with
  | false =>
    simp only [Bool.false_eq_true, if_false]
    rw [if_pos (show ((1 : Int) != 0) = true by decide), if_pos (.inr (.inr (.inr trivial)))]
  | true =>
    simp only [if_true]
    rw [if_neg (show ¬ (320 < fr.length ∨ most < 1 ∨ 15 < most ∨ true = false) by simp; omega)]
    have hco := coins_ok fr
    have hp := isort_perm (coinsTo fr fr.length)
    have hlen := isort_len (coinsTo fr fr.length)
    have hcl := coinsTo_len fr fr.length
    have hin : ∀ x ∈ isort (coinsTo fr fr.length), (0 ≤ x.1 ∧ x.1 ≤ 1073741824) ∧ ∃ j : Nat, j < fr.length ∧ x.2.1 = [(j : Int)] := fun x hx => by
      obtain ⟨j, j1, j2, e⟩ := coinsTo_mem fr _ x (hp.mem_iff.1 hx)
      have := okF_at ho j1
      rw [e]
      exact ⟨this, j, j1, rfl⟩
    rw [← hlen]
    generalize isort (coinsTo fr fr.length) = l at *
    obtain ⟨m, hm⟩ : ∃ m : Nat, most = (m : Int) := ⟨most.toNat, by omega⟩
    subst hm
    have hm15 : m ≤ 15 := by omega
    have hp15 : 2 ^ m ≤ 2 ^ 15 := Nat.pow_le_pow_right (by decide) hm15
    have ew : IntKind.wrap .i64 ((1 : Int) * 2 ^ min (Int.toNat (m : Int)) 64) = ((2 ^ m : Nat) : Int) := by
      rw [Int.toNat_natCast, Nat.min_eq_left (by omega), Int.one_mul, ← pow_i]
      generalize 2 ^ m = q at *
      exact wrap_i64 (by omega) (by omega)
    have hpw : ∃ q, q = 2 ^ m := ⟨_, rfl⟩
    obtain ⟨q, hq⟩ := hpw
    rw [← hq] at ew hp15
    rw [if_neg (show ¬ ((0 : Int) != 0) = true by decide), if_neg (show ¬ decide ((m : Int) < 0) = true by simp only [decide_eq_true_eq]; omega), ew]
    simp only [Int.toNat_natCast]
    rw [← hq]
    by_cases h4 : q < l.length
    · rw [if_pos (by simp only [decide_eq_true_eq]; omega), if_pos h4]
    rw [if_neg (by simp only [decide_eq_true_eq]; omega), if_neg h4, if_pos (by simp only [decide_eq_true_eq]; omega)]
    by_cases h5 : l.length = 1
    · obtain ⟨x, rfl⟩ := List.length_eq_one_iff.1 h5
      obtain ⟨_, j, hj, ex⟩ := hin x (List.mem_singleton_self _)
      rw [if_pos (by simp), if_pos (by rfl), List.getElem?_cons_zero, Option.bind_some, ex, if_pos (by rfl), List.getElem?_cons_zero, Option.bind_some, List.length_replicate, if_pos (wi hj), Int.toNat_natCast, List.getElem?_replicate, if_pos hj, Option.bind_some, if_pos (by simp)]
      have hc := cnts_snoc fr.length [] hj
      rw [cnts_nil] at hc
      have e : pickS [x] m = [(j : Int)] := by
        unfold pickS
        rw [if_pos h5]
        simp [syms, ex]
      rw [e]
      exact congrArg (fun z => some ((0 : Int), z)) hc
    · rw [if_neg (by simp only [beq_iff_eq]; omega)]
      by_cases h6 : l.length < 2
      · rw [if_pos (by simp only [decide_eq_true_eq]; omega)]
        unfold pickS
        rw [if_neg h5, if_pos h6, cnts_nil]
      · rw [if_neg (by simp only [decide_eq_true_eq]; omega)]
        obtain ⟨K, rfl⟩ : ∃ K, m = K + 1 := ⟨m - 1, by omega⟩
        have i1 : IntKind.wrap .i64 (((K + 1 : Nat) : Int) - 1) = (K : Int) := by rw [wrap_i64 (by omega) (by omega)]; omega
        have h1' : ∀ x ∈ l, x.2.1.length ≤ 1 := fun x hx => by
          obtain ⟨_, j, _, e⟩ := hin x hx
          rw [e]; exact Nat.le_refl _
        have hr := F17_rows (N := 200000) (by decide) hco.srt (by omega) (fun x hx => (hin x hx).1) h1' (List.replicate fr.length 0) K (by omega) K 0 200000 (by omega) (by omega)
        have hr' : F17_4090 200000 200000 (l, 0, (K : Int), l, List.replicate fr.length 0) = some (rowK l K, l, List.replicate fr.length 0) := hr
        have hen := rowK_enough l (k := K) (by omega)
        have i2 : IntKind.wrap .i64 (IntKind.wrap .i64 ((2 : Int) * (l.length : Int)) - 2) = ((2 * l.length - 2 : Nat) : Int) := by
          rw [wrap_i64 (z := (2 : Int) * (l.length : Int)) (by omega) (by omega), wrap_i64 (by omega) (by omega)]; omega
        rw [i1, hr', Option.bind_some]
        simp only
        rw [i2, if_pos (by simp only [decide_eq_true_eq]; omega), Int.toNat_natCast, Nat.sub_zero, List.drop_zero]
        have hall : ∀ x ∈ rowK l K, ∀ s ∈ x.2.1, ∃ j : Nat, j < fr.length ∧ s = (j : Int) := rowK_syms_in (Q := fun s => ∃ j : Nat, j < fr.length ∧ s = (j : Int)) (fun x hx s hs => by
          obtain ⟨_, j, hj, e⟩ := hin x hx
          rw [e] at hs
          exact ⟨j, hj, List.mem_singleton.1 hs⟩) K
        have hp14 : (2 : Nat) ^ K ≤ 2 ^ 14 := Nat.pow_le_pow_right (by decide) (by omega)
        have htot : (syms ((rowK l K).take (2 * l.length - 2))).length ≤ 900000 := by
          have hs := (sel_syms (l := l) K (2 * l.length - 2) hen).1.length_eq
          have hf := flat_len hco.one (sel l K (2 * l.length - 2))
          rw [sel_len] at hf
          have : (K + 1) * l.length ≤ 15 * 320 := Nat.mul_le_mul (by omega) (by omega)
          omega
        have ho := F17_outer (N := 200000) (by decide) fr.length ((rowK l K).take (2 * l.length - 2)) (by rw [List.length_take]; omega) (fun x hx => ⟨by
          have := rowK_syms_le h1' K x (List.mem_of_mem_take hx)
          omega, hall x (List.mem_of_mem_take hx)⟩) htot ((rowK l K).take (2 * l.length - 2)).length 0 200000 (by omega) (by rw [List.length_take]; omega)
        rw [List.take_zero, show syms [] = [] from rfl, cnts_nil, show ((0 : Nat) : Int) = 0 from rfl] at ho
        rw [ho, Option.bind_some]
        unfold pickS
        rw [if_neg h5, if_neg h6, Nat.add_sub_cancel]
end Go.Proofs.Ytpjkklailofkjaa.Am
