/- Texts deflated and framed, and read again by the document: the Lean function that ZstreamWhole comes to answers true at every input. -/
import Derived.Test.YteddgkplkjldcaaGreatPC
import Derived.Test.YteddgkplkjldcaaGreatPA
import Derived.Test.YteddgkplkjldcaaGreatSC
import Derived.Test.YteddgkplkjldcaaGreatPB
set_option linter.unusedSimpArgs false
set_option linter.unusedVariables false
namespace Go.Proofs.YteddgkplkjldcaaGreat.Am
open Go.Am
theorem J4 {β : Type} (k : Ty) (a : k.den) : ∀ (l : List (k.den × β)) (n : Nat) (b : β), dI k a l = some (n, b) → ∃ e ∈ l, e.2 = b
  | [], n, b, h => by cases h
  | e :: l, n, b, h => by
    unfold dI at h
    cases he : SY k a e.1 with
    | true =>
      rw [he] at h
      cases h
      exact ⟨e, List.mem_cons_self .., rfl⟩
    | false =>
      rw [he] at h
      simp only [cond_false] at h
      cases hf : dI k a l with
      | none => rw [hf] at h; cases h
      | some p =>
        obtain ⟨m, c⟩ := p
        rw [hf] at h
        cases h
        obtain ⟨e', h1, h2⟩ := J4 k a l m b hf
        exact ⟨e', List.mem_cons_of_mem _ h1, h2⟩
theorem get_mem {β : Type} {k : Ty} {a : k.den} {z : β} {l : List (k.den × β)} (h : ij k a l = true) : ∃ e ∈ l, gh k a z l = e.2 := by
  unfold ij at h
  cases hf : dI k a l with
  | none => rw [hf] at h; cases h
  | some p =>
    obtain ⟨m, c⟩ := p
    obtain ⟨e, h1, h2⟩ := J4 k a l m c hf
    refine ⟨e, h1, ?_⟩
    unfold gh
    rw [hf, h2]
theorem put_mem {β : Type} {k : Ty} {a : k.den} {b : β} {l : List (k.den × β)} {e : k.den × β} (h : e ∈ dW k a b l) : e ∈ l ∨ e.2 = b := by
  unfold dW at h
  split at h
  · rcases List.mem_or_eq_of_mem_set h with h | h
    · exact .inl h
    · rw [h]; exact .inr rfl
  · rcases List.mem_append.1 h with h | h
    · exact .inl h
    · rw [List.mem_singleton.1 h]; exact .inr rfl
structure Inv (at_ : Nat) (M : List (ByteArray × Int)) (A : List Int) : Prop where
  len : A.length = at_
  m : ∀ e ∈ M, 0 ≤ e.2 ∧ e.2 < (at_ : Int)
  a : ∀ i, i < at_ → -1 ≤ A.getD i 0 ∧ A.getD i 0 < (i : Int)
theorem PP {i : Nat} {M : List (ByteArray × Int)} {A : List Int} (h : Inv i M A) {v : Int} (h0 : -1 ≤ v) (h1 : v < (i : Int)) : Inv (i + 1) M (A ++ [v]) := by
  refine ⟨by rw [List.length_append, List.length_singleton, h.len], fun e he => ?_, fun j hj => ?_⟩
  · have := h.m e he; omega
  · by_cases e : j < i
    · rw [List.getD, List.getElem?_append_left (by rw [h.len]; exact e)]
      exact h.a j e
    · have : j = i := by omega
      subst this
      rw [List.getD, List.getElem?_append_right (by rw [h.len]; omega), h.len, Nat.sub_self]
      exact ⟨h0, h1⟩
theorem TJ {i : Nat} {M : List (ByteArray × Int)} {A : List Int} (h : Inv (i + 1) M A) (k : ByteArray) : Inv (i + 1) (dW Ty.str k (i : Int) M) A := by
  refine ⟨h.len, fun e he => ?_, h.a⟩
  rcases put_mem he with h1 | h1
  · exact h.m e h1
  · rw [h1]; omega
def E6 (T : ByteArray) (i : Nat) : ByteArray := T.extract i (i + 3)
def MD (T : ByteArray) (i : Nat) (M : List (ByteArray × Int)) : List (ByteArray × Int) := if i + 3 ≤ T.size then dW Ty.str (E6 T i) (i : Int) M else M
def HQ (T : ByteArray) (i : Nat) (M : List (ByteArray × Int)) (A : List Int) : List Int := A ++ [if i + 3 ≤ T.size ∧ ij Ty.str (E6 T i) M = true then gh Ty.str (E6 T i) 0 M else -1]
theorem J0 {T : ByteArray} {i : Nat} {M : List (ByteArray × Int)} {A : List Int} (h : Inv i M A) : Inv (i + 1) (MD T i M) (HQ T i M A) := by
  have hp : Inv (i + 1) M (HQ T i M A) := by
    unfold HQ
    refine PP h ?_ ?_
    · split
      · rename_i hc
        obtain ⟨e, h1, h2⟩ := get_mem (z := 0) hc.2
        rw [h2]
        have := h.m e h1
        omega
      · omega
    · split
      · rename_i hc
        obtain ⟨e, h1, h2⟩ := get_mem (z := 0) hc.2
        rw [h2]
        exact (h.m e h1).2
      · omega
  unfold MD
  split
  · exact TJ hp _
  · exact hp
theorem Gi (N : Nat) (T : ByteArray) (hT : T.size ≤ 100000000) {i : Nat} (hi : i ≤ T.size) (M : List (ByteArray × Int)) (A : List Int) (hA : A.length = i) :
    No N ((i : Int), T, M, A) = some (T, MD T i M, HQ T i M A) := by
  have w : IntKind.wrap .i64 ((i : Int) + 3) = ((i + 3 : Nat) : Int) := by rw [wrap_i64 (by omega) (by omega)]; omega
  simp only [No, ae]
  rw [w]
  unfold MD HQ
  by_cases h3 : i + 3 ≤ T.size
  · have ek : T.extract (Int.toNat (i : Int)) (Int.toNat ((i + 3 : Nat) : Int)) = E6 T i := by rw [Int.toNat_natCast, Int.toNat_natCast]; rfl
    rw [bd (by omega), bd (by omega), if_pos (by rw [Int.toNat_natCast]; simp only [decide_eq_true_eq]; omega), ek, if_pos h3]
    cases hm : ij Ty.str (E6 T i) M with
    | true =>
      rw [if_pos rfl, if_pos (by rw [decide_eq_true_eq, List.length_singleton]; omega), if_pos ⟨h3, rfl⟩]
    | false =>
      rw [if_neg (by decide), if_pos (by rw [decide_eq_true_eq]; omega), if_neg (fun h => by cases h.2)]
  · rw [aY (by omega), if_pos (by rw [decide_eq_true_eq]; omega), if_neg h3, if_neg (fun h => h3 h.1)]
def bb (T : ByteArray) (i : Nat) : Int := ((T.data.toList.getD i 0).toNat : Int)
def TW (T : ByteArray) (p q : Nat) : Nat → Nat → Nat
  | 0, n => n
  | d + 1, n => if n < 258 ∧ q + n < T.size ∧ bb T (p + n) = bb T (q + n) then TW T p q d (n + 1) else n
theorem QI (T : ByteArray) (p q : Nat) : ∀ (d n : Nat), n ≤ 258 → q + n ≤ T.size → (∀ k, k < n → bb T (p + k) = bb T (q + k)) →
    n ≤ TW T p q d n ∧ TW T p q d n ≤ 258 ∧ q + TW T p q d n ≤ T.size ∧ ∀ k, k < TW T p q d n → bb T (p + k) = bb T (q + k) := by
  intro d
  induction d with
  | zero => intro n h1 h2 h3; exact ⟨Nat.le_refl _, h1, h2, h3⟩
  | succ d ih =>
    intro n h1 h2 h3
    unfold TW
    by_cases h : n < 258 ∧ q + n < T.size ∧ bb T (p + n) = bb T (q + n)
    · rw [if_pos h]
      obtain ⟨a, b, c, e⟩ := ih (n + 1) (by omega) (by omega) fun k hk => by
        by_cases hkn : k < n
        · exact h3 k hkn
        · rw [show k = n by omega]; exact h.2.2
      exact ⟨by omega, b, c, e⟩
    · rw [if_neg h]
      exact ⟨Nat.le_refl _, h1, h2, h3⟩
def NX (T : ByteArray) (p q : Nat) : Nat := TW T p q 259 0
theorem FP {T : ByteArray} (p : Nat) {q : Nat} (hq : q ≤ T.size) : NX T p q ≤ 258 ∧ q + NX T p q ≤ T.size ∧ ∀ k, k < NX T p q → bb T (p + k) = bb T (q + k) :=
  (QI T p q 259 0 (by omega) (by omega) fun k hk => by omega).2
theorem FC {T : ByteArray} {i : Nat} (h : i < T.size) : T[i]? = some (T.data.toList.getD i 0) := byte_at T i h
theorem M7 (N : Nat) (T : ByteArray) (hT : T.size ≤ 100000000) {p q : Nat} (hpq : p < q) (hqs : q ≤ T.size) (M : List (ByteArray × Int)) (A : List Int) : ∀ (d n f : Nat), n ≤ 258 → d + n = 259 → d < f →
    kU N f ((n : Int), (p : Int), (q : Int), T, M, A) = some (((TW T p q d n : Nat) : Int), T, M, A) := by
  intro d
  induction d with
  | zero => intro n f h1 h2 hf; omega
  | succ d ih =>
    intro n f h1 h2 hf
    cases f with
    | zero => omega
    | succ f =>
      simp only [kU, D4, ae]
      unfold TW
      by_cases hn : n < 258
      · rw [bd (by omega)]
        by_cases hs : q + n < T.size
        · have w1 : IntKind.wrap .i64 ((q : Int) + (n : Int)) = ((q + n : Nat) : Int) := by rw [wrap_i64 (by omega) (by omega)]; omega
          have w2 : IntKind.wrap .i64 ((p : Int) + (n : Int)) = ((p + n : Nat) : Int) := by rw [wrap_i64 (by omega) (by omega)]; omega
          have w3 : IntKind.wrap .i64 ((n : Int) + 1) = ((n + 1 : Nat) : Int) := by rw [wrap_i64 (by omega) (by omega)]; omega
          rw [w1, w2, bd (by omega), bd (by omega), Int.toNat_natCast, Int.toNat_natCast, FC (show p + n < T.size by omega), Option.bind_some, bd (by omega), FC hs, Option.bind_some]
          show (if (bb T (p + n) == bb T (q + n)) = true then _ else _) = _
          by_cases he : bb T (p + n) = bb T (q + n)
          · rw [if_pos (by rw [he]; exact beq_self_eq_true _), if_pos ⟨hn, hs, he⟩, w3, ih (n + 1) f (by omega) (by omega) (by omega)]
            rfl
          · rw [if_neg (by simpa using he), if_neg (fun h => he h.2.2)]
        · have w1 : IntKind.wrap .i64 ((q : Int) + (n : Int)) = ((q + n : Nat) : Int) := by rw [wrap_i64 (by omega) (by omega)]; omega
          rw [w1, aY (by omega), if_neg (fun h => hs h.2.1)]
      · rw [aY (by omega), if_neg (fun h => hn h.1)]
theorem I6 {N : Nat} (hN : 300 ≤ N) (T : ByteArray) (hT : T.size ≤ 100000000) {p q : Nat} (hpq : p < q) (hqs : q ≤ T.size) (M : List (ByteArray × Int)) (A : List Int) :
    Sq N ((p : Int), (q : Int), T, M, A) = some (((NX T p q : Nat) : Int), T, M, A) := by
  have h := M7 N T hT hpq hqs M A 259 0 N (by omega) (by omega) (by omega)
  rw [show ((0 : Nat) : Int) = 0 from rfl] at h
  simp only [Sq]
  rw [h, Option.bind_some]
  rfl
def tO (T : ByteArray) (q : Nat) (tl td : Int) : Prop := (tl = 0 ∧ td = 0) ∨ ∃ p : Nat, p < q ∧ q - p ≤ 32768 ∧ td = ((q - p : Nat) : Int) ∧ tl = ((NX T p q : Nat) : Int) ∧ 0 < tl
theorem Nm {N : Nat} (hN : 300 ≤ N) (T : ByteArray) (hT : T.size ≤ 100000000) {q : Nat} (hqs : q ≤ T.size) (M : List (ByteArray × Int)) (A : List Int) (hI : Inv q M A) (ok : Bool) : ∀ (d n f : Nat) (p tl td : Int), d + n = 64 → d < f → (ok = true → p < (q : Int) ∧ -1 ≤ p) → tO T q tl td →
    ∃ tl' td', bT N f (p, (n : Int), ok, (q : Int), T, 0, 0, 0, 0, tl, td, M, A) = some (T, 0, tl', td', 0, 0, 0, M, A) ∧ tO T q tl' td' ∧ (((min 258 (T.size - q) : Nat) : Int) ≤ tl → tl' = tl ∧ td' = td) := by
  intro d
  induction d with
  | zero =>
    intro n f p tl td h1 hf hp hP
    cases f with
    | zero => omega
    | succ f =>
      refine ⟨tl, td, ?_, hP, fun _ => ⟨rfl, rfl⟩⟩
      simp only [bT, ga, ae]
      cases ok with
      | true => rw [if_pos rfl, aY (by omega)]
      | false => rw [if_neg (by decide)]
  | succ d ih =>
    intro n f p tl td h1 hf hp hP
    cases f with
    | zero => omega
    | succ f =>
      cases ok with
      | false =>
        refine ⟨tl, td, ?_, hP, fun _ => ⟨rfl, rfl⟩⟩
        simp only [bT, ga, ae]
        rw [if_neg (by decide)]
      | true =>
        obtain ⟨p1, p2⟩ := hp rfl
        by_cases h0 : p ≥ 0
        · obtain ⟨k, rfl⟩ := Int.eq_ofNat_of_zero_le h0
          have hkq : k < q := by omega
          have w : IntKind.wrap .i64 ((q : Int) - (k : Int)) = ((q - k : Nat) : Int) := by rw [wrap_i64 (by omega) (by omega)]; omega
          have w2 : IntKind.wrap .i64 ((n : Int) + 1) = ((n + 1 : Nat) : Int) := by rw [wrap_i64 (by omega) (by omega)]; omega
          by_cases hw : q - k ≤ 32768
          · have hal := FP k hqs
            have hak : within (k : Int) A.length = true := au (by rw [hI.len]; exact hkq)
            have hag : A[k]? = some (A.getD k 0) := bp (by rw [hI.len]; exact hkq)
            obtain ⟨a1, a2⟩ := hI.a k hkq
            have hbody : ∀ r, ga N (bT N f) ((k : Int), (n : Int), true, (q : Int), T, 0, 0, 0, 0, tl, td, M, A) = r ↔ (if ((NX T k q : Nat) : Int) > tl then bT N f (A.getD k 0, ((n + 1 : Nat) : Int), true, (q : Int), T, 0, 0, 0, 0, ((NX T k q : Nat) : Int), ((q - k : Nat) : Int), M, A) else bT N f (A.getD k 0, ((n + 1 : Nat) : Int), true, (q : Int), T, 0, 0, 0, 0, tl, td, M, A)) = r := by
              intro r
              simp only [ga, gS, ae]
              rw [if_pos trivial, bd (by omega), bd (by omega), w, bd (by omega), I6 hN T hT hkq hqs, Option.bind_some]
              simp only
              by_cases hg : ((NX T k q : Nat) : Int) > tl
              · rw [if_pos (by simpa using hg), if_pos hak, Int.toNat_natCast, hag, Option.bind_some, Option.bind_some, w2, if_pos hg]
                simp only
                rw [Option.bind_fun_some]
              · rw [if_neg (by simpa using hg), if_pos hak, Int.toNat_natCast, hag, Option.bind_some, Option.bind_some, w2, if_neg hg]
                simp only
                rw [Option.bind_fun_some]
            by_cases hg : ((NX T k q : Nat) : Int) > tl
            · have htl : 0 ≤ tl := by
                rcases hP with ⟨e, _⟩ | ⟨_, _, _, _, _, e⟩ <;> omega
              obtain ⟨tl', td', e1, e2, e3⟩ := ih (n + 1) f (A.getD k 0) ((NX T k q : Nat) : Int) ((q - k : Nat) : Int) (by omega) (by omega) (fun _ => ⟨by omega, a1⟩) (.inr ⟨k, hkq, hw, rfl, rfl, by omega⟩)
              refine ⟨tl', td', ?_, e2, fun hmax => ?_⟩
              · rw [bT, (hbody _), if_pos hg]; exact e1
              · omega
            · obtain ⟨tl', td', e1, e2, e3⟩ := ih (n + 1) f (A.getD k 0) tl td (by omega) (by omega) (fun _ => ⟨by omega, a1⟩) hP
              refine ⟨tl', td', ?_, e2, e3⟩
              rw [bT, (hbody _), if_neg hg]; exact e1
          · refine ⟨tl, td, ?_, hP, fun _ => ⟨rfl, rfl⟩⟩
            simp only [bT, ga, ae]
            rw [if_pos trivial, bd (by omega), bd (by omega), w, aY (by omega)]
        · refine ⟨tl, td, ?_, hP, fun _ => ⟨rfl, rfl⟩⟩
          simp only [bT, ga, ae]
          rw [if_pos trivial, bd (by omega), aY (by omega)]
theorem ru {T : ByteArray} {i : Nat} (h : i < T.size) : (bytesOf T).getD i 0 = bb T i := by
  have hs : T.data.toList.length = T.size := by simp
  rw [bG, List.getD, List.getElem?_map, List.getElem?_eq_getElem (by omega)]
  unfold bb
  rw [List.getD, List.getElem?_eq_getElem (by omega)]
  rfl
theorem FI (T : ByteArray) (i : Nat) : 0 ≤ bb T i ∧ bb T i ≤ 255 := by
  unfold bb
  have := (T.data.toList.getD i 0).toNat_lt
  omega
theorem Nn {N : Nat} (hN : 300 ≤ N) (T : ByteArray) (hT : T.size ≤ 100000000) {q : Nat} (hqs : q ≤ T.size) (M : List (ByteArray × Int)) (A : List Int) (hI : Inv q M A) :
    ∃ tl td, Sz N ((q : Int), T, M, A) = some (0, tl, td, decide (tl ≥ 3), T, M, A) ∧ tO T q tl td := by
  have w : IntKind.wrap .i64 ((q : Int) + 3) = ((q + 3 : Nat) : Int) := by rw [wrap_i64 (by omega) (by omega)]; omega
  simp only [Sz, ae]
  rw [w]
  by_cases h3 : T.size < q + 3
  · rw [bd (by omega)]
    exact ⟨0, 0, rfl, .inl ⟨rfl, rfl⟩⟩
  · rw [aY (by omega), bd (by omega), if_pos (by rw [Int.toNat_natCast]; simp only [decide_eq_true_eq]; omega)]
    rw [Int.toNat_natCast, Int.toNat_natCast]
    obtain ⟨tl, td, e1, e2, _⟩ := Nm hN T hT hqs M A hI (ij Ty.str (T.extract q (q + 3)) M) 64 0 N (gh Ty.str (T.extract q (q + 3)) 0 M) 0 0 (by omega) (by omega) (fun hh => by
      obtain ⟨e, h1, h2⟩ := get_mem (z := 0) hh
      rw [h2]
      have := hI.m e h1
      omega) (.inl ⟨rfl, rfl⟩)
    rw [show ((0 : Nat) : Int) = 0 from rfl] at e1
    rw [e1, Option.bind_some]
    exact ⟨tl, td, rfl, e2⟩
theorem Mt {B : List Int} {q D : Nat} (hD : 1 ≤ D) (hDq : D ≤ q) : ∀ (k i : Nat), q + i + k ≤ B.length → (∀ n, n < i + k → B.getD (q - D + n) 0 = B.getD (q + n) 0) → lq D k (B.take (q + i)) = B.take (q + i + k) := by
  intro k
  induction k with
  | zero => intro i _ _; rfl
  | succ k ih =>
    intro i h1 h2
    have hl : (B.take (q + i)).length = q + i := by rw [List.length_take]; omega
    have e1 : (B.take (q + i)).getD (q + i - D) 0 = B.getD (q + i) 0 := by
      rw [List.getD, List.getElem?_take_of_lt (by omega)]
      have := h2 i (by omega)
      rw [show q - D + i = q + i - D by omega] at this
      exact this
    have e2 : B.take (q + i) ++ [B.getD (q + i) 0] = B.take (q + (i + 1)) := by
      rw [show q + (i + 1) = q + i + 1 by omega, List.take_add_one, List.getD, List.getElem?_eq_getElem (show q + i < B.length by omega)]
      rfl
    unfold lq
    rw [hl, e1, e2, ih (i + 1) (by omega) fun n hn => h2 n (by omega), show q + (i + 1) + k = q + i + (k + 1) by omega]
def Steps (T : ByteArray) (q : Nat) (t : Tok) (k : Nat) : Prop :=
  bu t.1 t.2.1 t.2.2.1 = true ∧ 0 < k ∧ q + k ≤ T.size ∧ bX t = k ∧ fL ((bytesOf T).take q) t = some ((bytesOf T).take (q + k))
theorem LL {T : ByteArray} {q : Nat} (hq : q < T.size) : Steps T q (bb T q, 0, 0, ()) 1 := by
  obtain ⟨b0, b1⟩ := FI T q
  have hl := dp T
  refine ⟨?_, by omega, by omega, rfl, ?_⟩
  · unfold bu inT
    simp [b0, b1]
  · unfold fL
    rw [if_pos rfl, List.take_add_one, List.getElem?_eq_getElem (by omega)]
    have := ru hq
    rw [List.getD, List.getElem?_eq_getElem (by omega)] at this
    simp only [Option.getD_some] at this
    rw [this]
    rfl
theorem G3 {T : ByteArray} {q : Nat} {tl td : Int} (hq : q < T.size) (hP : tO T q tl td) (h3 : 3 ≤ tl) : Steps T q (0, tl, td, ()) tl.toNat := by
  have hl := dp T
  rcases hP with ⟨e, _⟩ | ⟨p, p1, p2, p3, p4, p5⟩
  · omega
  · obtain ⟨a1, a2, a3⟩ := FP (T := T) p (q := q) (by omega)
    refine ⟨?_, by omega, by omega, ?_, ?_⟩
    · unfold bu inT
      simp only
      rw [if_neg (by omega)]
      simp only [Bool.and_eq_true, decide_eq_true_eq]
      refine ⟨trivial, ⟨?_, ?_⟩, ?_, ?_⟩ <;> omega
    · unfold bX
      rw [if_neg (show ¬ tl = 0 by omega)]
    · unfold fL
      simp only
      rw [if_neg (by omega), if_neg (by rw [List.length_take]; omega)]
      have hD : td.toNat = q - p := by omega
      have hk : tl.toNat = NX T p q := by omega
      rw [hD, hk]
      have := Mt (B := bytesOf T) (q := q) (D := q - p) (by omega) (by omega) (NX T p q) 0 (by omega) fun n hn => by
        rw [show q - (q - p) + n = p + n by omega, ru (by omega), ru (by omega)]
        exact a3 n (by omega)
      rw [Nat.add_zero] at this
      rw [this]
theorem Aw (N : Nat) (T : ByteArray) (hT : T.size ≤ 100000000) (q k : Nat) (hqk : q + k ≤ T.size) (P : List Tok) : ∀ (d i f : Nat) (M : List (ByteArray × Int)) (A : List Int), i + d = k → d < f → Inv (q + i) M A →
    ∃ M' A', bO N f (((q + i : Nat) : Int), (i : Int), (k : Int), P, T, M, A) = some (((q + k : Nat) : Int), P, T, M', A') ∧ Inv (q + k) M' A' := by
  intro d
  induction d with
  | zero =>
    intro i f M A hi hf hI
    cases f with
    | zero => omega
    | succ f =>
      have e : i = k := by omega
      subst e
      refine ⟨M, A, ?_, hI⟩
      simp only [bO, jg, ae]
      rw [aY (by omega)]
  | succ d ih =>
    intro i f M A hi hf hI
    cases f with
    | zero => omega
    | succ f =>
      have w1 : IntKind.wrap .i64 (((q + i : Nat) : Int) + 1) = ((q + (i + 1) : Nat) : Int) := by rw [wrap_i64 (by omega) (by omega)]; omega
      have w2 : IntKind.wrap .i64 ((i : Int) + 1) = ((i + 1 : Nat) : Int) := by rw [wrap_i64 (by omega) (by omega)]; omega
      obtain ⟨M', A', e1, e2⟩ := ih (i + 1) f (MD T (q + i) M) (HQ T (q + i) M A) (by omega) (by omega) (by rw [show q + (i + 1) = q + i + 1 by omega]; exact J0 hI)
      refine ⟨M', A', ?_, e2⟩
      simp only [bO, jg, ae]
      rw [bd (by omega), Gi N T hT (by omega) M A hI.len, Option.bind_some, w1, w2]
      simp only
      rw [e1]
      rfl
def dt (T : ByteArray) (from_ q : Nat) (P : List Tok) : Prop := aE P = true ∧ made P = q - from_ ∧ P.length ≤ q - from_ ∧ jl ((bytesOf T).take from_) P = some ((bytesOf T).take q)
theorem zZ : ∀ (P : List Tok) (o p : List Int) (t : Tok), jl o P = some p → jl o (P ++ [t]) = fL p t
  | [], o, p, t, h => by
    cases h
    show (match fL o t with | some p => jl p [] | none => none) = fL o t
    cases fL o t <;> rfl
  | u :: P, o, p, t, h => by
    unfold jl at h
    show (match fL o u with | some p => jl p (P ++ [t]) | none => none) = fL p t
    cases hu : fL o u with
    | none => rw [hu] at h; cases h
    | some r =>
      rw [hu] at h
      exact zZ P r p t h
theorem sN (a b : List Tok) : made (a ++ b) = made a + made b := by unfold made; rw [List.map_append, List.sum_append]
theorem sL {T : ByteArray} {from_ q k : Nat} {P : List Tok} {t : Tok} (h : dt T from_ q P) (hf : from_ ≤ q) (hs : Steps T q t k) : dt T from_ (q + k) (P ++ [t]) := by
  obtain ⟨h1, h2, h3, h4⟩ := h
  obtain ⟨s1, s2, s3, s4, s5⟩ := hs
  refine ⟨?_, ?_, ?_, ?_⟩
  · unfold aE at h1 ⊢
    rw [List.all_append, h1]
    simp [s1]
  · rw [sN, h2]
    have : made [t] = bX t := by unfold made; simp
    rw [this, s4]
    omega
  · rw [List.length_append, List.length_singleton]; omega
  · rw [zZ P _ _ t h4, s5]
theorem Nu (T : ByteArray) (hT : T.size ≤ 150000) (from_ : Nat) : ∀ (d q f : Nat) (P : List Tok) (M : List (ByteArray × Int)) (A : List Int), T.size ≤ q + d → q ≤ T.size → from_ ≤ q → d < f → Inv q M A → dt T from_ q P →
    ∃ P', dS 200000 f ((q : Int), P, T, M, A) = some P' ∧ dt T from_ T.size P' := by
  intro d
  induction d with
  | zero =>
    intro q f P M A h1 h2 h3 hf hI hP
    cases f with
    | zero => omega
    | succ f =>
      have e : q = T.size := by omega
      subst e
      refine ⟨P, ?_, hP⟩
      simp only [dS, j7, ae]
      rw [if_neg (by simp)]
  | succ d ih =>
    intro q f P M A h1 h2 h3 hf hI hP
    cases f with
    | zero => omega
    | succ f =>
      by_cases hq : q < T.size
      · obtain ⟨tl, td, b1, b2⟩ := Nn (N := 200000) (by decide) T (by omega) h2 M A hI
        have hPl := hP.2.2.1
        by_cases h3' : 3 ≤ tl
        · have hs := G3 hq b2 h3'
          have hmx : (if (1 : Int) > tl then (1 : Int) else tl) = ((tl.toNat : Nat) : Int) := by rw [if_neg (by omega)]; omega
          obtain ⟨M', A', e1, e2⟩ := Aw 200000 T (by omega) q tl.toNat hs.2.2.1 (P ++ [(0, tl, td, ())]) tl.toNat 0 200000 M A (by omega) (by have := hs.2.2.1; omega) hI
          rw [Nat.add_zero, show ((0 : Nat) : Int) = 0 from rfl] at e1
          obtain ⟨P', g1, g2⟩ := ih (q + tl.toNat) f (P ++ [(0, tl, td, ())]) M' A' (by have := hs.2.1; omega) hs.2.2.1 (by omega) (by omega) e2 (sL hP h3 hs)
          refine ⟨P', ?_, g2⟩
          simp only [dS, j7, ae]
          rw [bd (by omega), b1, Option.bind_some]
          simp only
          rw [if_neg (by simpa using h3'), if_pos (by rw [decide_eq_true_eq, List.length_singleton]; omega), hmx, e1, Option.bind_some]
          simp only
          rw [g1]
          rfl
        · have hs := LL hq
          have wb : IntKind.wrap .i64 (((T.data.toList.getD q 0).toNat : Nat) : Int) = bb T q := by
            obtain ⟨c0, c1⟩ := FI T q
            unfold bb at c0 c1 ⊢
            rw [wrap_i64 (by omega) (by omega)]
          obtain ⟨M', A', e1, e2⟩ := Aw 200000 T (by omega) q 1 hs.2.2.1 (P ++ [(bb T q, 0, 0, ())]) 1 0 200000 M A (by omega) (by omega) hI
          rw [Nat.add_zero, show ((0 : Nat) : Int) = 0 from rfl, show ((1 : Nat) : Int) = 1 from rfl] at e1
          obtain ⟨P', g1, g2⟩ := ih (q + 1) f (P ++ [(bb T q, 0, 0, ())]) M' A' (by omega) hs.2.2.1 (by omega) (by omega) e2 (sL hP h3 hs)
          refine ⟨P', ?_, g2⟩
          simp only [dS, j7, ae]
          rw [bd (by omega), b1, Option.bind_some]
          simp only
          rw [if_pos (by simpa using h3'), bd (by omega), Int.toNat_natCast, FC hq, Option.bind_some, wb, if_pos (by rw [decide_eq_true_eq, List.length_singleton]; omega), e1, Option.bind_some]
          simp only
          rw [g1]
          rfl
      · have e : q = T.size := by omega
        subst e
        refine ⟨P, ?_, hP⟩
        simp only [dS, j7, ae]
        rw [if_neg (by simp)]
theorem mG (N : Nat) (w : ByteArray) (hw : w.size ≤ 1000000) : RI N w = some (aX w) := by
  have e : IntKind.wrap .i64 ((w.size : Int) - 32768) = (w.size : Int) - 32768 := wrap_i64 (by omega) (by omega)
  have hmx : (if (0 : Int) > (w.size : Int) - 32768 then (0 : Int) else (w.size : Int) - 32768) = ((w.size - 32768 : Nat) : Int) := by split <;> omega
  simp only [RI, ae]
  rw [e, hmx, bd (by omega), Int.toNat_natCast]
  unfold aX
  by_cases h : 32768 < w.size
  · rw [if_pos h]
  · rw [if_neg h, show w.size - 32768 = 0 by omega, ByteArray.extract_zero_size]
theorem Jc (T y : ByteArray) (hT : T.size ≤ 150000) (n : Nat) (hn : n ≤ T.size) : ∀ (d i f : Nat) (M : List (ByteArray × Int)) (A : List Int), i + d = n → d < f → Inv i M A →
    ∃ M' A', dT 200000 f ((i : Int), (n : Int), y, T, M, A) = some (y, T, M', A') ∧ Inv n M' A' := by
  intro d
  induction d with
  | zero =>
    intro i f M A hi hf hI
    cases f with
    | zero => omega
    | succ f =>
      have e : i = n := by omega
      subst e
      refine ⟨M, A, ?_, hI⟩
      simp only [dT, qL, ae]
      rw [if_neg (by simp)]
  | succ d ih =>
    intro i f M A hi hf hI
    cases f with
    | zero => omega
    | succ f =>
      have w2 : IntKind.wrap .i64 ((i : Int) + 1) = ((i + 1 : Nat) : Int) := by rw [wrap_i64 (by omega) (by omega)]; omega
      obtain ⟨M', A', e1, e2⟩ := ih (i + 1) f (MD T i M) (HQ T i M A) (by omega) (by omega) (J0 hI)
      refine ⟨M', A', ?_, e2⟩
      simp only [dT, qL, ae]
      rw [bd (by omega), Gi 200000 T (by omega) (by omega) M A hI.len, Option.bind_some, w2]
      simp only
      rw [e1]
      rfl
structure PackOk (w s : ByteArray) (P : List Tok) : Prop where
  run : SJ 200000 (w, s) = some P
  valid : aE P = true
  made : made P = s.size
  len : P.length ≤ s.size
  exp : jl (bytesOf (aX w)) P = some (bytesOf (aX w) ++ bytesOf s)
theorem vV (a b : ByteArray) : bytesOf (a ++ b) = bytesOf a ++ bytesOf b := by
  rw [bG, bG, bG, ← List.map_append]
  congr 1
theorem sq (w s : ByteArray) (hw : w.size ≤ 1000000) (hs : s.size ≤ 100000) : ∃ P, PackOk w s P := by
  have ht := hZ w
  have hT : (aX w ++ s).size = (aX w).size + s.size := ByteArray.size_append
  obtain ⟨M, A, e1, e2⟩ := Jc (aX w ++ s) (aX w) (by omega) (aX w).size (by omega) (aX w).size 0 200000 [] [] (by omega) (by omega) ⟨rfl, fun e he => (by cases he), fun i hi => by omega⟩
  have hb := vV (aX w) s
  have hbl := dp (aX w)
  have hbl2 := dp (aX w ++ s)
  have ht1 : (bytesOf (aX w ++ s)).take (aX w).size = bytesOf (aX w) := by rw [hb, ← hbl, List.take_left]
  obtain ⟨P, g1, g2, g3, g4, g5⟩ := Nu (aX w ++ s) (by omega) (aX w).size s.size (aX w).size 200000 [] M A (by omega) (by omega) (Nat.le_refl _) (by omega) e2 ⟨rfl, by rw [Nat.sub_self]; rfl, Nat.zero_le _, rfl⟩
  refine ⟨P, ?_, g2, by omega, by omega, ?_⟩
  · rw [show ((0 : Nat) : Int) = 0 from rfl] at e1
    simp only [SJ, ae]
    rw [mG _ w hw, Option.bind_some, aY (by omega), e1, Option.bind_some]
    simp only
    rw [g1, Option.bind_some]
  · rw [ht1] at g5
    rw [g5, ← hb, List.take_of_length_le (by omega)]
theorem extract_all (s : ByteArray) : s.extract 0 s.size = s := ByteArray.extract_zero_size
theorem Dy (s : ByteArray) (hs : s.size ≤ 65535) (last : Bool) (m : List Bool) (hm : m.length ≤ 100000000) :
    Wa 200000 (s, last, aP m, nF m, bF m) = some (aP (cE m s last), nF (cE m s last), bF (cE m s last)) := by
  have hp : (if (65535 : Int) < (s.size : Int) then (65535 : Int) else (s.size : Int)) = (s.size : Int) := if_neg (by omega)
  have hb2 : ((s.size : Int) == (s.size : Int)) = true := beq_self_eq_true _
  have hl : decide ((0 : Int) ≤ (s.size : Int) ∧ (s.size : Int) ≤ (s.size : Int)) = true := by rw [decide_eq_true_eq]; omega
  have hx := KN hs
  have he : (ByteArray.toList (ByteArray.extract s s.size s.size) == []) = true := by
    rw [kh, ByteArray.size_extract, decide_eq_true_eq]; omega
  obtain ⟨y1, y2, y3, a1, a2, a3, y4, a4, a5⟩ := G2 s hs last m hm
  have h2 : yh 200000 200000 (s, last, aP m, nF m, bF m) = some (aP (cE m s last), nF (cE m s last), bF (cE m s last)) := by
    show KI 200000 (yh 200000 199999) (s, last, aP m, nF m, bF m) = _
    simp only [KI, ae, hp, hx, hb2, hl, he, if_true, Int.toNat_natCast, extract_all]
    cases last with
    | true =>
      simp only [if_true]
      rw [a1, Option.bind_some, a2, Option.bind_some, a3, Option.bind_some, a4, Option.bind_some, a5, Option.bind_some]
    | false =>
      simp only [Bool.false_eq_true, if_false]
      rw [a1, Option.bind_some, a2, Option.bind_some, a3, Option.bind_some, a4, Option.bind_some, a5, Option.bind_some]
  simp only [Wa]
  rw [h2, Option.bind_some]
def aM (a : List Bool) (s : ByteArray) (b : Bool) : List Bool :=
  [b, false, false] ++ (List.replicate (bz (a ++ [b, false, false])) false ++ (an 16 (s.size : Int) ++ (an 16 ((65535 - s.size : Nat) : Int) ++ aQ s)))
theorem ib (a : List Bool) (s : ByteArray) (b : Bool) : cE a s b = a ++ aM a s b := by
  unfold cE aM aV
  simp only [List.append_assoc]
theorem AZ (m : List Bool) : bz m < 8 := by unfold bz; omega
theorem bY (a : List Bool) (s : ByteArray) (b : Bool) : (aM a s b).length = 35 + bz (a ++ [b, false, false]) + 8 * s.size := by
  have p16 : ∀ v, (an 16 v).length = 16 := fun v => by rw [al]; rfl
  have := aJ s
  unfold aM
  simp only [List.length_append, List.length_replicate, p16, List.length_cons, List.length_nil]
  omega
theorem nk (X : List Bool) (i : Nat) (h : 8 * i < X.length) : ∃ b : UInt8, (cC X)[i]? = some b ∧ b.toNat = val ((X.drop (8 * i)).take 8) := by
  have hlt : val ((X.drop (8 * i)).take 8) < 256 := by
    have h1 := gW ((X.drop (8 * i)).take 8)
    have h2 : 2 ^ ((X.drop (8 * i)).take 8).length ≤ 2 ^ 8 := Nat.pow_le_pow_right (by decide) (by rw [List.length_take]; omega)
    omega
  refine ⟨UInt8.ofNat (val ((X.drop (8 * i)).take 8)), ?_, ?_⟩
  · have hsz := eU X
    rw [byte_at _ _ (by omega)]
    congr 1
    unfold cC aI mh
    simp only
    rw [List.getD, List.getElem?_map, kG _ _ _ (by omega)]
    rfl
  · rw [UInt8.toNat_ofNat']
    omega
theorem pw (s : ByteArray) : cC (aQ s) = s := by
  have h1 := aJ s
  have hs : s.data.toList.length = s.size := by simp
  have h2 : mh (aQ s) = s.data.toList.map fun x => (x.toNat : Int) := by
    unfold mh
    rw [show ((aQ s).length + 7) / 8 = s.data.toList.length by omega]
    exact ft _
  have h3 : ∀ l : List UInt8, (l.map fun x => (x.toNat : Int)).map (fun n => UInt8.ofNat n.toNat) = l := by
    intro l
    rw [List.map_map]
    conv => rhs; rw [← List.map_id l]
    apply List.map_congr_left
    intro x _
    show UInt8.ofNat ((x.toNat : Int).toNat) = x
    rw [Int.toNat_natCast]
    exact UInt8.ofNat_toNat
  unfold cC aI
  rw [h2, h3]
theorem lF (s : ByteArray) : aI (bytesOf s) = s := by
  have := pw s
  have h1 := aJ s
  have hs : s.data.toList.length = s.size := by simp
  unfold cC at this
  have h2 : mh (aQ s) = bytesOf s := by
    rw [bG]
    unfold mh
    rw [show ((aQ s).length + 7) / 8 = s.data.toList.length by omega]
    exact ft _
  rwa [h2] at this
theorem SA (N : Nat) (L : List Bool) (a : List Bool) (e : Int) (ha : a.length ≤ 1000000000) : I9 N (L, (a.length : Int), e, ()) = some ((bz a : Nat) : Int) := by
  have h1 : Int.tmod (a.length : Int) 8 = ((a.length % 8 : Nat) : Int) := by rw [Int.tmod_eq_emod_of_nonneg (by omega)]; omega
  have w : IntKind.wrap .i64 ((8 : Int) - ((a.length % 8 : Nat) : Int)) = ((8 - a.length % 8 : Nat) : Int) := by rw [wrap_i64 (by omega) (by omega)]; omega
  simp only [I9]
  rw [h1, w, Int.tmod_eq_emod_of_nonneg (by omega)]
  unfold bz
  congr 1
theorem yo (a g X r : List Bool) (k : Nat) (hg : g.length = bz a) (hX : X.length = 8 * k) (hk : k ≤ 80000) (hL : (a ++ (g ++ (X ++ r))).length ≤ 1000000000) :
    Nx 200000 ((k : Int), (a.length : Int), 0, a ++ (g ++ (X ++ r))) = some (cC X, ((a.length + bz a + 8 * k : Nat) : Int), 0, a ++ (g ++ (X ++ r))) := by
  have hlen : (a ++ (g ++ (X ++ r))).length = a.length + bz a + 8 * k + r.length := by simp only [List.length_append, hg, hX]; omega
  have hp := AZ a
  have hmx : (if (0 : Int) > (k : Int) then (0 : Int) else (k : Int)) = (k : Int) := if_neg (by omega)
  have w1 : IntKind.wrap .i64 (((a ++ (g ++ (X ++ r))).length : Int) - (a.length : Int)) = ((bz a + 8 * k + r.length : Nat) : Int) := by rw [wrap_i64 (by omega) (by omega)]; omega
  have w2 : IntKind.wrap .i64 (((bz a + 8 * k + r.length : Nat) : Int) - ((bz a : Nat) : Int)) = ((8 * k + r.length : Nat) : Int) := by rw [wrap_i64 (by omega) (by omega)]; omega
  have w3 : IntKind.wrap .i64 (Int.tdiv ((8 * k + r.length : Nat) : Int) 8) = (((8 * k + r.length) / 8 : Nat) : Int) := by
    rw [Int.tdiv_eq_ediv_of_nonneg (by omega), wrap_i64 (by omega) (by omega)]; omega
  have w4 : IntKind.wrap .i64 ((8 : Int) * (k : Int)) = ((8 * k : Nat) : Int) := by rw [wrap_i64 (by omega) (by omega)]; omega
  have w5 : IntKind.wrap .i64 ((a.length : Int) + ((bz a : Nat) : Int)) = ((a.length + bz a : Nat) : Int) := by rw [wrap_i64 (by omega) (by omega)]; omega
  have w6 : IntKind.wrap .i64 (((a.length + bz a : Nat) : Int) + ((8 * k : Nat) : Int)) = ((a.length + bz a + 8 * k : Nat) : Int) := by rw [wrap_i64 (by omega) (by omega)]; omega
  have w7 : IntKind.wrap .i64 (((a.length + bz a + 8 * k : Nat) : Int) - ((8 * k : Nat) : Int)) = ((a.length + bz a : Nat) : Int) := by rw [wrap_i64 (by omega) (by omega)]; omega
  have hcut : List.take (a.length + bz a + 8 * k - (a.length + bz a)) (List.drop (a.length + bz a) (a ++ (g ++ (X ++ r)))) = X := by
    rw [show a.length + bz a + 8 * k - (a.length + bz a) = 8 * k by omega, show a ++ (g ++ (X ++ r)) = (a ++ g) ++ (X ++ r) by simp only [List.append_assoc], show a.length + bz a = (a ++ g).length by rw [List.length_append, hg], List.drop_left, ← hX, List.take_left]
  simp only [Nx, ae]
  rw [if_pos (by rfl), SA _ _ a _ (by omega), Option.bind_some, hmx, w1, w2, w3, aY (by omega), if_neg (by simp), Option.bind_some, w4, w5, w6, w7, bd (by omega), if_pos (by simp only [decide_eq_true_eq, Int.toNat_natCast]; omega), Int.toNat_natCast, Int.toNat_natCast, hcut, Si X (by omega) (by decide), Option.bind_some]
theorem um {n : Nat} (h : n ≤ 65535) : IntKind.wrap .i64 ((BitVec.toNat (BitVec.ofInt 64 (n : Int) ^^^ BitVec.ofInt 64 ((65535 - n : Nat) : Int)) : Nat) : Int) = 65535 := by
  have hx : n ^^^ 65535 = 65535 - n := by
    have h2 : (65535 : Nat) = 2 ^ 16 - 1 := rfl
    apply Nat.eq_of_testBit_eq
    intro i
    rw [Nat.testBit_xor, h2, Nat.testBit_two_pow_sub_one, show 2 ^ 16 - 1 - n = 2 ^ 16 - (n + 1) by omega, Nat.testBit_two_pow_sub_succ (by omega)]
    by_cases hi : i < 16
    · simp [hi]
    · have : n.testBit i = false := Nat.testBit_lt_two_pow (Nat.lt_of_lt_of_le (show n < 2 ^ 16 by omega) (Nat.pow_le_pow_right (by decide) (by omega)))
      simp [hi, this]
  rw [BitVec.ofInt_natCast, BitVec.ofInt_natCast, BitVec.toNat_xor, BitVec.toNat_ofNat, BitVec.toNat_ofNat, Nat.mod_eq_of_lt (by omega), Nat.mod_eq_of_lt (by omega), ← hx, ← Nat.xor_assoc, Nat.xor_self, Nat.zero_xor, wrap_i64 (by omega) (by omega)]
  rfl
theorem two_bytes {n : Nat} (h : n ≤ 65535) {x y : UInt8} (hx : x.toNat = n % 256) (hy : y.toNat = n / 256) : IntKind.wrap .i64 (IntKind.wrap .i64 (x.toNat : Int) + IntKind.wrap .i64 ((256 : Int) * IntKind.wrap .i64 (y.toNat : Int))) = (n : Int) := by
  rw [wrap_i64 (z := (x.toNat : Int)) (by omega) (by omega), wrap_i64 (z := (y.toNat : Int)) (by omega) (by omega), wrap_i64 (z := (256 : Int) * (y.toNat : Int)) (by omega) (by omega), wrap_i64 (by omega) (by omega), hx, hy]
  omega
theorem pe (w : ByteArray) (s : ByteArray) (hs : s.size ≤ 65535) (last : Bool) (most : Int) (hm : (s.size : Int) ≤ most) (a r : List Bool) (hL : (a ++ (aM a s last ++ r)).length ≤ 1000000000) :
    S1 200000 (w, most, (a.length : Int), 0, a ++ (aM a s last ++ r)) = some (s, last, 0, 0, ((a.length + (aM a s last).length : Nat) : Int), 0, a ++ (aM a s last ++ r)) := by
  generalize hQ : a ++ (aM a s last ++ r) = Q at *
  have p16 : ∀ v, (an 16 v).length = 16 := fun v => by rw [al]; rfl
  have hal := aJ s
  have hTl := bY a s last
  have hlast : ((last.toNat : Int) == 1) = last := by cases last <;> rfl
  have e2 : an 2 0 = [false, false] := rfl
  have b1 : Q = a ++ ([last] ++ (an 2 0 ++ (List.replicate (bz (a ++ [last, false, false])) false ++ (an 16 (s.size : Int) ++ (an 16 ((65535 - s.size : Nat) : Int) ++ (aQ s ++ r)))))) := by
    rw [← hQ, e2]; unfold aM; simp only [List.append_assoc]; rfl
  have b2 : Q = (a ++ [last]) ++ (an 2 0 ++ (List.replicate (bz (a ++ [last, false, false])) false ++ (an 16 (s.size : Int) ++ (an 16 ((65535 - s.size : Nat) : Int) ++ (aQ s ++ r))))) := by rw [b1]; simp only [List.append_assoc]
  have ea : a ++ [last] ++ an 2 0 = a ++ [last, false, false] := by rw [e2]; simp only [List.append_assoc]; rfl
  have b3 : Q = (a ++ [last, false, false]) ++ (List.replicate (bz (a ++ [last, false, false])) false ++ ((an 16 (s.size : Int) ++ an 16 ((65535 - s.size : Nat) : Int)) ++ (aQ s ++ r))) := by rw [b1, e2]; simp only [List.append_assoc]; rfl
  have b4 : Q = (aV (a ++ [last, false, false]) ++ an 16 (s.size : Int) ++ an 16 ((65535 - s.size : Nat) : Int)) ++ ([] ++ (aQ s ++ r)) := by rw [b3]; unfold aV; simp only [List.append_assoc, List.nil_append]
  have r1 := AV (a := a) (r := an 2 0 ++ (List.replicate (bz (a ++ [last, false, false])) false ++ (an 16 (s.size : Int) ++ (an 16 ((65535 - s.size : Nat) : Int) ++ (aQ s ++ r))))) last (by rw [← b1]; exact hL)
  rw [← b1] at r1
  have r2 := jj (N := 200000) (by decide) (a ++ [last]) (List.replicate (bz (a ++ [last, false, false])) false ++ (an 16 (s.size : Int) ++ (an 16 ((65535 - s.size : Nat) : Int) ++ (aQ s ++ r)))) 2 0 (by rw [← b2]; exact hL)
  rw [← b2, show am 2 = 2 from rfl, List.length_append, List.length_singleton, show (cq 2 0 : Int) = 0 from rfl] at r2
  have l3 : (a ++ [last, false, false]).length = a.length + 3 := by rw [List.length_append]; rfl
  have r3 := yo (a ++ [last, false, false]) (List.replicate (bz (a ++ [last, false, false])) false) (an 16 (s.size : Int) ++ an 16 ((65535 - s.size : Nat) : Int)) (aQ s ++ r) 4 (List.length_replicate ..) (by rw [List.length_append, p16, p16]) (by decide) (by rw [← b3]; exact hL)
  rw [← b3, l3, show ((4 : Nat) : Int) = 4 from rfl] at r3
  generalize hP : bz (a ++ [last, false, false]) = P at *
  have hall := c8 (a ++ [last, false, false])
  have hall2 : (aV (a ++ [last, false, false])).length = a.length + 3 + P := by unfold aV; rw [List.length_append, List.length_replicate, l3, hP]
  have l4 : (aV (a ++ [last, false, false]) ++ an 16 (s.size : Int) ++ an 16 ((65535 - s.size : Nat) : Int)).length = a.length + 3 + P + 32 := by rw [List.length_append, List.length_append, p16, p16, hall2]
  have hmod : (a.length + 3 + P) % 8 = 0 := by rw [hall2, l3] at hall; omega
  have hp0 : bz (aV (a ++ [last, false, false]) ++ an 16 (s.size : Int) ++ an 16 ((65535 - s.size : Nat) : Int)) = 0 := by
    unfold bz
    rw [l4]
    omega
  have r4 := yo (aV (a ++ [last, false, false]) ++ an 16 (s.size : Int) ++ an 16 ((65535 - s.size : Nat) : Int)) [] (aQ s) r s.size (by rw [hp0]; rfl) hal (by omega) (by rw [← b4]; exact hL)
  rw [← b4, hp0, l4, pw] at r4
  -- the four bytes
  have v1 : val (an 16 (s.size : Int)) = s.size := by rw [uq]; exact (show cq 16 (s.size : Int) = s.size from fI (by decide) (by omega))
  have v2 : val (an 16 ((65535 - s.size : Nat) : Int)) = 65535 - s.size := by rw [uq]; exact (show cq 16 ((65535 - s.size : Nat) : Int) = 65535 - s.size from fI (by decide) (by omega))
  generalize hx1 : an 16 (s.size : Int) = x1 at *
  generalize hx2 : an 16 ((65535 - s.size : Nat) : Int) = x2 at *
  have z1 : x1.length = 16 := by rw [← hx1]; exact p16 _
  have z2 : x2.length = 16 := by rw [← hx2]; exact p16 _
  obtain ⟨c0, d0, f0⟩ := nk (x1 ++ x2) 0 (by rw [List.length_append]; omega)
  obtain ⟨c1, d1, f1⟩ := nk (x1 ++ x2) 1 (by rw [List.length_append]; omega)
  obtain ⟨c2, d2, f2⟩ := nk (x1 ++ x2) 2 (by rw [List.length_append]; omega)
  obtain ⟨c3, d3, f3⟩ := nk (x1 ++ x2) 3 (by rw [List.length_append]; omega)
  have g0 : c0.toNat = s.size % 256 := by
    rw [f0, Nat.mul_zero, List.drop_zero, List.take_append_of_le_length (by omega), ← AH x1 8 (by omega), v1]
  have g1 : c1.toNat = s.size / 256 := by
    rw [f1, Nat.mul_one, List.drop_append_of_le_length (by omega), List.take_append_of_le_length (by rw [List.length_drop]; omega), List.take_of_length_le (by rw [List.length_drop]; omega), ← AI x1 8 (by omega), v1]
  have g2 : c2.toNat = (65535 - s.size) % 256 := by
    rw [f2, show 8 * 2 = x1.length by omega, List.drop_left, ← AH x2 8 (by omega), v2]
  have g3 : c3.toNat = (65535 - s.size) / 256 := by
    rw [f3, show 8 * 3 = x1.length + 8 by omega, ← List.drop_drop, List.drop_left, List.take_of_length_le (by rw [List.length_drop]; omega), ← AI x2 8 (by omega), v2]
  have t1 := two_bytes hs g0 g1
  have t2 := two_bytes (show 65535 - s.size ≤ 65535 by omega) g2 g3
  have w3 : IntKind.wrap .i64 ((s.size : Int) + ((65535 - s.size : Nat) : Int)) = 65535 := by rw [wrap_i64 (by omega) (by omega)]; omega
  have hxx := um hs
  simp only [S1, F72, ae]
  rw [r1, Option.bind_some]
  simp only
  rw [r2, Option.bind_some, hlast]
  simp only
  rw [if_neg (by simp), if_pos (by rfl), show a.length + 1 + 2 = a.length + 3 by omega, r3, Option.bind_some]
  simp only
  rw [if_neg (by simp), d0, Option.bind_some, d1, Option.bind_some, d2, Option.bind_some, d3, Option.bind_some, t1, t2, w3, if_neg (by simp), hxx, if_neg (by simp), aY (by omega)]
  rw [show a.length + 3 + P + 8 * 4 = a.length + 3 + P + 32 by omega, r4, Option.bind_some, Option.bind_some]
  simp only
  rw [if_neg (by simp), hTl, show a.length + 3 + P + 32 + 0 + 8 * s.size = a.length + (35 + P + 8 * s.size) by omega]
def Tk (s : ByteArray) : Nat := 8 * s.size + 40 * (1 + s.size / 65535)
noncomputable def ca (l : List Tok) (s : ByteArray) (last : Bool) : List Bool :=
  if (aR l true last).length < (aR l false last).length then (if (aR l true last).length < Tk s then aR l true last else aM [] s last)
  else (if (aR l false last).length < Tk s then aR l false last else aM [] s last)
theorem oL (l : List Tok) (s : ByteArray) (last : Bool) : (∃ own, ca l s last = aR l own last ∧ (aR l own last).length < Tk s) ∨ ca l s last = aM [] s last := by
  unfold ca
  split
  · split
    · exact .inl ⟨true, rfl, by assumption⟩
    · exact .inr rfl
  · split
    · exact .inl ⟨false, rfl, by assumption⟩
    · exact .inr rfl
theorem FE (l : List Tok) (s : ByteArray) (hs : s.size < 65535) (last : Bool) : (ca l s last).length ≤ 8 * s.size + 40 := by
  have hst : (aM [] s last).length = 40 + 8 * s.size := by
    rw [bY]
    have : bz ([] ++ [last, false, false]) = 5 := rfl
    omega
  have hs0 : Tk s = 8 * s.size + 40 := by unfold Tk; omega
  rcases oL l s last with ⟨own, e, h⟩ | e
  · rw [e]; omega
  · rw [e]; omega
theorem SI {l : List Tok} (hl : l.length ≤ 10000) (hv : aE l = true) (s : ByteArray) (hs : s.size < 65535) (last : Bool) :
    tw 200000 (l, s, last, 0, 0, []) = some (aP (ca l s last), nF (ca l s last), bF (ca l s last)) := by
  have c1 := Aq hl hv false last [] (by decide)
  have c2 := Aq hl hv true last [] (by decide)
  rw [List.nil_append, show aP [] = 0 from rfl, show nF [] = 0 from rfl, show bF [] = [] from rfl] at c1 c2
  have n1 := vT hl hv false last
  have n2 := vT hl hv true last
  have hst := Dy s (by omega) last [] (by decide)
  rw [ib, List.nil_append, show aP [] = 0 from rfl, show nF [] = 0 from rfl, show bF [] = [] from rfl] at hst
  have w1 : IntKind.wrap .i64 ((8 : Int) * (s.size : Int)) = ((8 * s.size : Nat) : Int) := by rw [wrap_i64 (by omega) (by omega)]; omega
  have w2 : IntKind.wrap .i64 (Int.tdiv (s.size : Int) 65535) = ((s.size / 65535 : Nat) : Int) := by rw [Int.tdiv_eq_ediv_of_nonneg (by omega), wrap_i64 (by omega) (by omega)]; omega
  have w3 : IntKind.wrap .i64 ((1 : Int) + ((s.size / 65535 : Nat) : Int)) = ((1 + s.size / 65535 : Nat) : Int) := by rw [wrap_i64 (by omega) (by omega)]; omega
  have w4 : IntKind.wrap .i64 ((40 : Int) * ((1 + s.size / 65535 : Nat) : Int)) = ((40 * (1 + s.size / 65535) : Nat) : Int) := by rw [wrap_i64 (by omega) (by omega)]; omega
  have w5 : IntKind.wrap .i64 (((8 * s.size : Nat) : Int) + ((40 * (1 + s.size / 65535) : Nat) : Int)) = ((Tk s : Nat) : Int) := by rw [wrap_i64 (by omega) (by omega)]; unfold Tk; omega
  simp only [tw, ae]
  rw [c1, Option.bind_some]
  simp only
  rw [KB _ _ (by omega), Option.bind_some, c2, Option.bind_some]
  simp only
  rw [KB _ _ (by omega), Option.bind_some, w1, w2, w3, w4, w5]
  unfold ca
  by_cases h1 : (aR l true last).length < (aR l false last).length
  · rw [bd (by omega), if_pos h1]
    by_cases h2 : (aR l true last).length < Tk s
    · rw [bd (by omega), if_pos h2]; rfl
    · rw [aY (by omega), if_neg h2, hst]; rfl
  · rw [aY (by omega), if_neg h1]
    by_cases h2 : (aR l false last).length < Tk s
    · rw [bd (by omega), if_pos h2]; rfl
    · rw [aY (by omega), if_neg h2, hst]; rfl
theorem Vb (P : List Tok) (hP : P.length ≤ 10000) (hv : aE P = true) (x3 : Bool) (x4 : ByteArray) (x5 x7 x8 : Int) (x10 : List Int) : ∀ (d i f : Nat), i + d = P.length → d < f →
    cW 200000 f (((made (P.take i) : Nat) : Int), (i : Int), (P.length : Int), x3, x4, x5, P.length, x7, x8, P, x10) = some (x5, x4, ((made P : Nat) : Int), x3, x7, x8, P, x10) := by
  intro d
  induction d with
  | zero =>
    intro i f hi hf
    cases f with
    | zero => omega
    | succ f =>
      simp only [cW, qy, ae]
      rw [aY (by omega), List.take_of_length_le (by omega)]
  | succ d ih =>
    intro i f hi hf
    cases f with
    | zero => omega
    | succ f =>
      have hil : i < P.length := by omega
      have hva := eu hv hil
      have hw : IntKind.wrap .i64 ((i : Int) + 1) = ((i + 1 : Nat) : Int) := by rw [wrap_i64 (by omega) (by omega)]; omega
      have hm : (if (1 : Int) > P[i].2.1 then (1 : Int) else P[i].2.1) = ((bX P[i] : Nat) : Int) := by
        unfold bX
        rcases bN hva with ⟨e, _⟩ | ⟨e, a, _⟩
        · rw [if_pos e, if_pos (by omega)]; rfl
        · rw [if_neg e, if_neg (by omega)]; omega
      have hvt : aE (P.take i) = true := by
        unfold aE at hv ⊢
        rw [List.all_eq_true] at hv ⊢
        exact fun t ht => hv t (List.mem_of_mem_take ht)
      have hle := A9 hvt
      have htl : (P.take i).length = i := by rw [List.length_take]; omega
      have hmt := jL hva
      have hs : made (P.take (i + 1)) = made (P.take i) + bX P[i] := by
        rw [List.take_add_one, List.getElem?_eq_getElem hil, sN]
        congr 1
      have hw2 : IntKind.wrap .i64 (((made (P.take i) : Nat) : Int) + ((bX P[i] : Nat) : Int)) = ((made (P.take (i + 1)) : Nat) : Int) := by rw [hs, wrap_i64 (by omega) (by omega)]; omega
      simp only [cW, qy, ae]
      rw [bd (by omega), if_pos (au hil), Int.toNat_natCast, Nat.zero_add, List.getElem?_eq_getElem hil, Option.bind_some, hm, hw, hw2, ih (i + 1) f (by omega) (by omega)]
      rfl
theorem IT {w s : ByteArray} {P : List Tok} (hP : PackOk w s P) (hs : s.size ≤ 8000) (last : Bool) :
    Y6 200000 (w, s, last, 0, 0, []) = some (aP (ca P s last), nF (ca P s last), bF (ca P s last)) := by
  obtain ⟨p1, p2, p3, p4, p5⟩ := hP
  have hput := SI (show P.length ≤ 10000 by omega) p2 s (by omega) last
  have hsum := Vb P (by omega) p2 last s (P.length : Int) 0 0 [] P.length 0 200000 (by omega) (by omega)
  rw [List.take_zero, show ((made [] : Nat) : Int) = 0 from rfl, show ((0 : Nat) : Int) = 0 from rfl] at hsum
  have hn : (if (8192 : Int) < (P.length : Int) then (8192 : Int) else (P.length : Int)) = (P.length : Int) := if_neg (by omega)
  have hex : ByteArray.extract s 0 (Int.toNat ((made P : Nat) : Int)) = s := by rw [Int.toNat_natCast, p3, extract_all]
  have htk : List.take (Int.toNat (P.length : Int) - 0) (List.drop 0 P) = P := by rw [Int.toNat_natCast, Nat.sub_zero, List.drop_zero, List.take_length]
  have hbe : ((P.length : Int) == (P.length : Int)) = true := beq_self_eq_true _
  have h14 : Ds 200000 200000 (true, last, s, 0, 0, P, []) = some (aP (ca P s last), nF (ca P s last), bF (ca P s last)) := by
    show DO 200000 (eL 200000 (199999 + 1)) (true, last, s, 0, 0, P, []) = _
    simp only [DO, ae, hn, Int.toNat_natCast, Nat.sub_zero]
    rw [if_pos trivial, bd (by omega), hsum, Option.bind_some]
    simp only
    rw [bd (by omega), bd (by omega)]
    rw [Int.toNat_natCast, List.drop_zero, List.take_length, p3, Int.toNat_natCast, extract_all, hbe]
    have hend : ∀ (q : ByteArray) (x y : Int) (z : List Int), eL 200000 (199999 + 1) (false, last, q, P.length, P.length - P.length, x, y, P, z) = some (x, y, z) := by
      intro q x y z
      show qz 200000 (eL 200000 199999) _ = _
      generalize eL 200000 199999 = G
      simp only [qz, ae]
      rw [if_neg (by simp), if_neg (by simp)]
    cases last with
    | true =>
      rw [if_pos rfl, hput, Option.bind_some, bd (by omega), bd (by omega), hend]
      rfl
    | false =>
      rw [if_neg (by simp), hput, Option.bind_some, bd (by omega), bd (by omega), hend]
      rfl
  simp only [Y6]
  rw [p1, Option.bind_some, h14, Option.bind_some]
theorem tN (w : ByteArray) : w ++ ByteArray.mk #[] = w := by
  apply ByteArray.ext
  simp
theorem tF (w : ByteArray) : ByteArray.mk #[] ++ w = w := by
  apply ByteArray.ext
  simp
theorem J5 {w s : ByteArray} {P : List Tok} (hP : PackOk w s P) : oH w P = (s, 0) := by
  unfold oH
  rw [hP.exp]
  simp only
  rw [← dp (aX w), List.drop_left, lF]
theorem u7 {a : List Bool} (ha : a.length % 8 = 0) (x : List Bool) : bz (a ++ x) = bz x := by
  unfold bz
  rw [List.length_append]
  omega
theorem iJ {a : List Bool} (ha : a.length % 8 = 0) (s : ByteArray) (b : Bool) : aM a s b = aM [] s b := by
  unfold aM
  rw [u7 ha, List.nil_append]
theorem Vl {w s : ByteArray} {P : List Tok} (hP : PackOk w s P) (hw : w.size ≤ 1000000) (hs : s.size ≤ 8000) (last : Bool) (most : Int) (hm : (s.size : Int) ≤ most) (hm0 : most ≤ 2000000000) (a r : List Bool) (ha : a.length % 8 = 0) (hL : (a ++ (ca P s last ++ r)).length ≤ 1000000000) :
    ∃ kind, S1 200000 (w, most, (a.length : Int), 0, a ++ (ca P s last ++ r)) = some (s, last, kind, 0, ((a.length + (ca P s last).length : Nat) : Int), 0, a ++ (ca P s last ++ r)) := by
  rcases oL P s last with ⟨own, e, _⟩ | e
  · rw [e] at hL ⊢
    have h := MS (show P.length ≤ 10000 by have := hP.len; omega) hP.valid own last w hw most (by rw [hP.made]; exact hm) hm0 a r hL
    rw [J5 hP, if_pos rfl] at h
    exact ⟨_, h⟩
  · rw [e] at hL ⊢
    rw [← iJ ha] at hL ⊢
    exact ⟨_, pe w s (by omega) last most hm a r hL⟩
noncomputable def bf (s : ByteArray) (P : List Tok) : List Bool :=
  if s.size = 0 then aM [] (ByteArray.mk #[]) false else ca P s false ++ aM (ca P s false) (ByteArray.mk #[]) false
theorem ez (s : ByteArray) (P : List Tok) (hs : s.size < 65535) : (bf s P).length ≤ 8 * s.size + 82 ∧ (bf s P).length % 8 = 0 := by
  have hb := FE P s hs false
  have e0 : (ByteArray.mk #[]).size = 0 := rfl
  unfold bf
  split
  · have h1 := (uJ [] (ByteArray.mk #[]) false).2
    have h2 := bY [] (ByteArray.mk #[]) false
    have h3 := AZ ([] ++ [false, false, false])
    rw [ib, List.nil_append] at h1
    omega
  · have h1 := (uJ (ca P s false) (ByteArray.mk #[]) false).2
    have h2 := bY (ca P s false) (ByteArray.mk #[]) false
    have h3 := AZ (ca P s false ++ [false, false, false])
    rw [ib] at h1
    rw [List.length_append] at h1 ⊢
    omega
theorem FW {w s : ByteArray} {P : List Tok} (hP : PackOk w s P) (hs : s.size ≤ 8000) : F31 200000 (w, s) = some (cC (bf s P)) := by
  have hb := FE P s (by omega) false
  have hl := ez s P (by omega)
  simp only [F31, ae]
  rw [kh]
  by_cases h0 : s.size = 0
  · have hst := Dy (ByteArray.mk #[]) (by decide) false [] (by decide)
    rw [ib, List.nil_append, show aP [] = 0 from rfl, show nF [] = 0 from rfl, show bF [] = [] from rfl] at hst
    have e : bf s P = aM [] (ByteArray.mk #[]) false := by unfold bf; rw [if_pos h0]
    rw [e] at hl ⊢
    rw [if_neg (by simp [h0]), hst, Option.bind_some]
    simp only
    rw [yc _ _ (by omega), Option.bind_some]
  · have hst := Dy (ByteArray.mk #[]) (by decide) false (ca P s false) (by omega)
    rw [ib] at hst
    have e : bf s P = ca P s false ++ aM (ca P s false) (ByteArray.mk #[]) false := by unfold bf; rw [if_neg h0]
    rw [e] at hl ⊢
    rw [if_pos (by simp [h0]), IT hP hs, Option.bind_some]
    simp only
    rw [hst, Option.bind_some]
    simp only
    rw [yc _ _ (by omega), Option.bind_some]
theorem sk {w out s : ByteArray} (kind : Int) (most p q : Int) (L : List Bool) (e : Bool) (f : Nat) (hp : p < (L.length : Int)) (hw : w.size ≤ 1000000) (ho : out.size ≤ 1000000) (hs : s.size ≤ 1000000) (hm0 : most ≤ 2000000000) (hm1 : (out.size : Int) ≤ most)
    (h : S1 200000 (w ++ out, most - (out.size : Int), p, 0, L) = some (s, false, kind, 0, q, 0, L)) :
    co 200000 (f + 1) (e, out, w, most, p, 0, L) = co 200000 f (kind == 0 && decide (s.size = 0), out ++ s, w, most, q, 0, L) := by
  have w1 : IntKind.wrap .i64 (most - (out.size : Int)) = most - (out.size : Int) := wrap_i64 (by omega) (by omega)
  simp only [co, ua, ae]
  rw [if_pos (by simpa using hp), aY (by omega), w1, h, Option.bind_some]
  simp only
  rw [if_neg (by simp), if_neg (by simp), aY (by omega)]
  by_cases hk : kind = 0
  · subst hk
    rw [if_pos (by rfl), kh]
    show _ = co 200000 f (decide (s.size = 0), out ++ s, w, most, q, 0, L)
    cases co 200000 f (decide (s.size = 0), out ++ s, w, most, q, 0, L) with
    | none => rfl
    | some r => cases r <;> rfl
  · have : (kind == 0) = false := by simpa using hk
    rw [this, if_neg (by decide)]
    show _ = co 200000 f (false, out ++ s, w, most, q, 0, L)
    cases co 200000 f (false, out ++ s, w, most, q, 0, L) with
    | none => rfl
    | some r => cases r <;> rfl
theorem KA {w out s : ByteArray} {P : List Tok} (hP : PackOk (w ++ out) s P) (hw : w.size ≤ 500000) (ho : out.size ≤ 100000) (hs : s.size ≤ 8000) (most : Int) (hm : ((out.size + s.size : Nat) : Int) ≤ most) (hm0 : most ≤ 2000000000) (a r : List Bool) (ha : a.length % 8 = 0) (hL : (a ++ (bf s P ++ r)).length ≤ 1000000000) :
    ∃ k, k ≤ 2 ∧ ∀ f e, co 200000 (f + k) (e, out, w, most, (a.length : Int), 0, a ++ (bf s P ++ r)) = co 200000 f (true, out ++ s, w, most, ((a.length + (bf s P).length : Nat) : Int), 0, a ++ (bf s P ++ r)) := by
  have hwo : (w ++ out).size ≤ 1000000 := by rw [ByteArray.size_append]; omega
  have e0 : (ByteArray.mk #[]).size = 0 := rfl
  by_cases h0 : s.size = 0
  · have hse : s = ByteArray.mk #[] := by
      apply ByteArray.ext
      apply Array.eq_empty_of_size_eq_zero
      exact h0
    have e : bf s P = aM a (ByteArray.mk #[]) false := by unfold bf; rw [if_pos h0, iJ ha]
    rw [e] at hL ⊢
    have hlen := bY a (ByteArray.mk #[]) false
    have h := pe (w ++ out) (ByteArray.mk #[]) (by decide) false (most - (out.size : Int)) (by rw [e0]; omega) a r hL
    refine ⟨1, by decide, fun f e => ?_⟩
    rw [sk (w := w) (out := out) 0 most _ _ _ e f (by simp only [List.length_append]; omega) (by omega) (by omega) (by rw [e0]; decide) hm0 (by omega) h, hse]
    rfl
  · have e : bf s P = ca P s false ++ aM (ca P s false) (ByteArray.mk #[]) false := by unfold bf; rw [if_neg h0]
    have est : aM (ca P s false) (ByteArray.mk #[]) false = aM (a ++ ca P s false) (ByteArray.mk #[]) false := by
      unfold aM
      rw [List.append_assoc, u7 ha]
    rw [e, est] at hL ⊢
    generalize hT : aM (a ++ ca P s false) (ByteArray.mk #[]) false = T at *
    have b1 : a ++ (ca P s false ++ T ++ r) = a ++ (ca P s false ++ (T ++ r)) := by simp only [List.append_assoc]
    have b2 : a ++ (ca P s false ++ T ++ r) = (a ++ ca P s false) ++ (T ++ r) := by simp only [List.append_assoc]
    have hTl : 0 < T.length := by rw [← hT, bY]; omega
    obtain ⟨kind, g1⟩ := Vl hP hwo hs false (most - (out.size : Int)) (by omega) (by omega) a (T ++ r) ha (by rw [← b1]; exact hL)
    rw [← b1] at g1
    have g2 := pe (w ++ (out ++ s)) (ByteArray.mk #[]) (by decide) false (most - ((out ++ s).size : Int)) (by rw [e0, ByteArray.size_append]; omega) (a ++ ca P s false) r (by rw [hT, ← b2]; exact hL)
    rw [hT, ← b2, List.length_append] at g2
    refine ⟨2, by decide, fun f e => ?_⟩
    rw [show f + 2 = f + 1 + 1 by omega, sk (w := w) (out := out) kind most _ _ _ e (f + 1) (by simp only [List.length_append]; omega) (by omega) (by omega) (by omega) hm0 (by omega) g1]
    rw [sk (w := w) (out := out ++ s) 0 most _ _ _ _ f (by simp only [List.length_append]; omega) (by omega) (by rw [ByteArray.size_append]; omega) (by rw [e0]; decide) hm0 (by rw [ByteArray.size_append]; omega) g2, tN, List.length_append, Nat.add_assoc]
    rfl
theorem Vk (f : Nat) (out w : ByteArray) (most : Int) (L : List Bool) : co 200000 (f + 1) (true, out, w, most, (L.length : Int), 0, L) = some (.inr (true, out)) := by
  simp only [co, ua, ae]
  rw [if_neg (by simp)]
theorem QH (a b : ByteArray) : aQ (a ++ b) = aQ a ++ aQ b := by
  unfold aQ
  rw [← fu]
  congr 1
theorem FO (s : ByteArray) (P : List Tok) (hs : s.size < 65535) : aQ (cC (bf s P)) = bf s P := by
  rw [Af, rC (ez s P hs).2]
theorem Fj {s : ByteArray} {i : Nat} (h : i < s.size) : s.extract i (i + 1) = ⟨⟨[s.data.toList.getD i 0]⟩⟩ := by
  have hs : s.data.toList.length = s.size := by simp
  apply ByteArray.ext
  apply Array.ext'
  have e : (s.extract i (i + 1)).data.toList = (s.data.toList.drop i).take 1 := by
    rw [ByteArray.data_extract, Array.toList_extract, List.extract_eq_take_drop, show i + 1 - i = 1 by omega]
  rw [e, List.drop_eq_getElem_cons (by omega), List.take_succ_cons, List.take_zero, List.getD, List.getElem?_eq_getElem (by omega)]
  rfl
theorem SH (N : Nat) (x : UInt8) : DF (N + 1) ⟨⟨[x]⟩⟩ = some ⟨⟨[x]⟩⟩ := by
  have hb : bytesOf ⟨⟨[x]⟩⟩ = [(x.toNat : Int)] := by rw [bG]; rfl
  have h6 : kV (N + 1) (N + 1) (0, 0, 0, 1, [(x.toNat : Int)]) = some [(x.toNat : Int)] := by
    show sr (N + 1) (kV (N + 1) N) _ = _
    simp only [sr, ae]
    rw [if_neg (by decide)]
  simp only [DF, Sy, ae]
  rw [if_pos (by rfl), hb]
  simp only [List.length_singleton]
  rw [show IntKind.wrap .i64 (((1 : Nat) : Int) - 1) = 0 from rfl, h6, Option.bind_some, Option.bind_some, ← hb, lF]
theorem Nt (N : Nat) : DF (N + 1) (ByteArray.mk #[]) = some (ByteArray.mk #[]) := by
  have hb : bytesOf (ByteArray.mk #[]) = [] := by rw [bG]; rfl
  have h6 : kV (N + 1) (N + 1) (0, -1, 0, 0, []) = some [] := by
    show sr (N + 1) (kV (N + 1) N) _ = _
    simp only [sr, ae]
    rw [if_neg (by decide)]
  simp only [DF, Sy, ae]
  rw [if_pos (by rfl), hb]
  simp only [List.length_nil]
  rw [show IntKind.wrap .i64 (((0 : Nat) : Int) - 1) = -1 from rfl, h6, Option.bind_some, Option.bind_some]
  rfl
theorem Tv {x : Nat} (h : x < 256) : IntKind.wrap .i64 ((BitVec.toNat (BitVec.ofInt 64 (0 : Int) ||| BitVec.ofInt 64 (IntKind.wrap .i64 (IntKind.wrap .i64 (x : Int) * (2 : Int) ^ min (Int.toNat 0) 64))) : Nat) : Int) = (x : Int) := by
  have e : IntKind.wrap .i64 (IntKind.wrap .i64 (x : Int) * (2 : Int) ^ min (Int.toNat 0) 64) = (x : Int) := by
    rw [wrap_i64 (z := (x : Int)) (by omega) (by omega)]
    show IntKind.wrap .i64 ((x : Int) * 1) = _
    rw [Int.mul_one, wrap_i64 (by omega) (by omega)]
  rw [e, BitVec.ofInt_natCast]
  have : BitVec.ofInt 64 (0 : Int) = 0#64 := rfl
  rw [this, BitVec.zero_or, BitVec.toNat_ofNat, Nat.mod_eq_of_lt (by omega), wrap_i64 (by omega) (by omega)]
theorem xX (s : ByteArray) (hs : s.size ≤ 9223372036854775807) {i : Nat} (h : i < s.size) : Va 200000 (1, s, (i : Int), 0) = some (bb s i, s, ((i + 1 : Nat) : Int), 0) := by
  have w1 : IntKind.wrap .i64 ((s.size : Int) - (i : Int)) = ((s.size - i : Nat) : Int) := by rw [wrap_i64 (by omega) (by omega)]; omega
  have w2 : IntKind.wrap .i64 ((i : Int) + 1) = ((i + 1 : Nat) : Int) := by rw [wrap_i64 (by omega) (by omega)]; omega
  have w3 : IntKind.wrap .i64 (((i + 1 : Nat) : Int) - 1) = (i : Int) := by rw [wrap_i64 (by omega) (by omega)]; omega
  have h143 : Gh 200000 (1, s, (i : Int), 0) = some (⟨⟨[s.data.toList.getD i 0]⟩⟩, s, ((i + 1 : Nat) : Int), 0) := by
    simp only [Gh, Sp, ae]
    rw [if_neg (by decide), Option.bind_some, w1, aY (by omega), if_neg (by decide), w2, w3, bd (by omega), if_pos (by simp only [decide_eq_true_eq, Int.toNat_natCast]; omega), Int.toNat_natCast, Int.toNat_natCast, Fj h]
  have hx := (s.data.toList.getD i 0).toNat_lt
  have hb : bytesOf ⟨⟨[s.data.toList.getD i 0]⟩⟩ = [bb s i] := by rw [bG]; rfl
  have hloop : bE 200000 200000 (0, 0, 1, s, ((i + 1 : Nat) : Int), 0, [bb s i]) = some (bb s i, s, ((i + 1 : Nat) : Int), 0) := by
    show er 200000 (bE 200000 (199998 + 1)) _ = _
    have hend : ∀ z, bE 200000 (199998 + 1) (z, 1, 1, s, ((i + 1 : Nat) : Int), 0, [bb s i]) = some (z, s, ((i + 1 : Nat) : Int), 0) := by
      intro z
      show er 200000 (bE 200000 199998) _ = _
      generalize bE 200000 199998 = G
      simp only [er, ae]
      rw [if_neg (by simp)]
    have hwi : within (0 : Int) [bb s i].length = true := au (i := 0) (by simp)
    simp only [er, ae]
    rw [if_pos (by decide), if_pos hwi]
    show Option.bind (some (bb s i)) _ = _
    rw [Option.bind_some, show IntKind.wrap .i64 ((8 : Int) * 0) = 0 from rfl, if_neg (by decide)]
    have := Tv (x := (s.data.toList.getD i 0).toNat) (by omega)
    have e : bb s i = (((s.data.toList.getD i 0).toNat : Nat) : Int) := rfl
    rw [e, this, show IntKind.wrap .i64 ((0 : Int) + 1) = 1 from rfl, ← e, hend]
    rfl
  simp only [Va, Gn, Nl, ae]
  rw [if_pos (by decide), Option.bind_some, if_neg (by decide), h143, Option.bind_some]
  simp only
  rw [SH 199999, Option.bind_some, if_pos (by rfl), hb]
  simp only [List.length_singleton]
  rw [show ((1 : Nat) : Int) = 1 from rfl, hloop, Option.bind_some, Option.bind_some]
theorem xW (s : ByteArray) (hs : s.size ≤ 9223372036854775807) (i : Nat) (e : Int) (h : e ≠ 0 ∨ (i = s.size)) (hi : i ≤ s.size) : Va 200000 (1, s, (i : Int), e) = some (0, s, (i : Int), if e = 0 then 2 else e) := by
  have w1 : IntKind.wrap .i64 ((s.size : Int) - (i : Int)) = ((s.size - i : Nat) : Int) := by rw [wrap_i64 (by omega) (by omega)]; omega
  have h143 : Gh 200000 (1, s, (i : Int), e) = some (ByteArray.mk #[], s, (i : Int), if e = 0 then 2 else e) := by
    simp only [Gh, Sp, Nk, ae]
    rw [if_neg (by decide), Option.bind_some, w1]
    by_cases he : e = 0
    · subst he
      rw [bd (by omega), if_pos (by rfl), Option.bind_some]
      simp only
      rw [if_pos (by rfl)]
      rfl
    · by_cases h1 : (1 : Int) > ((s.size - i : Nat) : Int)
      · rw [if_pos (by simpa using h1), if_neg (by simpa using he), Option.bind_some]
        simp only
        rw [if_pos (by simpa using he), if_neg he]
      · rw [if_neg (by simpa using h1), if_pos (by simpa using he), if_neg he]
  have hb : bytesOf (ByteArray.mk #[]) = [] := by rw [bG]; rfl
  have hloop : ∀ z, bE 200000 200000 (0, 0, 0, s, (i : Int), z, []) = some (0, s, (i : Int), z) := by
    intro z
    show er 200000 (bE 200000 199999) _ = _
    generalize bE 200000 199999 = G
    simp only [er, ae]
    rw [if_neg (by simp)]
  simp only [Va, Gn, Nl, ae]
  rw [if_pos (by decide), Option.bind_some, if_neg (by decide), h143, Option.bind_some]
  simp only
  rw [Nt 199999, Option.bind_some, if_pos (by rfl), hb]
  simp only [List.length_nil]
  rw [show ((0 : Nat) : Int) = 0 from rfl, hloop, Option.bind_some, Option.bind_some]
theorem ag4 : ∀ a : Nat, a < 256 → (IntKind.wrap .i64 ((BitVec.toNat (BitVec.ofInt 64 (a : Int) &&& BitVec.ofInt 64 15) : Nat) : Int) != 8) = (Int.tmod (a : Int) 16 != 8) := by decide +kernel
theorem aq4 : ∀ a : Nat, a < 256 → decide (Int.fdiv (a : Int) 16 > 7) = decide (IntKind.wrap .i64 (Int.tdiv (a : Int) 16) > 7) := by decide +kernel
theorem ag3 : ∀ a : Nat, a < 256 → (IntKind.wrap .i64 ((BitVec.toNat (BitVec.ofInt 64 (a : Int) &&& BitVec.ofInt 64 32) : Nat) : Int) != 0) = (Int.tmod (IntKind.wrap .i64 (Int.tdiv (a : Int) 32)) 2 == 1) := by decide +kernel
theorem Xn {a b : Nat} (ha : a < 256) (hb : b < 256) : IntKind.wrap .i64 ((BitVec.toNat (BitVec.ofInt 64 (IntKind.wrap .i64 ((a : Int) * 256)) ||| BitVec.ofInt 64 (b : Int)) : Nat) : Int) = IntKind.wrap .i64 (IntKind.wrap .i64 ((a : Int) * 256) + (b : Int)) := by
  have h := Pp (A := b) (B := a) (i := 8) (j := 8) (by omega) (by omega) (by decide)
  have e : ((a : Int) * 2 ^ min (Int.toNat ((8 : Nat) : Int)) 64) = (a : Int) * 256 := rfl
  rw [e] at h
  rw [BitVec.or_comm, h, wrap_i64 (z := (a : Int) * 256) (by omega) (by omega), wrap_i64 (by omega) (by omega)]
  omega
theorem IW (s : ByteArray) (hs : s.size ≤ 9223372036854775807) : ∃ e, FV 200000 s = some e ∧ Zd 200000 s = some e := by
  by_cases h2 : s.size < 2
  · refine ⟨2, ?_, ?_⟩
    · simp only [FV, YD, U9, ae]
      rw [Option.bind_some]
      by_cases h0 : s.size = 0
      · have e1 := xW s hs 0 0 (.inr (by omega)) (by omega)
        rw [if_pos rfl, show ((0 : Nat) : Int) = 0 from rfl] at e1
        have e2 := xW s hs 0 2 (.inl (by decide)) (by omega)
        rw [if_neg (by decide), show ((0 : Nat) : Int) = 0 from rfl] at e2
        rw [e1, Option.bind_some]
        simp only
        rw [e2, Option.bind_some]
        rfl
      · have e1 := xX s hs (i := 0) (by omega)
        rw [show ((0 : Nat) : Int) = 0 from rfl] at e1
        have e2 := xW s hs 1 0 (.inr (by omega)) (by omega)
        rw [if_pos rfl] at e2
        rw [e1, Option.bind_some]
        simp only
        rw [e2, Option.bind_some]
        rfl
    · simp only [Zd, ae]
      rw [bd (by omega)]
  · have e1 := xX s hs (i := 0) (by omega)
    rw [show ((0 : Nat) : Int) = 0 from rfl] at e1
    have e2 := xX s hs (i := 1) (by omega)
    have ha : (s.data.toList.getD 0 0).toNat < 256 := (s.data.toList.getD 0 0).toNat_lt
    have hb : (s.data.toList.getD 1 0).toNat < 256 := (s.data.toList.getD 1 0).toNat_lt
    have ea : bb s 0 = (((s.data.toList.getD 0 0).toNat : Nat) : Int) := rfl
    have eb : bb s 1 = (((s.data.toList.getD 1 0).toNat : Nat) : Int) := rfl
    have g0 : s[0]? = some (s.data.toList.getD 0 0) := FC (by omega)
    have g1 : s[1]? = some (s.data.toList.getD 1 0) := FC (by omega)
    have c1 := ag4 _ ha
    have c2 := aq4 _ ha
    have c3 := ag3 _ hb
    have c4 := Xn ha hb
    have w1 : IntKind.wrap .i64 (((s.data.toList.getD 0 0).toNat : Nat) : Int) = (((s.data.toList.getD 0 0).toNat : Nat) : Int) := wrap_i64 (by omega) (by omega)
    have w2 : IntKind.wrap .i64 (((s.data.toList.getD 1 0).toNat : Nat) : Int) = (((s.data.toList.getD 1 0).toNat : Nat) : Int) := wrap_i64 (by omega) (by omega)
    have h36 : Zd 200000 s = FV 200000 s := by
      simp only [FV, Zd, YD, U9, ae]
      rw [aY (by omega), g0, Option.bind_some, g1, Option.bind_some, Option.bind_some, e1, Option.bind_some]
      simp only
      rw [show ((0 + 1 : Nat) : Int) = ((1 : Nat) : Int) from rfl, e2, Option.bind_some]
      simp only
      rw [Option.bind_some, ea, eb, w1, w2, c1, c2, c3, c4]
      simp
    have h35 : ∃ e, FV 200000 s = some e := by
      simp only [FV, YD, U9, ae]
      rw [Option.bind_some, e1, Option.bind_some]
      simp only
      rw [show ((0 + 1 : Nat) : Int) = ((1 : Nat) : Int) from rfl, e2, Option.bind_some]
      simp only
      rw [Option.bind_some]
      split
      · exact ⟨_, rfl⟩
      · split
        · exact ⟨_, rfl⟩
        · split
          · exact ⟨_, rfl⟩
          · split
            · exact ⟨_, rfl⟩
            · split <;> exact ⟨_, rfl⟩
    obtain ⟨e, he⟩ := h35
    exact ⟨e, he, h36.trans he⟩
theorem extract_data (s : ByteArray) (n : Nat) : (s.extract n s.size).data.toList = s.data.toList.drop n := by
  have hsl : s.data.toList.length = s.size := by simp
  rw [ByteArray.data_extract, Array.toList_extract, List.extract_eq_take_drop, List.take_of_length_le (by rw [List.length_drop]; omega)]
theorem XE {a b : ByteArray} (h : a.data.toList = b.data.toList) : a = b := by
  apply ByteArray.ext
  apply Array.ext'
  exact h
theorem v8 (a b : ByteArray) : (a ++ b).data.toList = a.data.toList ++ b.data.toList := by
  rw [ByteArray.data_append, Array.toList_append]
def GQ : ByteArray := ByteArray.mk #[120, 156]
theorem vF : GQ.data.toList = [120, 156] := rfl
theorem PR : GQ.size = 2 := rfl
theorem J1 (X : ByteArray) : (GQ ++ X).extract 2 (GQ ++ X).size = X := by
  apply XE
  rw [extract_data, v8, vF]
  rfl
theorem Xt (X : ByteArray) : Zd 200000 (GQ ++ X) = some 0 := by
  have hs : (GQ ++ X).size = 2 + X.size := ByteArray.size_append
  have h0 : (GQ ++ X)[0]? = some 120 := by rw [byte_at _ _ (by omega), v8, vF]; rfl
  have h1 : (GQ ++ X)[1]? = some 156 := by rw [byte_at _ _ (by omega), v8, vF]; rfl
  simp only [Zd, ae]
  rw [aY (by omega), h0, Option.bind_some, h1, Option.bind_some]
  rfl
theorem GU {w : ByteArray} (h : w.size ≤ 32768) : aX w = w := by unfold aX; rw [if_neg (by omega)]
theorem mN {w s : ByteArray} {P : List Tok} (hP : PackOk w s P) (hw : w.size ≤ 20000) (hs : s.size ≤ 8000) (b : Bool) :
    NY 200000 (s, b, w) = some (if b = true then cC (bf s P) else GQ ++ cC (bf s P), true, w ++ s) := by
  have hl := ez s P (by omega)
  have hz := eU (bf s P)
  have hsz : (w ++ s).size = w.size + s.size := ByteArray.size_append
  have ht := GU (w := w ++ s) (by omega)
  simp only [NY, ae]
  rw [FW hP hs, Option.bind_some]
  cases b with
  | true =>
    rw [if_neg (by decide), aY (by omega), mG _ _ (by omega), Option.bind_some, ht]
    rfl
  | false =>
    rw [if_pos (show (!false) = true from rfl), aY (by omega), aY (by omega), mG _ _ (by omega), Option.bind_some, ht]
    rfl
set_option maxRecDepth 100000
theorem Ns (N : Nat) (s : ByteArray) (p : Nat) (n3 err : Int) (hs : s.size ≤ 1000000000) {k : Nat} (hk : k ≤ 32) (hp : p + k ≤ 8 * s.size) : ∀ (d i f : Nat), i + d = k → d < f →
    fY N f ((val (gl s p i) : Int), (i : Int), (k : Int), n3, s, (p : Int), err) = some (n3, (val (gl s p k) : Int), s, (p : Int), err) := by
  intro d
  induction d with
  | zero =>
    intro i f hi hf
    cases f with
    | zero => omega
    | succ f =>
      simp only [fY, qK, ae]
      rw [if_neg (by simp; omega), show i = k by omega]
  | succ d ih =>
    intro i f hi hf
    cases f with
    | zero => omega
    | succ f =>
      simp only [fY, qK, ae]
      have e0 : IntKind.wrap .i64 ((p : Int) + (i : Int)) = ((p + i : Nat) : Int) := by
        rw [wrap_i64 (by omega) (by omega)]; omega
      have e1 : Int.tdiv ((p + i : Nat) : Int) 8 = (((p + i) / 8 : Nat) : Int) := by
        rw [Int.tdiv_eq_ediv_of_nonneg (by omega)]; omega
      have e2 : IntKind.wrap .i64 ((((p + i) / 8 : Nat)) : Int) = (((p + i) / 8 : Nat) : Int) := wrap_i64 (by omega) (by omega)
      have e3 : Int.tmod ((p + i : Nat) : Int) 8 = (((p + i) % 8 : Nat) : Int) := by
        rw [Int.tmod_eq_emod_of_nonneg (by omega)]; omega
      rw [if_pos (by simp; omega)]
      simp only [e0, e1, e2, e3, Int.toNat_natCast]
      rw [bd (by omega), byte_at s _ (by omega), Option.bind_some, if_neg (by simp; omega), if_neg (by simp)]
      have hy := (s.data.toList.getD ((p + i) / 8) 0).toNat_lt
      have e4 : IntKind.wrap .i64 (((s.data.toList.getD ((p + i) / 8) 0).toNat : Nat) : Int) = (((s.data.toList.getD ((p + i) / 8) 0).toNat : Nat) : Int) := wrap_i64 (by omega) (by omega)
      have e5 : min ((p + i) % 8) 64 = (p + i) % 8 := by omega
      have e6 : (Int.fdiv (((s.data.toList.getD ((p + i) / 8) 0).toNat : Nat) : Int) (2 ^ ((p + i) % 8))) % 2 = (((yG s (p + i)).toNat : Nat) : Int) := by
        rw [Int.fdiv_eq_ediv_of_nonneg _ (Int.pow_nonneg (by decide))]
        unfold yG
        rw [Nat.toNat_testBit]
        simp
      rw [e4, e5, ag1, e6]
      have hA := gW (gl s p i)
      rw [pC] at hA
      have hB : (yG s (p + i)).toNat < 2 ^ 1 := by cases yG s (p + i) <;> decide
      have e7 := Pp hA hB (by omega)
      rw [Int.toNat_natCast] at e7
      rw [e7]
      have e8 : val (gl s p i) + 2 ^ i * (yG s (p + i)).toNat = val (gl s p (i + 1)) := by
        rw [G9, val_append, pC]
        simp [val]
      have e9 : IntKind.wrap .i64 ((i : Int) + 1) = ((i + 1 : Nat) : Int) := by
        rw [wrap_i64 (by omega) (by omega)]; omega
      rw [e8, e9, ih (i + 1) f (by omega) (by omega), Option.bind_some]
theorem Nr {N : Nat} (hN : 33 ≤ N) (s : ByteArray) (p : Nat) (n : Int) (hs : s.size ≤ 1000000000) (hp : p + am n ≤ 8 * s.size) :
    iA N (n, s, (p : Int), 0) = some ((val (gl s p (am n)) : Int), s, ((p + am n : Nat) : Int), 0) := by
  have hc := bk n
  simp only [iA, yj, U8, ae]
  rw [j5, Option.bind_some, if_pos (by simp), Option.bind_some]
  have e1 : IntKind.wrap .i64 (IntKind.wrap .i64 ((8 : Int) * (s.size : Int)) - (p : Int)) = ((8 * s.size - p : Nat) : Int) := by
    rw [wrap_i64 (z := (8 : Int) * (s.size : Int)) (by omega) (by omega), wrap_i64 (by omega) (by omega)]; omega
  simp only [e1]
  rw [if_neg (by simp; omega)]
  simp only [Option.bind_some]
  rw [if_neg (by simp)]
  have h0 : (0 : Int) = (val (gl s p 0) : Int) := by simp [gl, val]
  have hl := Ns N s p ((am n : Nat) : Int) 0 hs hc hp (am n) 0 N (by omega) (by omega)
  rw [show ((0 : Nat) : Int) = 0 from rfl, ← h0] at hl
  rw [hl, Option.bind_some]
  simp only
  rw [wrap_i64 (by omega) (by omega)]
  simp
theorem ql (N : Nat) (s : ByteArray) (p : Nat) (e : Int) (hs : s.size ≤ 1000000000) (hp : p ≤ 8 * s.size) : U8 N (s, (p : Int), e, ()) = some (((8 * s.size - p : Nat) : Int)) := by
  simp only [U8, ae]
  rw [wrap_i64 (z := (8 : Int) * (s.size : Int)) (by omega) (by omega), wrap_i64 (by omega) (by omega)]
  congr 1
  omega
theorem tV {N : Nat} (hN : 33 ≤ N) (s : ByteArray) (p : Nat) (e n : Int) (hs : s.size ≤ 1000000000) (hp : p ≤ 8 * s.size) :
    iA N (n, s, (p : Int), e) = some (((rd (aQ s) p e n).1 : Int), s, ((rd (aQ s) p e n).2.1 : Int), (rd (aQ s) p e n).2.2) := by
  have hal := aJ s
  have hc := bk n
  unfold rd
  by_cases he : e = 0
  · subst he
    rw [if_pos rfl]
    by_cases h : p + am n ≤ 8 * s.size
    · rw [if_pos (by omega), Nr hN s p n hs h, EL s p _ h]
    · rw [if_neg (by omega)]
      simp only [iA, yj, ae]
      rw [j5, Option.bind_some, if_pos (by simp), ql N s p 0 hs hp, Option.bind_some, if_pos (by simp; omega), Option.bind_some, if_pos (by simp)]
      rfl
  · rw [if_neg he]
    simp only [iA, yj, ae]
    rw [j5, Option.bind_some, if_neg (by simpa using he), Option.bind_some, if_pos (by simpa using he)]
    rfl
theorem I2 (N : Nat) (lens x2 x5 : List Int) (hl : lens.length ≤ 320) (l lg : Nat) (S : List Int) (hS : S.length ≤ 10000) : ∀ (d i f : Nat), i + d = lens.length → d < f →
    cL N f ((i : Int), (lens.length : Int), x2, lens, (l : Int), x5, ((tq lens l i lg : Nat) : Int), S ++ be lens l i) =
      some ((l : Int), x2, x5, ((tq lens l lens.length lg : Nat) : Int), S ++ be lens l lens.length) := by
  intro d
  induction d with
  | zero =>
    intro i f hi hf
    cases f with
    | zero => omega
    | succ f =>
      simp only [cL, lh, ae]
      rw [aY (by omega), show i = lens.length by omega]
  | succ d ih =>
    intro i f hi hf
    cases f with
    | zero => omega
    | succ f =>
      have hil : i < lens.length := by omega
      have ih' := ih (i + 1) f (by omega) (by omega)
      have hw : IntKind.wrap .i64 ((i : Int) + 1) = ((i + 1 : Nat) : Int) := by rw [wrap_i64 (by omega) (by omega)]; omega
      have hc : decide ((i : Int) < (lens.length : Int)) = true := by simp only [decide_eq_true_eq]; omega
      have hwi : within (i : Int) lens.length = true := by unfold within; simp only [decide_eq_true_eq]; omega
      have hg : lens[i]? = some lens[i] := List.getElem?_eq_getElem hil
      have hgd : lens.getD i 0 = lens[i] := by rw [List.getD, hg]; rfl
      have hsl := dk lens l i (by omega)
      have hcl : (lens.take i).count (l : Int) ≤ 320 := Nat.le_trans List.count_le_length (by rw [List.length_take]; omega)
      simp only [cL, lh, hc, hwi, hg, hw, Int.toNat_natCast, if_true, Option.bind_some, ae]
      by_cases he : lens[i] = (l : Int)
      · have hb : (lens[i] == (l : Int)) = true := by simpa using he
        have es : be lens l (i + 1) = be lens l i ++ [(i : Int)] := by rw [be, hgd, if_pos he]
        have el : tq lens l (i + 1) lg = l := by unfold tq; rw [es]; simp
        rw [es, el, ← List.append_assoc] at ih'
        rw [if_pos hb, if_pos (by simp only [decide_eq_true_eq, List.length_append, List.length_singleton]; omega), ih', Option.bind_some]
      · have hb : (lens[i] == (l : Int)) = false := by simpa using he
        have es : be lens l (i + 1) = be lens l i := by rw [be, hgd, if_neg he]
        have el : tq lens l (i + 1) lg = tq lens l i lg := by unfold tq; rw [es]
        rw [es, el] at ih'
        rw [if_neg (by rw [hb]; decide), ih', Option.bind_some]
theorem I1 (N : Nat) (hN : 400 ≤ N) (lens x2 : List Int) (hl : lens.length ≤ 320) : ∀ (d l f : Nat), l + d = 15 → d < f →
    eO N f (lens, ((l + 1 : Nat) : Int), x2, ((cr lens l : Nat) : Int), aF lens l) = some (x2, ((cr lens 15 : Nat) : Int), aF lens 15) := by
  intro d
  induction d with
  | zero =>
    intro l f hi hf
    cases f with
    | zero => omega
    | succ f =>
      have : l = 15 := by omega
      subst this
      simp only [eO, qG, ae]
      rw [if_neg (by decide)]
  | succ d ih =>
    intro l f hi hf
    cases f with
    | zero => omega
    | succ f =>
      have ih' := ih (l + 1) f (by omega) (by omega)
      have hs := kj lens hl l
      have hin := I2 N lens lens x2 hl (l + 1) (cr lens l) (aF lens l) (by omega) lens.length 0 N (by omega) (by omega)
      have e0 : tq lens (l + 1) 0 (cr lens l) = cr lens l := rfl
      rw [e0, show be lens (l + 1) 0 = [] from rfl, List.append_nil, show ((0 : Nat) : Int) = 0 from rfl] at hin
      simp only [eO, qG, ae]
      rw [bd (by omega), hin, Option.bind_some]
      simp only
      rw [wrap_i64 (by omega) (by omega), show ((l + 1 : Nat) : Int) + 1 = ((l + 1 + 1 : Nat) : Int) by omega]
      have ih'' : eO N f (lens, ((l + 1 + 1 : Nat) : Int), x2, ((tq lens (l + 1) lens.length (cr lens l) : Nat) : Int), aF lens l ++ be lens (l + 1) lens.length) = _ := ih'
      rw [ih'', Option.bind_some]
theorem yf {N : Nat} (hN : 400 ≤ N) (lens : List Int) : Gc N lens = some (if (chk lens).2 = 0 then .inr (0, dJ lens, ((cr lens 15 : Nat) : Int), aF lens 15) else .inl (chk lens).2) := by
  obtain ⟨c, hc, hcc⟩ := xT hN lens
  simp only [Gc, ae]
  rw [Kv hN, Option.bind_some]
  by_cases h : (chk lens).2 = 0
  · obtain ⟨a1, a2⟩ := bo h
    have hok : yL lens = true := by unfold yL; rw [decide_eq_true a1, a2]; rfl
    have ho := I1 N hN lens (dJ lens) a1 15 0 N (by omega) (by omega)
    rw [show ((0 + 1 : Nat) : Int) = 1 from rfl, show ((cr lens 0 : Nat) : Int) = 0 from rfl, show aF lens 0 = [] from rfl] at ho
    rw [if_neg (by simpa using h), if_pos h, hc, Option.bind_some, hcc hok]
    simp only
    rw [ho, Option.bind_some]
  · rw [if_pos (by simpa using h), if_neg h]
theorem M0 (N : Nat) (lens : List Int) (hl : lens.length ≤ 320) (lg l : Nat) (hlg : lg ≤ 15) (hle : l ≤ lg) (x4 : Int) (x5 : List Int) : ∀ (e d f : Nat), d + e = lg - l → e < f →
    iY N f ((d5 lens lg d : Int), ((lg - d : Nat) : Int), (l : Int), dJ lens, x4, x5) = some ((d5 lens lg (lg - l) : Int), dJ lens, x4, x5) := by
  intro e
  induction e with
  | zero =>
    intro d f hd hf
    cases f with
    | zero => omega
    | succ f =>
      simp only [iY, uf, ae]
      rw [aY (by omega), show d = lg - l by omega]
  | succ e ih =>
    intro d f hd hf
    cases f with
    | zero => omega
    | succ f =>
      have ih' := ih (d + 1) f (by omega) (by omega)
      have hr := pI lens lg hl d
      have hc : lens.count ((lg - d : Nat) : Int) ≤ 320 := Nat.le_trans List.count_le_length hl
      simp only [iY, uf, ae]
      rw [bd (by omega), if_pos (show within ((lg - d : Nat) : Int) 16 = true by unfold within; simp only [decide_eq_true_eq]; omega), Int.toNat_natCast, im _ (by omega), Option.bind_some]
      rw [wrap_i64 (z := (d5 lens lg d : Int) + _) (by omega) (by omega), wrap_i64 (z := (d5 lens lg d : Int) + (lens.count ((lg - d : Nat) : Int) : Int) + 1) (by omega) (by omega)]
      have e1 : Int.tdiv ((d5 lens lg d : Int) + (lens.count ((lg - d : Nat) : Int) : Int) + 1) 2 = ((d5 lens lg (d + 1) : Nat) : Int) := by
        rw [Int.tdiv_eq_ediv_of_nonneg (by omega), d5]; omega
      have hr2 := pI lens lg hl (d + 1)
      rw [e1, wrap_i64 (by omega) (by omega), wrap_i64 (by omega) (by omega), show ((lg - d : Nat) : Int) - 1 = ((lg - (d + 1) : Nat) : Int) by omega, ih', Option.bind_some]
theorem MZ {N : Nat} (hN : 20 < N) (lens : List Int) (hl : lens.length ≤ 320) (lg l : Nat) (hlg : lg ≤ 15) (hle : l ≤ lg) (x5 : List Int) : Sl N ((l : Int), dJ lens, (lg : Int), x5) = some ((d5 lens lg (lg - l) : Int), dJ lens, (lg : Int), x5) := by
  simp only [Sl, ae]
  have h := M0 N lens hl lg l hlg hle (lg : Int) x5 (lg - l) 0 N (by omega) (by omega)
  rw [show ((d5 lens lg 0 : Nat) : Int) = 0 from rfl, Nat.sub_zero] at h
  rw [h, Option.bind_some]
abbrev DR := Int × Int × (List Int) × Int × ByteArray × Int × Int × (List Int)
def ad2 : (DR ⊕ ((List Int) × Int × ByteArray × Int × Int × (List Int))) → DR
  | .inl y => y
  | .inr z => (0, 3, z)
theorem Xk {L : List Bool} {p : Nat} : rd L p 0 1 = if p + 1 ≤ L.length then ((L.getD p false).toNat, p + 1, 0) else (0, p, 2) := by
  have c : am 1 = 1 := rfl
  unfold rd
  rw [if_pos rfl, c]
  by_cases h : p + 1 ≤ L.length
  · rw [if_pos h, if_pos h]
    have e : (L.drop p).take 1 = [L.getD p false] := by
      rw [List.drop_eq_getElem_cons (by omega), List.take_succ_cons, List.take_zero, List.getD, List.getElem?_eq_getElem (by omega)]; rfl
    rw [e]
    simp [val]
  · rw [if_neg h, if_neg h]
theorem M5 {N : Nat} (hN : 100 ≤ N) (lens : List Int) (hl : lens.length ≤ 320) (s : ByteArray) (hs : s.size ≤ 1000000) (lg : Nat) (hlg : lg ≤ 15) :
    ∀ (d f v p : Nat), d ≤ lg → d < f → p ≤ 8 * s.size → v < 2 ^ (lg - d) → ∀ y e' p', Hz lens lg (aQ s) d v p = some (y, e', p') →
    (∀ l, l ≤ 15 → ∀ w, first lens l ≤ w → w < first lens l + lens.count (l : Int) → 0 < l → (aF lens (l - 1)).length + (w - first lens l) < (aF lens 15).length) →
    ∃ r, gF N f (((aF lens (lg - d)).length : Int), ((first lens (lg - d + 1) : Nat) : Int), ((lg - d + 1 : Nat) : Int), ((2 * v : Nat) : Int), dJ lens, (lg : Int), s, (p : Int), 0, aF lens 15) = some r ∧
      ad2 r = (y, e', dJ lens, (lg : Int), s, (p' : Int), (if e' = 2 then 2 else 0), aF lens 15) := by
  have hal := aJ s
  intro d
  induction d with
  | zero =>
    intro f v p hd hf hp hv y e' p' hdec hin
    cases f with
    | zero => omega
    | succ f =>
      unfold Hz at hdec
      cases hdec
      simp only [gF, ug, ae]
      rw [aY (by omega)]
      exact ⟨_, rfl, rfl⟩
  | succ d ih =>
    intro f v p hd hf hp hv y e' p' hdec hin
    cases f with
    | zero => omega
    | succ f =>
      have hl1 : lg - (d + 1) + 1 = lg - d := by omega
      have hl0 : lg - (d + 1) = lg - d - 1 := by omega
      rw [hl1, hl0]
      have hlp : 0 < lg - d := by omega
      have hle : lg - d ≤ lg := by omega
      simp only [Hz] at hdec
      have hfs := fK lens hl (show lg - d ≤ 15 by omega)
      have hcl : lens.count ((lg - d : Nat) : Int) ≤ 320 := Nat.le_trans List.count_le_length hl
      have hsu := kj lens hl (lg - d - 1)
      have hv15 : 2 ^ (lg - (d + 1)) ≤ 2 ^ 15 := Nat.pow_le_pow_right (by decide) (by omega)
      have hd' : lg - (lg - d) = d := by omega
      have hrr := pI lens lg hl d
      have hfn := oF lens hlp
      have hst := lC lens hlp
      generalize hL : lg - d = l at *
      have hwl : within (l : Int) 16 = true := by unfold within; simp only [decide_eq_true_eq]; omega
      have hg := im lens (show l < 16 by omega)
      have hF67 := MZ (N := N) (by omega) lens hl lg l hlg (by omega) (aF lens 15)
      rw [hd'] at hF67
      have h66 : ∀ (q : Nat) (e : Int), gH N (s, (q : Int), e, ()) = some e := fun q e => rfl
      simp only [gF, ug, ae]
      rw [bd (by omega), tV (by omega) s p 0 1 (by omega) hp, Option.bind_some, Xk]
      by_cases hlt : p < (aQ s).length
      · rw [if_pos hlt] at hdec
        rw [if_pos (show p + 1 ≤ (aQ s).length by omega)]
        have hb2 : ((aQ s).getD p false).toNat < 2 := by cases (aQ s).getD p false <;> decide
        generalize ((aQ s).getD p false).toNat = b at *
        simp only
        rw [h66, Option.bind_some, if_neg (by decide), if_pos hwl, Int.toNat_natCast, hg, Option.bind_some, or_bit v b (by omega) hb2]
        have hvw : v ≤ 32768 := by omega
        have hw2 : 2 * v + b < 2 ^ l := by
          have e : 2 ^ l = 2 * 2 ^ (l - 1) := by
            obtain ⟨k, rfl⟩ : ∃ k, l = k + 1 := ⟨l - 1, by omega⟩
            rw [Nat.add_sub_cancel, Nat.pow_succ]; omega
          have e3 : lg - (d + 1) = l - 1 := by omega
          rw [e3] at hv
          omega
        generalize hw : 2 * v + b = w at *
        have hwb : w ≤ 65537 := by omega
        rw [wrap_i64 (z := (w : Int) - ((first lens l : Nat) : Int)) (by omega) (by omega)]
        by_cases hA : w < first lens l + lens.count (l : Int)
        · rw [if_pos hA] at hdec
          by_cases hF : first lens l ≤ w
          · rw [if_pos hF] at hdec
            simp only [Option.some.injEq, Prod.mk.injEq] at hdec
            obtain ⟨rfl, rfl, rfl⟩ := hdec
            have hi := hin l (by omega) w hF hA hlp
            have hidx : IntKind.wrap .i64 (((aF lens (l - 1)).length : Int) + ((w : Int) - ((first lens l : Nat) : Int))) = (((aF lens (l - 1)).length + (w - first lens l) : Nat) : Int) := by
              rw [wrap_i64 (by omega) (by omega)]; omega
            have hgi := get_at hi
            rw [bd (by omega), hidx, if_pos (show within (((aF lens (l - 1)).length + (w - first lens l) : Nat) : Int) (aF lens 15).length = true by unfold within; simp only [decide_eq_true_eq]; omega), Int.toNat_natCast, hgi, Option.bind_some]
            exact ⟨_, rfl, rfl⟩
          · rw [if_neg hF] at hdec
            cases hdec
        · rw [if_neg hA] at hdec
          have e2 : Int.fdiv (IntKind.wrap .i64 ((w : Int) * 2)) 2 = (w : Int) := by
            rw [wrap_i64 (by omega) (by omega), Int.fdiv_eq_ediv_of_nonneg _ (by decide)]; omega
          have e4 : IntKind.wrap .i64 (IntKind.wrap .i64 (((first lens l : Nat) : Int) + (lens.count (l : Int) : Int)) * 2) = ((first lens (l + 1) : Nat) : Int) := by
            rw [wrap_i64 (z := ((first lens l : Nat) : Int) + _) (by omega) (by omega), wrap_i64 (by omega) (by omega), hfn]; omega
          have e5 : Int.fdiv ((first lens (l + 1) : Nat) : Int) 2 = ((first lens l + lens.count (l : Int) : Nat) : Int) := by
            rw [Int.fdiv_eq_ediv_of_nonneg _ (by decide), hfn]; omega
          rw [aY (by omega), if_pos hwl, Option.bind_some, if_pos hwl, Option.bind_some, hF67, Option.bind_some]
          simp only [e2, e4, e5]
          rw [wrap_i64 (z := (w : Int) - _) (by omega) (by omega)]
          by_cases hR : d5 lens lg d ≤ w - (first lens l + lens.count (l : Int))
          · rw [if_pos hR] at hdec
            simp only [Option.some.injEq, Prod.mk.injEq] at hdec
            obtain ⟨rfl, rfl, rfl⟩ := hdec
            rw [bd (by omega)]
            exact ⟨_, rfl, rfl⟩
          · rw [if_neg hR] at hdec
            obtain ⟨r, r1, r2⟩ := ih f w (p + 1) (by omega) (by omega) (by omega) hw2 y e' p' hdec hin
            have hstl : (aF lens l).length ≤ 320 * l := kj lens hl l
            have e6 : IntKind.wrap .i64 (((aF lens (l - 1)).length : Int) + (lens.count (l : Int) : Int)) = ((aF lens l).length : Int) := by
              rw [wrap_i64 (by omega) (by omega), hst]; omega
            have e7 : IntKind.wrap .i64 ((w : Int) * 2) = ((2 * w : Nat) : Int) := by rw [wrap_i64 (by omega) (by omega)]; omega
            have e8 : IntKind.wrap .i64 ((l : Int) + 1) = ((l + 1 : Nat) : Int) := by rw [wrap_i64 (by omega) (by omega)]; omega
            rw [aY (by omega), e6, e7, e8, r1, Option.bind_some]
            cases r with
            | inl z => exact ⟨_, rfl, r2⟩
            | inr z => exact ⟨_, rfl, r2⟩
      · rw [if_neg hlt] at hdec
        cases hdec
        rw [if_neg (show ¬ p + 1 ≤ (aQ s).length by omega)]
        simp only
        rw [h66, Option.bind_some, if_pos (by decide)]
        exact ⟨_, rfl, rfl⟩
theorem M4 {N : Nat} (hN : 100 ≤ N) (lens : List Int) (hl : lens.length ≤ 320) (s : ByteArray) (hs : s.size ≤ 1000000) (p : Nat) (hp : p ≤ 8 * s.size) {y e' : Int} {p' : Nat} (hd : Hz lens (cr lens 15) (aQ s) (cr lens 15) 0 p = some (y, e', p')) :
    Dx N (dJ lens, ((cr lens 15 : Nat) : Int), s, (p : Int), 0, aF lens 15) = some (y, e', dJ lens, ((cr lens 15 : Nat) : Int), s, (p' : Int), (if e' = 2 then 2 else 0), aF lens 15) := by
  have hlg := tK lens 15
  obtain ⟨r, r1, r2⟩ := M5 hN lens hl s hs (cr lens 15) hlg (cr lens 15) N 0 p (Nat.le_refl _) (by omega) hp (by rw [Nat.sub_self]; decide) y e' p' hd (XA lens)
  rw [Nat.sub_self] at r1
  simp only [Dx, ae]
  have r1' : gF N N (0, 0, 1, 0, dJ lens, ((cr lens 15 : Nat) : Int), s, (p : Int), 0, aF lens 15) = some r := r1
  rw [r1', Option.bind_some]
  cases r with
  | inl z => rw [← r2]; rfl
  | inr z => rw [← r2]; rfl
set_option maxRecDepth 100000
def At (L : List Bool) (p : Nat) (M : List Bool) : Prop := ∃ P R, L = P ++ (M ++ R) ∧ P.length = p
theorem At.left {L : List Bool} {p : Nat} {M M' : List Bool} : At L p (M ++ M') → At L p M := fun ⟨P, R, h, e⟩ => ⟨P, M' ++ R, by rw [h, List.append_assoc], e⟩
theorem At.right {L : List Bool} {p : Nat} {M M' : List Bool} : At L p (M ++ M') → At L (p + M.length) M' := fun ⟨P, R, h, e⟩ => ⟨P ++ M, R, by rw [h]; simp only [List.append_assoc], by rw [List.length_append, e]⟩
theorem At.le {L : List Bool} {p : Nat} {M : List Bool} : At L p M → p + M.length ≤ L.length := fun ⟨P, R, h, e⟩ => by rw [h, List.length_append, List.length_append]; omega
theorem At.get {L : List Bool} {p : Nat} {M : List Bool} (h : At L p M) {k : Nat} (hk : k < M.length) : L[p + k]? = M[k]? := by
  obtain ⟨P, R, rfl, rfl⟩ := h
  rw [List.getElem?_append_right (by omega), Nat.add_sub_cancel_left, List.getElem?_append_left hk]
theorem At.take {L : List Bool} {p : Nat} {M : List Bool} (h : At L p M) : (L.drop p).take M.length = M := by
  obtain ⟨P, R, rfl, rfl⟩ := h
  rw [List.drop_left, List.take_left]
theorem jH {lens : List Int} (h : (chk lens).2 = 0) {j : Nat} (hc : cT (af lens) j = true) (s : ByteArray) (hs : s.size ≤ 1000000) (p : Nat) (hA : At (aQ s) p (ag (at_ (af lens) j))) :
    Dx 200000 (dJ lens, ((cr lens 15 : Nat) : Int), s, (p : Int), 0, aF lens 15) = some ((j : Int), 0, dJ lens, ((cr lens 15 : Nat) : Int), s, ((p + (ag (at_ (af lens) j)).length : Nat) : Int), 0, aF lens 15) := by
  obtain ⟨a1, a2⟩ := bo h
  have hle := hA.le
  have hal := aJ s
  unfold cT at hc
  rw [Bool.and_eq_true, decide_eq_true_eq, b8] at hc
  obtain ⟨hj, h2⟩ := hc
  have e : at_ (af lens) j = ap lens j := by unfold at_; rw [List.getD, il lens hj]; rfl
  have h2' : (at_ (af lens) j).2.1 ≠ 0 := by
    unfold at_
    simpa using h2
  rw [e] at hA h2' hle ⊢
  have h0 : 0 < lens.getD j 0 := by
    rw [gQ] at h2'
    by_cases hp : 0 < lens.getD j 0
    · exact hp
    · rw [if_neg hp] at h2'; exact absurd rfl h2'
  obtain ⟨c1, c2⟩ := bL h hj h0
  have hlt := qc h hj h0
  have hd := Qs h hj h0 (aQ s) p (fun k hk => by rw [hA.get (by omega)]; exact c2 k hk) (lens.getD j 0).toNat 0 (by omega) (by omega)
  rw [Nat.sub_zero, Nat.sub_zero, Nat.div_eq_of_lt hlt, Nat.add_zero] at hd
  rw [M4 (by decide) lens a1 s (by omega) p (by omega) hd, c1]
  rfl
theorem Pf {L : List Bool} {p : Nat} {n v : Int} (hA : At L p (an n v)) (h0 : 0 ≤ v) (h1 : v < 2 ^ am n) : rd L p 0 n = (v.toNat, p + (an n v).length, 0) := by
  have hle := hA.le
  have ht := hA.take
  have hl := al n v
  rw [hl] at hle ht ⊢
  unfold rd
  rw [if_pos rfl, if_pos hle, ht]
  have hc := bk n
  have hp := lP hc
  obtain ⟨w, rfl⟩ := Int.eq_ofNat_of_zero_le h0
  have hw : w < 2 ^ am n := by exact_mod_cast h1
  have : val (an n (w : Int)) = w := by
    unfold an cq
    rw [BitVec.ofInt_natCast, BitVec.toNat_ofNat, Nat.mod_eq_of_lt (a := w) (by omega), Nat.mod_eq_of_lt hw]
    rw [nf, Nat.mod_eq_of_lt hw]
  rw [this]
  rfl
theorem PG : ∀ j, j < 28 → bJ.getD (j + 1) 0 - bJ.getD j 0 ≤ 2 ^ am (dM.getD j 0) := by decide +kernel
theorem Qo : ∀ j, j < 29 → bK.getD (j + 1) 0 - bK.getD j 0 ≤ 2 ^ am (dN.getD j 0) := by decide +kernel
theorem TH {n : Int} (h1 : 3 ≤ n) (h2 : n ≤ 258) {j : Nat} (hj : j < 29) (h : de bJ n 29 = some j) : 0 ≤ n - bJ.getD j 0 ∧ n - bJ.getD j 0 < 2 ^ am (dM.getD j 0) := by
  obtain ⟨_, a, b⟩ := dn h
  refine ⟨by omega, ?_⟩
  by_cases e : j = 28
  · subst e
    have : bJ.getD 28 0 = 258 := rfl
    have : dM.getD 28 0 = 0 := rfl
    rw [this]
    show n - bJ.getD 28 0 < 1
    omega
  · have := PG j (by omega)
    have := b (j + 1) (by omega) (by omega)
    omega
theorem TN {n : Int} (h1 : 1 ≤ n) (h2 : n ≤ 32768) {j : Nat} (hj : j < 30) (h : de bK n 30 = some j) : 0 ≤ n - bK.getD j 0 ∧ n - bK.getD j 0 < 2 ^ am (dN.getD j 0) := by
  obtain ⟨_, a, b⟩ := dn h
  refine ⟨by omega, ?_⟩
  by_cases e : j = 29
  · subst e
    have : bK.getD 29 0 = 24577 := rfl
    have : dN.getD 29 0 = 13 := rfl
    rw [this]
    show n - bK.getD 29 0 < 8192
    omega
  · have := Qo j (by omega)
    have := b (j + 1) (by omega) (by omega)
    omega
theorem Tx {j : Nat} (hj : j < 29) : vg bJ dM (257 + (j : Int)) 257 = (bJ.getD j 0, dM.getD j 0) := by
  have : bJ.length = 29 := rfl
  unfold vg
  rw [if_neg (by omega), show (257 + (j : Int) - 257).toNat = j by omega]
theorem Tz {j : Nat} (hj : j < 30) : vg bK dN (0 + (j : Int)) 0 = (bK.getD j 0, dN.getD j 0) := by
  have : bK.length = 30 := rfl
  unfold vg
  rw [if_neg (by omega), show (0 + (j : Int) - 0).toNat = j by omega]
theorem MY (s : ByteArray) (hs : s.size ≤ 1000000) (p : Nat) (hp : p ≤ 8 * s.size) (sym : Int) (h1 : -9223372036854775808 ≤ sym ∧ sym ≤ 9223372036854775807) :
    FZ 200000 (sym, s, (p : Int), 0) = some (IntKind.wrap .i64 ((vg bJ dM sym 257).1 + ((rd (aQ s) p 0 (vg bJ dM sym 257).2).1 : Int)), (rd (aQ s) p 0 (vg bJ dM sym 257).2).2.2, s, ((rd (aQ s) p 0 (vg bJ dM sym 257).2).2.1 : Int), (rd (aQ s) p 0 (vg bJ dM sym 257).2).2.2) := by
  simp only [FZ, ae]
  rw [Vv sym h1, Option.bind_some, tV (by decide) s p 0 _ (by omega) hp, Option.bind_some]
  rfl
theorem MX (s : ByteArray) (hs : s.size ≤ 1000000) (p : Nat) (hp : p ≤ 8 * s.size) (sym : Int) (h1 : -9223372036854775808 ≤ sym ∧ sym ≤ 9223372036854775807) :
    FY 200000 (sym, s, (p : Int), 0) = some (IntKind.wrap .i64 ((vg bK dN sym 0).1 + ((rd (aQ s) p 0 (vg bK dN sym 0).2).1 : Int)), (rd (aQ s) p 0 (vg bK dN sym 0).2).2.2, s, ((rd (aQ s) p 0 (vg bK dN sym 0).2).2.1 : Int), (rd (aQ s) p 0 (vg bK dN sym 0).2).2.2) := by
  simp only [FY, ae]
  rw [Vu sym h1, Option.bind_some, tV (by decide) s p 0 _ (by omega) hp, Option.bind_some]
  rfl
theorem GR {b l d : Int} (h : bu b l d = true) : (l = 0 ∧ d = 0 ∧ 0 ≤ b ∧ b ≤ 255) ∨ (l ≠ 0 ∧ b = 0 ∧ 3 ≤ l ∧ l ≤ 258 ∧ 1 ≤ d ∧ d ≤ 32768) := by
  unfold bu inT at h
  by_cases hl : l = 0
  · rw [if_pos hl] at h
    simp only [Bool.and_eq_true, decide_eq_true_eq] at h
    exact .inl ⟨hl, h.1, h.2⟩
  · rw [if_neg hl] at h
    simp only [Bool.and_eq_true, decide_eq_true_eq] at h
    exact .inr ⟨hl, h.1, h.2.1.1, h.2.1.2, h.2.2⟩
theorem Ng {A B : List Int} (hA : (chk A).2 = 0) (hB : (chk B).2 = 0) (h256 : cT (af A) 256 = true) (most : Int) (hm0 : most ≤ 2000000000) (s : ByteArray) (hs : s.size ≤ 1000000) : ∀ (l out : List Tok) (n p f : Nat), l.length < f → out.length + l.length ≤ 20000 →
    (∀ t ∈ l, bu t.1 t.2.1 t.2.2.1 = true) → (∀ t ∈ l, ll (af A) (af B) t = true) → ((n + made l : Nat) : Int) ≤ most → At (aQ s) p (l.flatMap (bU (af A) (af B)) ++ ag (at_ (af A) 256)) →
    en 200000 f (most, (n : Int), s, (p : Int), 0, out, dJ A, ((cr A 15 : Nat) : Int), dJ B, ((cr B 15 : Nat) : Int), aF A 15, aF B 15) =
      some (0, s, ((p + ((l.flatMap (bU (af A) (af B))).length + (ag (at_ (af A) 256)).length) : Nat) : Int), 0, out ++ l) := by
  have hal := aJ s
  intro l
  induction l with
  | nil =>
    intro out n p f hf _ _ _ _ hat
    cases f with
    | zero => cases hf
    | succ f =>
      simp only [List.flatMap_nil, List.nil_append, List.length_nil, Nat.zero_add, List.append_nil] at hat ⊢
      simp only [en, nX, ae]
      rw [jH hA h256 s hs _ hat, Option.bind_some]
      simp only
      rw [if_neg (by decide), if_pos (by decide)]
  | cons t l ih =>
    intro out n p f hf ho hv hk hm hat
    cases f with
    | zero => cases hf
    | succ f =>
      rw [List.length_cons] at hf ho
      have hvt := hv t (List.mem_cons_self ..)
      have hok := hk t (List.mem_cons_self ..)
      have hmade : made (t :: l) = bX t + made l := by unfold made; rw [List.map_cons, List.sum_cons]
      rw [hmade] at hm
      obtain ⟨q1, q2⟩ := jL hvt
      have hflat : (t :: l).flatMap (bU (af A) (af B)) = bU (af A) (af B) t ++ l.flatMap (bU (af A) (af B)) := List.flatMap_cons
      rw [hflat] at hat ⊢
      rw [List.append_assoc] at hat
      have ha := hat.left
      have ihf := ih (out ++ [t]) (n + bX t) (p + (bU (af A) (af B) t).length) f (by omega) (by rw [List.length_append, List.length_singleton]; omega) (fun u hu => hv u (List.mem_cons_of_mem _ hu)) (fun u hu => hk u (List.mem_cons_of_mem _ hu)) (by omega) hat.right
      rw [List.append_assoc, List.singleton_append] at ihf
      rw [List.length_append, Nat.add_assoc, ← Nat.add_assoc p]
      generalize (l.flatMap (bU (af A) (af B))).length + (ag (at_ (af A) 256)).length = Z at *
      simp only [en, nX, ae]
      have c7 : decide ((out.length + 1) * 24 ≤ 140737488355328 ∧ out.length + 1 ≤ 140737488355328) = true := by simp only [decide_eq_true_eq]; omega
      obtain ⟨b, L, D, u⟩ := t
      cases u
      unfold ll at hok
      simp only [Bool.and_eq_true, Bool.or_eq_true, decide_eq_true_eq] at hok
      obtain ⟨ok1, ok2⟩ := hok
      rcases GR hvt with ⟨e1, e2, e3, e4⟩ | ⟨e1, e2, e3, e4, e5, e6⟩
      · have e1 : L = 0 := e1
        have e2 : D = 0 := e2
        have e3 : 0 ≤ b := e3
        have e4 : b ≤ 255 := e4
        subst e1; subst e2
        have eS : dx (b, 0, 0, ()) = b.toNat := rfl
        have et : bU (af A) (af B) (b, 0, 0, ()) = ag (at_ (af A) b.toNat) := by unfold bU; rw [if_pos rfl, eS]
        have hmt : bX (b, 0, 0, ()) = 1 := rfl
        rw [eS] at ok1
        rw [et] at ha ihf ⊢
        rw [hmt] at ihf hm
        rw [jH hA ok1 s hs _ ha, Option.bind_some]
        have eb : ((b.toNat : Nat) : Int) = b := by omega
        have w : IntKind.wrap .i64 ((n : Int) + 1) = ((n + 1 : Nat) : Int) := by rw [wrap_i64 (by omega) (by omega)]; omega
        simp only [eb]
        rw [w, if_neg (by decide), if_neg (by simp only [beq_iff_eq]; omega), aY (by omega), aY (by omega)]
        simp only [List.length_singleton, c7, if_true]
        rw [ihf]
        rfl
      · have e1 : L ≠ 0 := e1
        have e2 : b = 0 := e2
        subst e2
        have e3 : 3 ≤ L := e3
        have e4 : L ≤ 258 := e4
        have e5 : 1 ≤ D := e5
        have e6 : D ≤ 32768 := e6
        obtain ⟨j, hj, ej, lj⟩ := jM e3 e4
        obtain ⟨k, hk, ek, lk⟩ := jT e5 e6
        have eS : dx (0, L, D, ()) = 257 + j := by unfold dx; rw [if_neg e1]; simp only [ej]; omega
        have eD : (ck D).1.toNat = k := by rw [ek]; simp only; omega
        have ok2' : cT (af B) k = true := by rw [← eD]; exact ok2.resolve_left e1
        have et : bU (af A) (af B) (0, L, D, ()) = ag (at_ (af A) (257 + j)) ++ (an (dM.getD j 0) (L - bJ.getD j 0) ++ (ag (at_ (af B) k) ++ an (dN.getD k 0) (D - bK.getD k 0))) := by
          unfold bU; rw [if_neg e1, eS]; simp only [ej, eD]; simp only [ek]; simp only [List.append_assoc]
        have hmt : bX (0, L, D, ()) = L.toNat := by unfold bX; rw [if_neg e1]
        rw [eS] at ok1
        rw [hmt] at ihf hm
        rw [et] at ha ihf ⊢
        have ha1 := ha.left
        have ha2 := ha.right.left
        have ha3 := ha.right.right.left
        have ha4 := ha.right.right.right
        have l1 := ha1.le
        have l2 := ha2.le
        have l3 := ha3.le
        have l4 := ha4.le
        obtain ⟨x1, x2⟩ := TH e3 e4 hj lj
        obtain ⟨y1, y2⟩ := TN e5 e6 hk lk
        have hb1 := Bc j hj
        have hb2 := Bo k hk
        rw [jH hA ok1 s hs _ ha1, Option.bind_some]
        have eb : ((257 + j : Nat) : Int) = 257 + (j : Int) := by omega
        simp only [eb]
        rw [if_neg (by decide), if_neg (by simp only [beq_iff_eq]; omega), bd (by omega)]
        simp only [Vq, ae]
        rw [aY (by omega), MY s hs _ (by omega) _ (by omega), Tx hj, Option.bind_some]
        simp only
        rw [Pf ha2 x1 x2]
        simp only
        rw [if_neg (by decide), jH hB ok2' s hs _ ha3, Option.bind_some]
        simp only
        rw [if_neg (by decide), aY (by omega), MX s hs _ (by omega) _ (by omega), show ((k : Nat) : Int) = 0 + (k : Int) by omega, Tz hk, Option.bind_some]
        simp only
        rw [Pf ha4 y1 y2]
        simp only [Option.bind_some]
        have w1 : IntKind.wrap .i64 (bJ.getD j 0 + (((L - bJ.getD j 0).toNat : Nat) : Int)) = L := by rw [Int.toNat_of_nonneg x1, wrap_i64 (by omega) (by omega)]; omega
        have w2 : IntKind.wrap .i64 (bK.getD k 0 + (((D - bK.getD k 0).toNat : Nat) : Int)) = D := by rw [Int.toNat_of_nonneg y1, wrap_i64 (by omega) (by omega)]; omega
        rw [w1, w2]
        have w3 : (if (1 : Int) > L then (1 : Int) else L) = L := if_neg (by omega)
        have w4 : IntKind.wrap .i64 ((n : Int) + L) = ((n + L.toNat : Nat) : Int) := by rw [wrap_i64 (by omega) (by omega)]; omega
        rw [w3, w4]
        rw [if_neg (by decide), aY (by omega)]
        simp only [List.length_singleton, c7, if_true]
        simp only [List.length_append, ← Nat.add_assoc] at ihf ⊢
        rw [ihf]
        rfl
set_option maxRecDepth 100000
theorem di {s : ByteArray} (hs : s.size ≤ 1000000) {p : Nat} {n v : Int} (hA : At (aQ s) p (an n v)) (h0 : 0 ≤ v) (h1 : v < 2 ^ am n) :
    iA 200000 (n, s, (p : Int), 0) = some (v, s, ((p + am n : Nat) : Int), 0) := by
  have hle := hA.le
  rw [aJ] at hle
  rw [tV (by decide) s p 0 n (by omega) (by omega), Pf hA h0 h1, al, Int.toNat_of_nonneg h0]
theorem Hi (lens : List Int) {i n : Nat} (hi : i < n) (hn : n ≤ 19) : ∃ q, dl lens n = dl lens i ++ (an 3 (lens.getD (cf.getD i 0).toNat 0) ++ q) := by
  refine ⟨((cf.take n).drop (i + 1)).flatMap fun a => an 3 (lens.getD a.toNat 0), ?_⟩
  have e1 := nx lens (show i < cf.length by rw [fj]; omega)
  rw [← List.append_assoc, ← e1]
  unfold dl
  rw [← List.flatMap_append]
  congr 1
  have : cf.take (i + 1) = (cf.take n).take (i + 1) := by rw [List.take_take, show min (i + 1) n = i + 1 by omega]
  rw [this, List.take_append_drop]
theorem M6 (lens : List Int) (hl : lens.length = 19) (hb : ∀ j, j < 19 → 0 ≤ lens.getD j 0 ∧ lens.getD j 0 ≤ 7) (s : ByteArray) (hs : s.size ≤ 1000000) (n : Nat) (hn : n ≤ 19) (p : Nat) (hA : At (aQ s) p (dl lens n)) : ∀ (d i f : Nat), i + d = n → d < f →
    iZ 200000 f ((i : Int), (n : Int), n, s, ((p + 3 * i : Nat) : Int), 0, cf, jB lens i) = some (s, ((p + 3 * n : Nat) : Int), 0, jB lens n) := by
  intro d
  induction d with
  | zero =>
    intro i f hi hf
    cases f with
    | zero => omega
    | succ f =>
      simp only [iZ, uh, ae]
      rw [aY (by omega), show i = n by omega]
  | succ d ih =>
    intro i f hi hf
    cases f with
    | zero => omega
    | succ f =>
      have w : IntKind.wrap .i64 ((i : Int) + 1) = ((i + 1 : Nat) : Int) := by rw [wrap_i64 (by omega) (by omega)]; omega
      obtain ⟨o1, o2⟩ := A3 i (by omega)
      have hn19 : i < cf.length := by rw [fj]; omega
      obtain ⟨k, hk⟩ := Int.eq_ofNat_of_zero_le o1
      have hk19 : k < 19 := by omega
      obtain ⟨b1, b2⟩ := hb k hk19
      obtain ⟨q, hq⟩ := Hi lens (show i < n by omega) hn
      rw [hq] at hA
      have h2 := hA.right.left
      rw [fG lens i (by omega), hk, Int.toNat_natCast] at h2
      have hset := zP lens (by omega) hk hk19
      have hol := q9 lens i
      have hI := ih (i + 1) f (by omega) (by omega)
      rw [show p + 3 * (i + 1) = p + 3 * i + 3 by omega] at hI
      simp only [iZ, uh, ae]
      rw [bd (by omega), if_pos (au (by omega)), Int.toNat_natCast, Nat.zero_add, bp hn19, Option.bind_some, hk, di hs h2 b1 (by show _ < (2 : Int) ^ 3; omega), Option.bind_some, if_pos (au (by omega)), Int.toNat_natCast, bp (by omega), Option.bind_some, w, hset, show am 3 = 3 from rfl, hI]
      rfl
theorem Nf (N : Nat) : DD N 0 = some 0 := rfl
theorem I4 (lens : List Int) (hl : lens.length = 19) (hc : (chk lens).2 = 0) (hb : ∀ j, j < 19 → 0 ≤ lens.getD j 0 ∧ lens.getD j 0 ≤ 7) (s : ByteArray) (hs : s.size ≤ 1000000) (p : Nat) (hA : At (aQ s) p (dl lens (iE lens 19))) :
    Sn 200000 ((iE lens 19 : Nat), s, (p : Int), 0) = some (.inr (0, s, ((p + 3 * iE lens 19 : Nat) : Int), 0, dJ lens, ((cr lens 15 : Nat) : Int), aF lens 15)) := by
  have hn := nv lens 19
  have h := M6 lens hl hb s hs (iE lens 19) hn p hA (iE lens 19) 0 200000 (by omega) (by omega)
  rw [vb, zQ hl, Nat.mul_zero, Nat.add_zero, show ((0 : Nat) : Int) = 0 from rfl] at h
  simp only [Sn, ae]
  rw [Ao, Option.bind_some, if_pos (by rw [decide_eq_true_eq, fj]; omega), Int.toNat_natCast, Nat.sub_zero, h, Option.bind_some]
  simp only [gH, Option.bind_some]
  rw [if_neg (by decide), yf (by decide), hc, if_pos rfl, Option.bind_some]
  simp only
  rw [Nf, Option.bind_some]
theorem I3 {Lf : List Int} (hl : Lf.length ≤ 320) (hok : okB Lf = true) {i : Nat} (hi : i < Lf.length) {sy : wn} {c : Nat} (m : Means Lf i sy c) (hc : i + c ≤ Lf.length) (s : ByteArray) (hs : s.size ≤ 1000000) (p : Nat) (hA : At (aQ s) p (an sy.2.1 sy.2.2.1)) :
    ∃ v, Ge 200000 (sy.1, Lf.take i, s, (p : Int), 0) = some (v, (c : Int), 0, s, ((p + am sy.2.1 : Nat) : Int), 0) ∧ Lf.take (i + c) = Lf.take i ++ List.replicate c v := by
  have htl : (Lf.take i).length = i := by rw [List.length_take]; omega
  cases m with
  | one h3 =>
    obtain ⟨g1, g2⟩ := tE hok hi
    refine ⟨Lf.getD i 0, ?_, h3⟩
    simp only [Ge, gH, ae, Option.bind_some]
    rw [if_neg (by simp only [beq_iff_eq]; omega), if_neg (by simp only [beq_iff_eq]; omega), if_neg (by simp only [beq_iff_eq]; omega)]
    rfl
  | again c h0 k1 k2 h3 =>
    obtain ⟨t1, t2⟩ := zi h0 (show i ≤ Lf.length by omega)
    refine ⟨Lf.getD (i - 1) 0, ?_, h3⟩
    have w5 : IntKind.wrap .i64 ((i : Int) - 1) = ((i - 1 : Nat) : Int) := by rw [wrap_i64 (by omega) (by omega)]; omega
    have w6 : IntKind.wrap .i64 ((3 : Int) + ((c : Int) - 3)) = (c : Int) := by rw [wrap_i64 (by omega) (by omega)]; omega
    simp only at hA
    simp only [Ge, gH, ae, Option.bind_some]
    rw [if_pos (by rfl), htl, if_neg (by simp only [beq_iff_eq]; omega), w5, if_pos (au (by omega)), Int.toNat_natCast, t2, Option.bind_some, di hs hA (by omega) (by show _ < (2 : Int) ^ 2; omega), Option.bind_some, w6]
  | few c k1 k2 h3 =>
    refine ⟨0, ?_, h3⟩
    have w6 : IntKind.wrap .i64 ((3 : Int) + ((c : Int) - 3)) = (c : Int) := by rw [wrap_i64 (by omega) (by omega)]; omega
    simp only at hA
    simp only [Ge, gH, ae, Option.bind_some]
    rw [if_neg (by decide), if_pos (by rfl), di hs hA (by omega) (by show _ < (2 : Int) ^ 3; omega), Option.bind_some, w6]
  | zeros c k1 k2 h3 =>
    refine ⟨0, ?_, h3⟩
    have w6 : IntKind.wrap .i64 ((11 : Int) + ((c : Int) - 11)) = (c : Int) := by rw [wrap_i64 (by omega) (by omega)]; omega
    simp only at hA
    simp only [Ge, gH, ae, Option.bind_some]
    rw [if_neg (by decide), if_neg (by decide), if_pos (by rfl), di hs hA (by omega) (by show _ < (2 : Int) ^ 7; omega), Option.bind_some, w6]
theorem Nh (N : Nat) (c : Nat) (hc : c ≤ 138) (X1 X2 v lg : Int) (s : ByteArray) (p e : Int) (l : List Int) (hl : l.length ≤ 400) (C Y : List Int) : ∀ (d i f : Nat), i + d = c → d < f →
    ce N f ((i : Int), (c : Int), X1, X2, v, s, p, e, l ++ List.replicate i v, C, lg, Y) = some (X2, X1, s, p, e, C, lg, l ++ List.replicate c v, Y) := by
  intro d
  induction d with
  | zero =>
    intro i f hi hf
    cases f with
    | zero => omega
    | succ f =>
      simp only [ce, jf, ae]
      rw [aY (by omega), show i = c by omega]
  | succ d ih =>
    intro i f hi hf
    cases f with
    | zero => omega
    | succ f =>
      have w : IntKind.wrap .i64 ((i : Int) + 1) = ((i + 1 : Nat) : Int) := by rw [wrap_i64 (by omega) (by omega)]; omega
      simp only [ce, jf, ae]
      rw [bd (by omega), if_pos (by rw [decide_eq_true_eq, List.length_append, List.length_replicate, List.length_singleton]; omega), w, List.append_assoc, ← List.replicate_succ', ih (i + 1) f (by omega) (by omega)]
      rfl
theorem Ni {lens : List Int} (hl : lens.length = 19) (hc : (chk lens).2 = 0) (Lf : List Int) (hLf : Lf.length ≤ 320) (hok : okB Lf = true) (A B : Nat) (hAB : A + B = Lf.length) (s : ByteArray) (hs : s.size ≤ 1000000) : ∀ (d i p f : Nat), Lf.length ≤ i + d → i ≤ Lf.length → d < f →
    (∀ s ∈ bg Lf d i, 0 < lens.getD s.1.toNat 0) → At (aQ s) p (km lens (bg Lf d i)) →
    dF 200000 f ((A : Int), (B : Int), s, (p : Int), 0, dJ lens, ((cr lens 15 : Nat) : Int), Lf.take i, aF lens 15) = some (.inr ((A : Int), s, ((p + (km lens (bg Lf d i)).length : Nat) : Int), 0, Lf)) := by
  have w2 : IntKind.wrap .i64 ((A : Int) + (B : Int)) = ((A + B : Nat) : Int) := by rw [wrap_i64 (by omega) (by omega)]; omega
  have done : ∀ (i : Nat) (p : Int) (f : Nat), ¬ i < Lf.length → i ≤ Lf.length → dF 200000 (f + 1) ((A : Int), (B : Int), s, p, 0, dJ lens, ((cr lens 15 : Nat) : Int), Lf.take i, aF lens 15) = some (.inr ((A : Int), s, p, 0, Lf)) := by
    intro i p f h1 h2
    simp only [dF, nY, ae]
    rw [w2, if_neg (by rw [List.length_take]; simp only [decide_eq_true_eq]; omega), List.take_of_length_le (by omega)]
  intro d
  induction d with
  | zero =>
    intro i p f h1 h2 hf hp hA
    cases f with
    | zero => omega
    | succ f =>
      have e : km lens (bg Lf 0 i) = [] := rfl
      rw [e, List.length_nil, Nat.add_zero]
      exact done i _ f (by omega) h2
  | succ d ih =>
    intro i p f h1 h2 hf hp hA
    cases f with
    | zero => omega
    | succ f =>
      by_cases hil : i < Lf.length
      · have ep : bg Lf (d + 1) i = (j8 Lf i).1 :: bg Lf d (i + (j8 Lf i).2) := by rw [bg, if_pos hil]
        have es : km lens (bg Lf (d + 1) i) = sB lens (j8 Lf i).1 ++ km lens (bg Lf d (i + (j8 Lf i).2)) := by rw [ep]; unfold km; rw [List.flatMap_cons]
        obtain ⟨m1, m2, m3⟩ := pL hil
        have hI := fun p => ih (i + (j8 Lf i).2) p f (by omega) m3 (by omega) (fun s hs => hp s (by rw [ep]; exact List.mem_cons_of_mem _ hs))
        have hpos := hp (j8 Lf i).1 (by rw [ep]; exact List.mem_cons_self ..)
        rw [es] at hA ⊢
        obtain ⟨o1, o2, o3, o4, o5, o6⟩ := vo hok hil m1
        generalize hsy : (j8 Lf i).1 = sy at *
        generalize hcc : (j8 Lf i).2 = c at *
        have htl : (Lf.take i).length = i := by rw [List.length_take]; omega
        have hj : sy.1.toNat < lens.length := by omega
        have hh := pY hj hpos
        obtain ⟨_, _, hat⟩ := l5 hh (bo hc).2
        have a1 := hA.left.left
        have a2 := hA.left.right
        have a3 := hA.right
        rw [← hat] at a1
        have hn := jH hc hh s hs p a1
        obtain ⟨v, hr, ht⟩ := I3 hLf hok hil m1 m3 s hs _ a2
        rw [hat, Int.toNat_of_nonneg o1] at hn
        have hlenS : (sB lens sy).length = (ag (ap lens sy.1.toNat)).length + am sy.2.1 := by unfold sB; rw [List.length_append, al]
        have hI := hI _ a3
        have w3 : IntKind.wrap .i64 ((i : Int) + (c : Int)) = ((i + c : Nat) : Int) := by rw [wrap_i64 (by omega) (by omega)]; omega
        have hcm : c ≤ 138 := by
          cases m1 <;> omega
        have hrep := Nh 200000 c hcm (B : Int) (A : Int) v ((cr lens 15 : Nat) : Int) s ((p + (ag (ap lens sy.1.toNat)).length + am sy.2.1 : Nat) : Int) 0 (Lf.take i) (by omega) (dJ lens) (aF lens 15) c 0 200000 (by omega) (by omega)
        rw [List.replicate_zero, List.append_nil, ← ht, show ((0 : Nat) : Int) = 0 from rfl] at hrep
        rw [hlenS, ← Nat.add_assoc] at hI
        rw [List.length_append, hlenS, ← Nat.add_assoc, ← Nat.add_assoc]
        simp only [dF, nY, ae]
        rw [w2, if_pos (by rw [htl]; simp only [decide_eq_true_eq]; omega), hn, Option.bind_some]
        simp only
        rw [if_neg (by decide), hr, Option.bind_some]
        simp only
        rw [if_neg (by decide), htl, w3, aY (by omega), hrep, Option.bind_some]
        simp only
        rw [hI]
        rfl
      · have ep : bg Lf (d + 1) i = [] := by rw [bg, if_neg hil]
        have e : km lens (bg Lf (d + 1) i) = [] := by rw [ep]; rfl
        rw [e, List.length_nil, Nat.add_zero]
        exact done i _ f hil h2
theorem Gg {lits dists : List Int} (h : HdOk lits dists) (s : ByteArray) (hs : s.size ≤ 1000000) (p : Nat) (hA : At (aQ s) p (l0 lits dists)) :
    Sv 200000 (s, (p : Int), 0) = some (.inr (lits.length, lits.length, dists.length, 0, s, ((p + (l0 lits dists).length : Nat) : Int), 0, lits ++ dists)) := by
  obtain ⟨k1, k2, k3, k4⟩ := tL h
  obtain ⟨h1, h2, h3, h4, h5, h6⟩ := h
  have hn1 : fp lits dists ≤ 19 := nv _ 19
  have hn2 : 4 ≤ fp lits dists := tC _ 19 (by decide)
  have e : (lits ++ dists).length = lits.length + dists.length := List.length_append
  have hok : okB (lits ++ dists) = true := by rw [kz, h5, h6]; rfl
  have c5 : am 5 = 5 := rfl
  have c4 : am 4 = 4 := rfl
  have hob := fG (gi lits dists) (fp lits dists) hn1
  have hlen : (l0 lits dists).length = 5 + (5 + (4 + (3 * fp lits dists + (km (gi lits dists) (nB lits dists)).length))) := by
    unfold l0
    simp only [List.length_append, al, hob, c5, c4]
  rw [hlen]
  have a1 := hA.left
  have a2 := hA.right.left
  have a3 := hA.right.right.left
  have a4 := hA.right.right.right.left
  have a5 := hA.right.right.right.right
  simp only [al, c5, c4, hob] at a2 a3 a4 a5
  have r1 := di hs a1 (by omega) (by show _ < (2 : Int) ^ 5; omega)
  have r2 := di hs a2 (by omega) (by show _ < (2 : Int) ^ 5; omega)
  have r3 := di hs a3 (by omega) (by show _ < (2 : Int) ^ 4; omega)
  have r4 := I4 (gi lits dists) k2.len k2.chk k2.bnd s hs _ a4
  have r5 := Ni k2.len k2.chk (lits ++ dists) (by omega) hok lits.length dists.length (by omega) s hs (lits ++ dists).length 0 _ 200000 (by omega) (by omega) (by omega) k2.pos a5
  rw [show iE (gi lits dists) 19 = fp lits dists from rfl] at r4
  rw [c5] at r1 r2
  rw [c4] at r3
  rw [List.take_zero, show bg (lits ++ dists) (lits ++ dists).length 0 = nB lits dists from rfl] at r5
  have w1 : IntKind.wrap .i64 (((lits.length - 257 : Nat) : Int) + 257) = (lits.length : Int) := by rw [wrap_i64 (by omega) (by omega)]; omega
  have w2 : IntKind.wrap .i64 (((dists.length - 1 : Nat) : Int) + 1) = (dists.length : Int) := by rw [wrap_i64 (by omega) (by omega)]; omega
  have w3 : IntKind.wrap .i64 (((fp lits dists - 4 : Nat) : Int) + 4) = (fp lits dists : Int) := by rw [wrap_i64 (by omega) (by omega)]; omega
  simp only [← Nat.add_assoc] at r5 ⊢
  simp only [Sv, gH, ae]
  rw [r1, Option.bind_some]
  simp only
  rw [r2, Option.bind_some]
  simp only
  rw [r3, Option.bind_some]
  simp only [Option.bind_some]
  rw [if_neg (by decide), w1, aY (by omega), w2, aY (by omega), w3, r4, Option.bind_some]
  simp only
  rw [if_neg (by decide), r5, Option.bind_some]
  simp only
  rw [if_pos (by rw [e]; simp only [decide_eq_true_eq]; omega), if_pos (by rw [e]; simp only [decide_eq_true_eq]; omega), Int.toNat_natCast, e, show lits.length + dists.length - lits.length = dists.length by omega]
set_option maxRecDepth 100000
theorem Nc (N : Nat) (x1 n : Int) (l : List Tok) (i : Int) {b Ln D : Int} (hD : 1 ≤ D) (hD2 : D ≤ 32768) (hL0 : 0 ≤ Ln) (hL : Ln ≤ 258) : ∀ (d k f : Nat) (o : List Int), k + d = Ln.toNat → d < f → D ≤ (o.length : Int) → o.length + d ≤ 10000000 →
    bI N f ((k : Int), Ln, l, x1, n, i, o, b, Ln, D) = some (i, n, x1, l, lq D.toNat d o) := by
  intro d
  induction d with
  | zero =>
    intro k f o hk hf ho ho2
    cases f with
    | zero => omega
    | succ f =>
      simp only [bI, iD, ae]
      rw [aY (by omega)]
      rfl
  | succ d ih =>
    intro k f o hk hf ho ho2
    cases f with
    | zero => omega
    | succ f =>
      have w : IntKind.wrap .i64 ((k : Int) + 1) = ((k + 1 : Nat) : Int) := by rw [wrap_i64 (by omega) (by omega)]; omega
      have w2 : IntKind.wrap .i64 ((o.length : Int) - D) = ((o.length - D.toNat : Nat) : Int) := by rw [wrap_i64 (by omega) (by omega)]; omega
      simp only [bI, iD, ae]
      rw [bd (by omega), w2, if_pos (au (by omega)), Int.toNat_natCast, bp (by omega), Option.bind_some, if_pos (by rw [decide_eq_true_eq, List.length_singleton]; omega), w, ih (k + 1) f _ (by omega) (by omega) (by rw [List.length_append, List.length_singleton]; omega) (by rw [List.length_append, List.length_singleton]; omega)]
      rfl
theorem Nb (x0 : Int) (l : List Tok) (hl : l.length ≤ 20000) (hv : aE l = true) : ∀ (d i f : Nat) (o : List Int), i + d = l.length → d < f → o.length + made (l.drop i) ≤ 9000000 →
    fU 200000 f ((i : Int), (l.length : Int), x0, l, o) = some (match jl o (l.drop i) with | some p => .inr (x0, p) | none => .inl (ByteArray.mk #[], 60)) := by
  intro d
  induction d with
  | zero =>
    intro i f o hi hf ho
    cases f with
    | zero => omega
    | succ f =>
      simp only [fU, qJ, ae]
      rw [aY (by omega), List.drop_eq_nil_of_le (by omega)]
      rfl
  | succ d ih =>
    intro i f o hi hf ho
    cases f with
    | zero => omega
    | succ f =>
      have hil : i < l.length := by omega
      have hd : l.drop i = l[i] :: l.drop (i + 1) := List.drop_eq_getElem_cons hil
      have hva := eu hv hil
      rw [hd, nA] at ho
      have hw : IntKind.wrap .i64 ((i : Int) + 1) = ((i + 1 : Nat) : Int) := by rw [wrap_i64 (by omega) (by omega)]; omega
      have hli : l[i]? = some l[i] := List.getElem?_eq_getElem hil
      obtain ⟨mm1, mm2⟩ := jL hva
      simp only [fU, qJ, ae]
      rw [hd]
      rw [bd (by omega), if_pos (au hil), Int.toNat_natCast, hli, Option.bind_some, nP, Option.bind_some, hva, if_neg (by decide)]
      unfold jl
      generalize hte : l[i] = t at *
      obtain ⟨b, Ln, D, u⟩ := t
      rcases bN hva with ⟨e1, e3, e4⟩ | ⟨e1, e3, e4, e5, e6⟩
      · have e1 : Ln = 0 := e1
        have e3 : 0 ≤ b := e3
        have e4 : b ≤ 255 := e4
        subst e1
        have hm1 : bX (b, 0, D, u) = 1 := rfl
        have hx : fL o (b, 0, D, u) = some (o ++ [b]) := by unfold fL; rw [if_pos rfl]
        rw [hm1] at ho
        have hn' : ∀ (f : Nat) (o' : List Int), bI 200000 (f + 1) (0, 0, l, x0, (l.length : Int), (i : Int), o', b, 0, D) = some ((i : Int), (l.length : Int), x0, l, o') := by
          intro f o'
          simp only [bI, iD, ae]
          rw [if_neg (by decide)]
        have hn := hn' 199999
        simp only
        rw [if_pos (by rfl), uo e3 e4, if_pos (by rw [decide_eq_true_eq, List.length_singleton]; omega), hn, hx, Option.bind_some]
        simp only
        rw [hw, ih (i + 1) f (o ++ [b]) (by omega) (by omega) (by rw [List.length_append, List.length_singleton]; omega), Option.bind_some]
        cases jl (o ++ [b]) (l.drop (i + 1)) <;> rfl
      · have e1 : Ln ≠ 0 := e1
        have e3 : 3 ≤ Ln := e3
        have e4 : Ln ≤ 258 := e4
        have e5 : 1 ≤ D := e5
        have e6 : D ≤ 32768 := e6
        have hm1 : bX (b, Ln, D, u) = Ln.toNat := by unfold bX; rw [if_neg e1]
        rw [hm1] at ho
        simp only
        rw [if_neg (by simpa using e1)]
        by_cases hD : (o.length : Int) < D
        · have hx : fL o (b, Ln, D, u) = none := by unfold fL; rw [if_neg e1, if_pos hD]
          rw [if_pos (by simpa using hD), hx]
        · have hx : fL o (b, Ln, D, u) = some (lq D.toNat Ln.toNat o) := by unfold fL; rw [if_neg e1, if_neg hD]
          have hc := Nc 200000 x0 (l.length : Int) l (i : Int) (b := b) e5 e6 (by omega) e4 Ln.toNat 0 200000 o (by omega) (by omega) (by omega) (by omega)
          rw [show ((0 : Nat) : Int) = 0 from rfl] at hc
          rw [if_neg (by simpa using hD), hc, Option.bind_some, hx]
          simp only
          rw [hw, ih (i + 1) f _ (by omega) (by omega) (by rw [nG]; omega), Option.bind_some]
          cases jl (lq D.toNat Ln.toNat o) (l.drop (i + 1)) <;> rfl
theorem Gf (w : ByteArray) (hw : w.size ≤ 1000000) (l : List Tok) (hl : l.length ≤ 20000) (hv : aE l = true) (hm : made l ≤ 8000000) : I7 200000 (w, l) = some (oH w l) := by
  have hs := hZ w
  have hb := dp (aX w)
  have h := Nb ((bytesOf (aX w)).length : Int) l hl hv l.length 0 200000 (bytesOf (aX w)) (by omega) (by omega) (by rw [List.drop_zero]; omega)
  rw [show ((0 : Nat) : Int) = 0 from rfl, List.drop_zero] at h
  simp only [I7, ae]
  rw [mG _ w hw, Option.bind_some, if_pos (by rw [decide_eq_true_eq]; omega), h, Option.bind_some]
  unfold oH
  cases hx : jl (bytesOf (aX w)) l with
  | none => rfl
  | some p =>
    have hlen := vL hx
    simp only
    rw [bd (by omega), Int.toNat_natCast, List.take_of_length_le (by rw [List.length_drop]; omega), hb]
theorem Av {A B : List Int} (hA : (chk A).2 = 0) (hB : (chk B).2 = 0) (l : List Tok) (hl : l.length ≤ 10000) (hv : aE l = true) (ho : ir (af A) (af B) l = true) (most : Int) (hm : (made l : Int) ≤ most) (hm0 : most ≤ 2000000000) (s : ByteArray) (hs : s.size ≤ 1000000) (p : Nat) (hat : At (aQ s) p (bV A B l).2) :
    I8 200000 (A, B, most, s, (p : Int), 0) = some (0, s, ((p + (bV A B l).2.length : Nat) : Int), 0, l) := by
  have hd : (bV A B l).2 = l.flatMap (bU (af A) (af B)) ++ ag (at_ (af A) 256) := by
    unfold bV
    rw [hv, ho, hA, hB]
    simp only [Bool.not_true, bne_self_eq_false, Bool.or_self, cond_false, cond_true]
    unfold dq
    rw [List.take_length]
  unfold ir at ho
  rw [Bool.and_eq_true, List.all_eq_true] at ho
  have hv2 : ∀ t ∈ l, bu t.1 t.2.1 t.2.2.1 = true := by
    unfold aE at hv
    exact List.all_eq_true.1 hv
  rw [hd] at hat ⊢
  have h := Ng hA hB ho.1 most hm0 s hs l [] 0 p 200000 (by omega) (by simpa using (by omega : l.length ≤ 20000)) hv2 ho.2 (by omega) hat
  rw [List.nil_append, show ((0 : Nat) : Int) = 0 from rfl, ← List.length_append] at h
  simp only [I8, ae]
  rw [yf (by decide), yf (by decide), hA, hB, if_pos rfl, if_pos rfl, Option.bind_some]
  simp only
  rw [Option.bind_some]
  simp only
  rw [if_neg (by decide), if_neg (by decide), h, Option.bind_some]
theorem Ja {l : List Tok} (hl : l.length ≤ 10000) (hv : aE l = true) (own last : Bool) (w : ByteArray) (hw : w.size ≤ 1000000) (most : Int) (hm : (made l : Int) ≤ most) (hm0 : most ≤ 2000000000) (s : ByteArray) (hs : s.size ≤ 1000000) (p : Nat) (hat : At (aQ s) p (aR l own last)) :
    Jb 200000 ((if own = true then 2 else 1), w, most, s, ((p + 3 : Nat) : Int), 0) = some ((oH w l).1, (oH w l).2, s, ((p + (aR l own last).length : Nat) : Int), 0) := by
  have hmade := A9 hv
  have hE := Gf w hw l (by omega) hv (by omega)
  have h2 : ∀ k, (an 2 k).length = 2 := fun k => by rw [al]; rfl
  cases own with
  | false =>
    have hC : aR l false last = ([last] ++ an 2 1) ++ (bV jQ jR l).2 := by unfold aR; simp only [Bool.false_eq_true, if_false]
    rw [hC] at hat ⊢
    have a2 := hat.right
    rw [List.length_append, List.length_singleton, h2] at a2
    have r := Av vH vI l hl hv (Hs hv) most hm hm0 s hs (p + 3) a2
    have hlen : p + 3 + (bV jQ jR l).2.length = p + (([last] ++ an 2 1) ++ (bV jQ jR l).2).length := by simp only [List.length_append, List.length_singleton, h2]; omega
    rw [hlen] at r
    simp only [Jb, ae]
    rw [Dt, Option.bind_some, if_neg (by decide), r, Option.bind_some]
    simp only
    rw [if_neg (by decide), hE, Option.bind_some]
  | true =>
    obtain ⟨o1, o2, o3, o4, _⟩ := A0 hl hv
    have hC : aR l true last = ([last] ++ an 2 2) ++ (l0 (aC l) (az l) ++ (bV (aC l) (az l) l).2) := by unfold aR; simp only [if_true]
    rw [hC] at hat ⊢
    have a2 := hat.right.left
    have a3 := hat.right.right
    rw [List.length_append, List.length_singleton, h2] at a2 a3
    have r3 := Gg o1 s hs (p + 3) a2
    have r4 := Av o2 o3 l hl hv o4 most hm hm0 s hs _ a3
    have hlen : p + (1 + 2) + (l0 (aC l) (az l)).length + (bV (aC l) (az l) l).2.length = p + (([last] ++ an 2 2) ++ (l0 (aC l) (az l) ++ (bV (aC l) (az l) l).2)).length := by simp only [List.length_append, List.length_singleton, h2]; omega
    rw [hlen] at r4
    have ht1 : List.take (aC l).length (List.drop 0 (aC l ++ az l)) = aC l := List.take_left
    have ht2 : List.take (az l).length (List.drop (aC l).length (aC l ++ az l)) = az l := by rw [List.drop_left, List.take_length]
    simp only [Jb, ae]
    rw [Dt, Option.bind_some, if_pos (by rfl), r3, Option.bind_some]
    simp only
    rw [if_neg (by decide), ht1, ht2, r4, Option.bind_some]
    simp only
    rw [if_neg (by decide), hE, Option.bind_some]
set_option maxRecDepth 100000
theorem QG (s : ByteArray) (k n : Nat) (h : k + n ≤ s.size) : aQ (s.extract k (k + n)) = ((aQ s).drop (8 * k)).take (8 * n) := by
  have hs : s.data.toList.length = s.size := by simp
  have e : (s.extract k (k + n)).data.toList = (s.data.toList.drop k).take n := by
    rw [ByteArray.data_extract, Array.toList_extract, List.extract_eq_take_drop]
    congr 1
    omega
  unfold aQ
  rw [e]
  generalize s.data.toList = l at *
  have e1 : bitsOf l = bitsOf (l.take k) ++ bitsOf (l.drop k) := by rw [← fu, List.take_append_drop]
  have e2 : bitsOf (l.drop k) = bitsOf ((l.drop k).take n) ++ bitsOf ((l.drop k).drop n) := by rw [← fu, List.take_append_drop]
  rw [e1, List.drop_left' (by rw [dO, List.length_take]; omega), e2, List.take_left' (by rw [dO, List.length_take, List.length_drop]; omega)]
theorem bytes_at {s x : ByteArray} {k : Nat} (hA : At (aQ s) (8 * k) (aQ x)) : s.extract k (k + x.size) = x := by
  have hle := hA.le
  have ht := hA.take
  rw [aJ, aJ] at hle
  rw [aJ] at ht
  have e := QG s k x.size (by omega)
  rw [ht] at e
  rw [← pw (s.extract k (k + x.size)), e, pw]
theorem yg (N : Nat) (s : ByteArray) (p : Nat) (e : Int) (hp : p ≤ 100000000) : I5 N (s, (p : Int), e, ()) = some ((((8 - p % 8) % 8 : Nat)) : Int) := by
  simp only [I5]
  have e1 : Int.tmod (p : Int) 8 = ((p % 8 : Nat) : Int) := by rw [Int.tmod_eq_emod_of_nonneg (by omega)]; omega
  rw [e1, wrap_i64 (by omega) (by omega), Int.tmod_eq_emod_of_nonneg (by omega)]
  congr 1
  omega
theorem Sx (N : Nat) (n : Int) (s : ByteArray) (hs : s.size ≤ 1000000) (p : Nat) (h : (p : Int) + n ≤ ((8 * s.size : Nat) : Int)) (hp : p ≤ 8 * s.size) : yj N (n, s, (p : Int), 0) = some (true, s, (p : Int), 0) := by
  simp only [yj, ae]
  rw [if_pos (by decide), ql N s p 0 (by omega) hp, Option.bind_some, aY (by omega)]
  rfl
theorem Nj {s x : ByteArray} (hs : s.size ≤ 1000000) {k : Nat} (hA : At (aQ s) (8 * k) (aQ x)) : Sw 200000 ((x.size : Int), s, ((8 * k : Nat) : Int), 0) = some (x, s, ((8 * k + 8 * x.size : Nat) : Int), 0) := by
  have hb := bytes_at hA
  have hle := hA.le
  rw [aJ, aJ] at hle
  have m0 : (if (0 : Int) > (x.size : Int) then (0 : Int) else (x.size : Int)) = (x.size : Int) := if_neg (by omega)
  have w1 : IntKind.wrap .i64 ((8 : Int) * (x.size : Int)) = ((8 * x.size : Nat) : Int) := by rw [wrap_i64 (by omega) (by omega)]; omega
  have g : (8 - 8 * k % 8) % 8 = 0 := by omega
  have w2 : IntKind.wrap .i64 (((0 : Nat) : Int) + ((8 * x.size : Nat) : Int)) = ((8 * x.size : Nat) : Int) := by rw [wrap_i64 (by omega) (by omega)]; omega
  have w3 : IntKind.wrap .i64 (((8 * k : Nat) : Int) + ((0 : Nat) : Int)) = ((8 * k : Nat) : Int) := by rw [wrap_i64 (by omega) (by omega)]; omega
  have w4 : IntKind.wrap .i64 (Int.tdiv ((8 * k : Nat) : Int) 8) = (k : Int) := by rw [Int.tdiv_eq_ediv_of_nonneg (by omega), wrap_i64 (by omega) (by omega)]; omega
  have w5 : IntKind.wrap .i64 ((k : Int) + (x.size : Int)) = ((k + x.size : Nat) : Int) := by rw [wrap_i64 (by omega) (by omega)]; omega
  have w6 : IntKind.wrap .i64 ((8 : Int) * ((k + x.size : Nat) : Int)) = ((8 * k + 8 * x.size : Nat) : Int) := by rw [wrap_i64 (by omega) (by omega)]; omega
  simp only [Sw, ae]
  rw [m0, aY (by omega), yg _ s _ 0 (by omega), g, Option.bind_some, w1, w2, Sx _ _ s hs _ (by omega) (by omega), Option.bind_some]
  simp only
  rw [if_neg (by decide), yg _ s _ 0 (by omega), g, Option.bind_some, w3, w4, w5, bd (by omega), Int.toNat_natCast, bd (by omega), Int.toNat_natCast, hb, w6]
theorem Gm {s x : ByteArray} (hs : s.size ≤ 1000000) (hx : x.size ≤ 65535) (most : Int) (hm : (x.size : Int) ≤ most) (p : Nat)
    (hA : At (aQ s) p (List.replicate ((8 - p % 8) % 8) false ++ (an 16 (x.size : Int) ++ (an 16 ((65535 - x.size : Nat) : Int) ++ aQ x)))) :
    SG 200000 (most, s, (p : Int), 0) = some (x, 0, s, ((p + (8 - p % 8) % 8 + 32 + 8 * x.size : Nat) : Int), 0) := by
  have hle := hA.le
  simp only [List.length_append, List.length_replicate, al, aJ] at hle
  have c16 : am 16 = 16 := rfl
  rw [← zM ((8 - p % 8) % 8) (by omega)] at hA
  have cg : am (((8 - p % 8) % 8 : Nat) : Int) = (8 - p % 8) % 8 := HE (by omega)
  have a1 := hA.left
  have a2 := hA.right.left
  have a3 := hA.right.right.left
  have a4 := hA.right.right.right
  simp only [al, c16, cg] at a2 a3 a4
  have r1 := di hs a1 (by omega) (by exact_mod_cast Nat.pow_pos (by decide))
  have r2 := di hs a2 (by omega) (by show _ < (2 : Int) ^ 16; omega)
  have r3 := di hs a3 (by omega) (by show _ < (2 : Int) ^ 16; omega)
  rw [cg] at r1
  rw [c16] at r2 r3
  obtain ⟨k, hk⟩ : ∃ k, p + (8 - p % 8) % 8 + 16 + 16 = 8 * k := ⟨(p + (8 - p % 8) % 8 + 16 + 16) / 8, by omega⟩
  rw [hk] at a4 r3
  have r4 := Nj hs a4
  have hxx := um hx
  simp only [SG, Vt, gH, ae]
  rw [yg _ s _ 0 (by omega), Option.bind_some, r1, Option.bind_some, Option.bind_some]
  simp only
  rw [r2, Option.bind_some]
  simp only
  rw [r3, Option.bind_some]
  simp only [Option.bind_some]
  rw [if_neg (by decide), hxx, if_neg (by decide), aY (by omega), r4, Option.bind_some]
  simp only
  rw [← hk]
theorem pd {s x : ByteArray} (hs : s.size ≤ 1000000) (hx : x.size ≤ 65535) (last : Bool) (w : ByteArray) (most : Int) (hm : (x.size : Int) ≤ most) (a : List Bool) (hA : At (aQ s) a.length (aM a x last)) :
    SZ 200000 (w, most, s, (a.length : Int), 0) = some (x, last, 0, 0, s, ((a.length + (aM a x last).length : Nat) : Int), 0) := by
  have hTl := bY a x last
  have e : aM a x last = an 1 (if last = true then 1 else 0) ++ (an 2 0 ++ (List.replicate ((8 - (a.length + 3) % 8) % 8) false ++ (an 16 (x.size : Int) ++ (an 16 ((65535 - x.size : Nat) : Int) ++ aQ x)))) := by
    rw [FF]
    unfold aM bz
    rw [List.length_append]
    rfl
  have hp : bz (a ++ [last, false, false]) = (8 - (a.length + 3) % 8) % 8 := by unfold bz; rw [List.length_append]; rfl
  rw [hTl, hp]
  rw [e] at hA
  have c1 : am 1 = 1 := rfl
  have c2 : am 2 = 2 := rfl
  have a1 := hA.left
  have a2 := hA.right.left
  have a3 := hA.right.right
  simp only [al, c1, c2] at a2 a3
  have r1 := di hs a1 (by split <;> decide) (by split <;> decide)
  have r2 := di hs a2 (by decide) (by decide)
  have r3 := Gm hs hx most hm _ a3
  rw [c1] at r1
  rw [c2] at r2
  have hlast : ((if last = true then (1 : Int) else 0) == 1) = last := by cases last <;> rfl
  simp only [SZ, gH, ae]
  rw [r1, Option.bind_some]
  simp only
  rw [r2, Option.bind_some]
  simp only [Option.bind_some]
  rw [if_neg (by decide), if_pos (by decide), r3, Option.bind_some]
  simp only
  rw [if_neg (by decide), hlast, show a.length + 1 + 2 + (8 - (a.length + 1 + 2) % 8) % 8 + 32 + 8 * x.size = a.length + (35 + (8 - (a.length + 3) % 8) % 8 + 8 * x.size) by omega]
theorem MG {l : List Tok} (hl : l.length ≤ 10000) (hv : aE l = true) (own last : Bool) (w : ByteArray) (hw : w.size ≤ 1000000) (most : Int) (hm : (made l : Int) ≤ most) (hm0 : most ≤ 2000000000) (s : ByteArray) (hs : s.size ≤ 1000000) (p : Nat) (hat : At (aQ s) p (aR l own last)) {x : ByteArray} (hx : oH w l = (x, 0)) :
    SZ 200000 (w, most, s, (p : Int), 0) = some (x, last, (if own = true then 2 else 1), 0, s, ((p + (aR l own last).length : Nat) : Int), 0) := by
  have r3 := Ja hl hv own last w hw most hm hm0 s hs p hat
  rw [hx] at r3
  have e : aR l own last = an 1 (if last = true then 1 else 0) ++ (an 2 (if own = true then 2 else 1) ++ (if own = true then l0 (aC l) (az l) ++ (bV (aC l) (az l) l).2 else (bV jQ jR l).2)) := by
    rw [FF]; unfold aR; rw [List.append_assoc]
  have hat2 := hat
  rw [e] at hat2
  have c1 : am 1 = 1 := rfl
  have c2 : am 2 = 2 := rfl
  have a1 := hat2.left
  have a2 := hat2.right.left
  simp only [al, c1] at a2
  have r1 := di hs a1 (by split <;> decide) (by split <;> decide)
  have r2 := di hs a2 (by split <;> decide) (by split <;> decide)
  rw [c1] at r1
  rw [c2, show p + 1 + 2 = p + 3 by omega] at r2
  have hlast : ((if last = true then (1 : Int) else 0) == 1) = last := by cases last <;> rfl
  simp only [SZ, gH, ae]
  rw [r1, Option.bind_some]
  simp only
  rw [r2, Option.bind_some]
  simp only [Option.bind_some]
  rw [if_neg (by decide), hlast]
  cases own with
  | true =>
    rw [if_pos rfl] at r3 ⊢
    rw [if_neg (by decide), if_neg (by decide), if_pos (by decide), r3, Option.bind_some]
    simp only
    rw [if_neg (by decide)]
  | false =>
    rw [show (if false = true then (2 : Int) else 1) = 1 from rfl] at r3 ⊢
    rw [if_neg (by decide), if_pos (by decide), r3, Option.bind_some]
    simp only
    rw [if_neg (by decide)]
theorem KW (w : ByteArray) : aX (aX w) = aX w := by
  have h := hZ w
  generalize aX w = v at *
  unfold aX
  rw [if_neg (by omega)]
theorem U7 {w x : ByteArray} {P : List Tok} (hP : PackOk w x P) (hx : x.size ≤ 8000) (last : Bool) (most : Int) (hm : (x.size : Int) ≤ most) (hm0 : most ≤ 2000000000) (s : ByteArray) (hs : s.size ≤ 1000000) (a : List Bool) (ha : a.length % 8 = 0) (hA : At (aQ s) a.length (ca P x last)) :
    ∃ kind, SZ 200000 (aX w, most, s, (a.length : Int), 0) = some (x, last, kind, 0, s, ((a.length + (ca P x last).length : Nat) : Int), 0) := by
  have hts := hZ w
  rcases oL P x last with ⟨own, e, _⟩ | e
  · rw [e] at hA ⊢
    have hE : oH (aX w) P = (x, 0) := by
      have := J5 hP
      unfold oH at this ⊢
      rw [KW]
      exact this
    exact ⟨_, MG (show P.length ≤ 10000 by have := hP.len; omega) hP.valid own last (aX w) (by omega) most (by rw [hP.made]; exact hm) hm0 s hs a.length hA hE⟩
  · rw [e] at hA ⊢
    rw [← iJ ha] at hA ⊢
    exact ⟨_, pd hs (by omega) last (aX w) most hm a hA⟩
theorem sj {w out x : ByteArray} (kind : Int) (most q : Int) (s : ByteArray) (hs : s.size ≤ 1000000) (p : Nat) (e : Bool) (f : Nat) (hp : p < 8 * s.size) (hw : w.size ≤ 500000) (ho : out.size ≤ 400000) (hx : x.size ≤ 100000) (hm0 : most ≤ 2000000000) (hm1 : (out.size : Int) ≤ most)
    (h : SZ 200000 (aX (w ++ out), most - (out.size : Int), s, (p : Int), 0) = some (x, false, kind, 0, s, q, 0)) :
    cn 200000 (f + 1) (e, out, w, most, s, (p : Int), 0) = cn 200000 f (kind == 0 && decide (x.size = 0), out ++ x, w, most, s, q, 0) := by
  have w1 : IntKind.wrap .i64 (most - (out.size : Int)) = most - (out.size : Int) := wrap_i64 (by omega) (by omega)
  have hwo : (w ++ out).size ≤ 1000000 := by rw [ByteArray.size_append]; omega
  simp only [cn, t8, ae]
  rw [ql _ s p 0 (by omega) (by omega), Option.bind_some, bd (by omega), aY (by omega), mG _ _ hwo, Option.bind_some, w1, h, Option.bind_some]
  simp only
  rw [if_neg (by decide), if_neg (by decide), aY (by omega)]
  by_cases hk : kind = 0
  · subst hk
    rw [if_pos (by rfl), kh]
    show _ = cn 200000 f (decide (x.size = 0), out ++ x, w, most, s, q, 0)
    cases cn 200000 f (decide (x.size = 0), out ++ x, w, most, s, q, 0) with
    | none => rfl
    | some r => cases r <;> rfl
  · have : (kind == 0) = false := by simpa using hk
    rw [this, if_neg (by decide)]
    show _ = cn 200000 f (false, out ++ x, w, most, s, q, 0)
    cases cn 200000 f (false, out ++ x, w, most, s, q, 0) with
    | none => rfl
    | some r => cases r <;> rfl
theorem Vh {w out x : ByteArray} {P : List Tok} (hP : PackOk (w ++ out) x P) (hw : w.size ≤ 500000) (ho : out.size ≤ 100000) (hx : x.size ≤ 8000) (most : Int) (hm : ((out.size + x.size : Nat) : Int) ≤ most) (hm0 : most ≤ 2000000000) (s : ByteArray) (hs : s.size ≤ 1000000) (a : List Bool) (ha : a.length % 8 = 0) (hA : At (aQ s) a.length (bf x P)) :
    ∃ k, k ≤ 2 ∧ ∀ f e, cn 200000 (f + k) (e, out, w, most, s, (a.length : Int), 0) = cn 200000 f (true, out ++ x, w, most, s, ((a.length + (bf x P).length : Nat) : Int), 0) := by
  have e0 : (ByteArray.mk #[]).size = 0 := rfl
  by_cases h0 : x.size = 0
  · have hse : x = ByteArray.mk #[] := by
      apply ByteArray.ext
      apply Array.eq_empty_of_size_eq_zero
      exact h0
    have e : bf x P = aM a (ByteArray.mk #[]) false := by unfold bf; rw [if_pos h0, iJ ha]
    rw [e] at hA ⊢
    have hle := hA.le
    have hlen := bY a (ByteArray.mk #[]) false
    rw [aJ] at hle
    have h := pd hs (by decide) false (aX (w ++ out)) (most - (out.size : Int)) (by rw [e0]; omega) a hA
    refine ⟨1, by decide, fun f e => ?_⟩
    rw [sj (w := w) (out := out) 0 most _ s hs _ e f (by omega) (by omega) (by omega) (by rw [e0]; decide) hm0 (by omega) h, hse]
    rfl
  · have e : bf x P = ca P x false ++ aM (ca P x false) (ByteArray.mk #[]) false := by unfold bf; rw [if_neg h0]
    have est : aM (ca P x false) (ByteArray.mk #[]) false = aM (a ++ ca P x false) (ByteArray.mk #[]) false := by
      unfold aM
      rw [List.append_assoc, u7 ha]
    rw [e, est] at hA ⊢
    have a1 := hA.left
    have a2 := hA.right
    have hle := a2.le
    rw [aJ] at hle
    have hTl : 0 < (aM (a ++ ca P x false) (ByteArray.mk #[]) false).length := by rw [bY]; omega
    rw [← List.length_append] at a2 hle
    obtain ⟨kind, g1⟩ := U7 hP hx false (most - (out.size : Int)) (by omega) (by omega) s hs a ha a1
    have g2 := pd hs (by decide) false (aX (w ++ (out ++ x))) (most - ((out ++ x).size : Int)) (by rw [e0, ByteArray.size_append]; omega) (a ++ ca P x false) a2
    rw [List.length_append] at g2 hle
    refine ⟨2, by decide, fun f e => ?_⟩
    rw [show f + 2 = f + 1 + 1 by omega, sj (w := w) (out := out) kind most _ s hs _ e (f + 1) (by omega) (by omega) (by omega) (by omega) hm0 (by omega) g1]
    rw [sj (w := w) (out := out ++ x) 0 most _ s hs _ _ f (by omega) (by omega) (by rw [ByteArray.size_append]; omega) (by rw [e0]; decide) hm0 (by rw [ByteArray.size_append]; omega) g2, tN, List.length_append, Nat.add_assoc]
    rfl
theorem Vj (f : Nat) (out w : ByteArray) (most : Int) (s : ByteArray) (hs : s.size ≤ 1000000) : cn 200000 (f + 1) (true, out, w, most, s, ((8 * s.size : Nat) : Int), 0) = some (.inr (true, out)) := by
  simp only [cn, t8, ae]
  rw [ql _ s _ 0 (by omega) (by omega), Option.bind_some, aY (by omega)]
theorem Vi {w x : ByteArray} {P : List Tok} (hP : PackOk w x P) (hw : w.size ≤ 500000) (hx : x.size ≤ 8000) (most : Int) (hm : (x.size : Int) ≤ most) (hm0 : most ≤ 2000000000) : YI 200000 (w, cC (bf x P), most) = some (x, 0) := by
  obtain ⟨l1, l2⟩ := ez x P (by omega)
  have hsz := eU (bf x P)
  have hal : aQ (cC (bf x P)) = bf x P := by rw [Af, rC l2]
  have hP' : PackOk (w ++ ByteArray.mk #[]) x P := by rw [tN]; exact hP
  have hl8 : (bf x P).length = 8 * (cC (bf x P)).size := by rw [hsz]; omega
  obtain ⟨k, k1, k2⟩ := Vh hP' hw (by decide) hx most (by rw [show (ByteArray.mk #[]).size = 0 from rfl]; omega) hm0 (cC (bf x P)) (by omega) [] rfl ⟨[], [], by rw [hal]; simp, rfl⟩
  have h := k2 (199999 - k + 1) false
  rw [show 199999 - k + 1 + k = 200000 by omega, List.length_nil, Nat.zero_add, show ((0 : Nat) : Int) = 0 from rfl, tF, hl8, Vj _ _ _ _ _ (by omega)] at h
  simp only [YI, F85, ae, Option.bind_some]
  rw [h, Option.bind_some]
  rfl
set_option maxRecDepth 100000
theorem Of {a b X : ByteArray} {P Q : List Tok} (hP : PackOk (ByteArray.mk #[]) a P) (hQ : PackOk a b Q) (ha : a.size ≤ 600) (hb : b.size ≤ 600)
    (hX : X.size ≤ 70000) (hall : aQ X = bf a P ++ bf b Q) : F33 200000 (ByteArray.mk #[], X, 5000) = some (a ++ b, 0) := by
  obtain ⟨p1, p2⟩ := ez a P (by omega)
  obtain ⟨q1, q2⟩ := ez b Q (by omega)
  have b1 : aQ X = [] ++ (bf a P ++ bf b Q) := by rw [hall, List.nil_append]
  have b2 : aQ X = bf a P ++ (bf b Q ++ []) := by rw [hall, List.append_nil]
  have hlen : (aQ X).length = (bf a P).length + (bf b Q).length := by rw [hall]; simp only [List.length_append]
  have hLX : (aQ X).length ≤ 1000000000 := by omega
  obtain ⟨k1, l1, m1⟩ := KA (w := ByteArray.mk #[]) (out := ByteArray.mk #[]) (by rw [tN]; exact hP) (Nat.zero_le _) (Nat.zero_le _) (by omega) 5000 (by rw [show (ByteArray.mk #[]).size = 0 from rfl]; omega) (by omega) [] (bf b Q) rfl (by rw [← b1]; exact hLX)
  obtain ⟨k2, l2, m2⟩ := KA (w := ByteArray.mk #[]) (out := a) (by rw [tF]; exact hQ) (Nat.zero_le _) (by omega) (by omega) 5000 (by omega) (by omega) (bf a P) [] (by omega) (by rw [← b2]; exact hLX)
  rw [← b1, List.length_nil, Nat.zero_add, tF, show ((0 : Nat) : Int) = 0 from rfl] at m1
  rw [← b2] at m2
  have h1 := m1 (199999 - k1 - k2 + 1 + k2) false
  have hN : 199999 - k1 - k2 + 1 + k2 + k1 = 200000 := by omega
  rw [m2, ← hlen, Vk, hN] at h1
  simp only [F33, ae]
  rw [Vn _ hX (by decide), Option.bind_some, h1, Option.bind_some]
  simp
theorem E9 (X : ByteArray) (h : X.size ≤ 1000000) : FV 200000 (GQ ++ X) = some 0 := by
  obtain ⟨e, e1, e2⟩ := IW (GQ ++ X) (by rw [ByteArray.size_append, PR]; omega)
  rw [Xt] at e2
  cases e2
  exact e1
theorem ae1 (hw : Ze 200000 () = some true) (a b c : ByteArray) : YT 200000 (a, b, c) = some true := by
  simp only [YT, yn, ae]
  rw [hw, Option.bind_some, if_neg (by decide)]
  by_cases g1 : a.size > 600
  · rw [bd (by omega)]
  by_cases g2 : b.size > 600
  · rw [aY (by omega), bd (by omega)]
  by_cases g3 : c.size > 600
  · rw [aY (by omega), aY (by omega), bd (by omega)]
  rw [aY (by omega), aY (by omega), aY (by omega)]
  have e0 : (ByteArray.mk #[]).size = 0 := rfl
  obtain ⟨P, hP⟩ := sq (ByteArray.mk #[]) a (Nat.zero_le _) (by omega)
  obtain ⟨Q, hQ⟩ := sq a b (by omega) (by omega)
  obtain ⟨R, hR⟩ := sq (ByteArray.mk #[]) c (Nat.zero_le _) (by omega)
  have h1 := mN hP (Nat.zero_le _) (by omega) false
  have h2 := mN hQ (by omega) (by omega) true
  have h3 := mN hR (Nat.zero_le _) (by omega) false
  rw [if_neg (by decide), tF] at h1 h3
  rw [if_pos rfl] at h2
  have sa := (ez a P (by omega)).1
  have sb := (ez b Q (by omega)).1
  have sc := (ez c R (by omega)).1
  have za := eU (bf a P)
  have zb := eU (bf b Q)
  have zc := eU (bf c R)
  have hall : aQ (cC (bf a P) ++ cC (bf b Q)) = bf a P ++ bf b Q := by rw [QH, FO _ _ (by omega), FO _ _ (by omega)]
  have r1 := Of hP hQ (by omega) (by omega) (by rw [ByteArray.size_append]; omega) hall
  have r2 := Vi hR (by rw [e0]; omega) (by omega) 5000 (by omega) (by omega)
  have k1 := E9 (cC (bf a P)) (by omega)
  have k3 := E9 (cC (bf c R)) (by omega)
  have c1 := J1 (cC (bf a P))
  have c3 := J1 (cC (bf c R))
  have z1 : (GQ ++ cC (bf a P)).size = 2 + (cC (bf a P)).size := ByteArray.size_append
  have z3 : (GQ ++ cC (bf c R)).size = 2 + (cC (bf c R)).size := ByteArray.size_append
  rw [h1, Option.bind_some, h3, Option.bind_some]
  simp only
  rw [h2, Option.bind_some]
  simp only
  rw [k1, Option.bind_some, if_neg (by decide), k3, Option.bind_some, if_neg (by decide), if_pos (by rw [z1]; simp only [decide_eq_true_eq]; omega), c1, aY (by omega), r1, Option.bind_some, if_pos (by rw [z3]; simp only [decide_eq_true_eq]; omega), c3, r2, Option.bind_some]
  rw [if_pos trivial, aY (by omega), if_pos (by simp), if_pos (by rfl), if_pos (by simp), if_pos (by rfl), Option.bind_some]
  simp
end Go.Proofs.YteddgkplkjldcaaGreat.Am
