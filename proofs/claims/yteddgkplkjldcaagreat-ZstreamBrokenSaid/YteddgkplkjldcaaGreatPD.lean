/- Texts deflated and framed, and read again by the document: the Lean function that ZstreamBroken comes to answers true at every input. -/
import Derived.Test.YteddgkplkjldcaaGreatPC
import Derived.Test.YteddgkplkjldcaaGreatPA
import Derived.Test.YteddgkplkjldcaaGreatSC
import Derived.Test.YteddgkplkjldcaaGreatPB
set_option linter.unusedSimpArgs false
set_option linter.unusedVariables false
namespace Go.Proofs.YteddgkplkjldcaaGreat.Am
open Go.Am
theorem G9 {β : Type} (k : Ty) (a : k.den) : ∀ (l : List (k.den × β)) (n : Nat) (b : β), dp k a l = some (n, b) → ∃ e ∈ l, e.2 = b
  | [], n, b, h => by cases h
  | e :: l, n, b, h => by
    unfold dp at h
    cases he : OG k a e.1 with
    | true =>
      rw [he] at h
      cases h
      exact ⟨e, List.mem_cons_self .., rfl⟩
    | false =>
      rw [he] at h
      simp only [cond_false] at h
      cases hf : dp k a l with
      | none => rw [hf] at h; cases h
      | some p =>
        obtain ⟨m, c⟩ := p
        rw [hf] at h
        cases h
        obtain ⟨e', h1, h2⟩ := G9 k a l m b hf
        exact ⟨e', List.mem_cons_of_mem _ h1, h2⟩
theorem get_mem {β : Type} {k : Ty} {a : k.den} {z : β} {l : List (k.den × β)} (h : gx k a l = true) : ∃ e ∈ l, fC k a z l = e.2 := by
  unfold gx at h
  cases hf : dp k a l with
  | none => rw [hf] at h; cases h
  | some p =>
    obtain ⟨m, c⟩ := p
    obtain ⟨e, h1, h2⟩ := G9 k a l m c hf
    refine ⟨e, h1, ?_⟩
    unfold fC
    rw [hf, h2]
theorem put_mem {β : Type} {k : Ty} {a : k.den} {b : β} {l : List (k.den × β)} {e : k.den × β} (h : e ∈ dB k a b l) : e ∈ l ∨ e.2 = b := by
  unfold dB at h
  split at h
  · rcases List.mem_or_eq_of_mem_set h with h | h
    · exact .inl h
    · rw [h]; exact .inr rfl
  · rcases List.mem_append.1 h with h | h
    · exact .inl h
    · rw [List.mem_singleton.1 h]; exact .inr rfl
structure Inv (at_ : Nat) (M : List (ByteArray × Int)) (A : List Int) : Prop where
  len : A.length = at_
  m : ∀ e ∈ M, 0 ≤ e.2 ∧ e.2 < (at_ : Int)
  a : ∀ i, i < at_ → -1 ≤ A.getD i 0 ∧ A.getD i 0 < (i : Int)
theorem Mf {i : Nat} {M : List (ByteArray × Int)} {A : List Int} (h : Inv i M A) {v : Int} (h0 : -1 ≤ v) (h1 : v < (i : Int)) : Inv (i + 1) M (A ++ [v]) := by
  refine ⟨by rw [List.length_append, List.length_singleton, h.len], fun e he => ?_, fun j hj => ?_⟩
  · have := h.m e he; omega
  · by_cases e : j < i
    · rw [List.getD, List.getElem?_append_left (by rw [h.len]; exact e)]
      exact h.a j e
    · have : j = i := by omega
      subst this
      rw [List.getD, List.getElem?_append_right (by rw [h.len]; omega), h.len, Nat.sub_self]
      exact ⟨h0, h1⟩
theorem Pn {i : Nat} {M : List (ByteArray × Int)} {A : List Int} (h : Inv (i + 1) M A) (k : ByteArray) : Inv (i + 1) (dB Ty.str k (i : Int) M) A := by
  refine ⟨h.len, fun e he => ?_, h.a⟩
  rcases put_mem he with h1 | h1
  · exact h.m e h1
  · rw [h1]; omega
def Cq (T : ByteArray) (i : Nat) : ByteArray := T.extract i (i + 3)
def Jp (T : ByteArray) (i : Nat) (M : List (ByteArray × Int)) : List (ByteArray × Int) := if i + 3 ≤ T.size then dB Ty.str (Cq T i) (i : Int) M else M
def E1 (T : ByteArray) (i : Nat) (M : List (ByteArray × Int)) (A : List Int) : List Int := A ++ [if i + 3 ≤ T.size ∧ gx Ty.str (Cq T i) M = true then fC Ty.str (Cq T i) 0 M else -1]
theorem G6 {T : ByteArray} {i : Nat} {M : List (ByteArray × Int)} {A : List Int} (h : Inv i M A) : Inv (i + 1) (Jp T i M) (E1 T i M A) := by
  have hp : Inv (i + 1) M (E1 T i M A) := by
    unfold E1
    refine Mf h ?_ ?_
    · split
      · rename_i hc
        obtain ⟨e, h1, h2⟩ := get_mem (z := 0) hc.2
        rw [h2]
        have := h.m e h1
        omega
      · omega
    · split
      · rename_i hc
        obtain ⟨e, h1, h2⟩ := get_mem (z := 0) hc.2
        rw [h2]
        exact (h.m e h1).2
      · omega
  unfold Jp
  split
  · exact Pn hp _
  · exact hp
theorem Dp (N : Nat) (T : ByteArray) (hT : T.size ≤ 100000000) {i : Nat} (hi : i ≤ T.size) (M : List (ByteArray × Int)) (A : List Int) (hA : A.length = i) :
    JZ N ((i : Int), T, M, A) = some (T, Jp T i M, E1 T i M A) := by
  have w : IntKind.wrap .i64 ((i : Int) + 3) = ((i + 3 : Nat) : Int) := by rw [wrap_i64 (by omega) (by omega)]; omega
  simp only [JZ, ae]
  rw [w]
  unfold Jp E1
  by_cases h3 : i + 3 ≤ T.size
  · have ek : T.extract (Int.toNat (i : Int)) (Int.toNat ((i + 3 : Nat) : Int)) = Cq T i := by rw [Int.toNat_natCast, Int.toNat_natCast]; rfl
    rw [aY (by omega), aY (by omega), if_pos (by rw [Int.toNat_natCast]; simp only [decide_eq_true_eq]; omega), ek, if_pos h3]
    cases hm : gx Ty.str (Cq T i) M with
    | true =>
      rw [if_pos rfl, if_pos (by rw [decide_eq_true_eq, List.length_singleton]; omega), if_pos ⟨h3, rfl⟩]
    | false =>
      rw [if_neg (by decide), if_pos (by rw [decide_eq_true_eq]; omega), if_neg (fun h => by cases h.2)]
  · rw [aV (by omega), if_pos (by rw [decide_eq_true_eq]; omega), if_neg h3, if_neg (fun h => h3 h.1)]
def bb (T : ByteArray) (i : Nat) : Int := ((T.data.toList.getD i 0).toNat : Int)
def PE (T : ByteArray) (p q : Nat) : Nat → Nat → Nat
  | 0, n => n
  | d + 1, n => if n < 258 ∧ q + n < T.size ∧ bb T (p + n) = bb T (q + n) then PE T p q d (n + 1) else n
theorem M0 (T : ByteArray) (p q : Nat) : ∀ (d n : Nat), n ≤ 258 → q + n ≤ T.size → (∀ k, k < n → bb T (p + k) = bb T (q + k)) →
    n ≤ PE T p q d n ∧ PE T p q d n ≤ 258 ∧ q + PE T p q d n ≤ T.size ∧ ∀ k, k < PE T p q d n → bb T (p + k) = bb T (q + k) := by
  intro d
  induction d with
  | zero => intro n h1 h2 h3; exact ⟨Nat.le_refl _, h1, h2, h3⟩
  | succ d ih =>
    intro n h1 h2 h3
    unfold PE
    by_cases h : n < 258 ∧ q + n < T.size ∧ bb T (p + n) = bb T (q + n)
    · rw [if_pos h]
      obtain ⟨a, b, c, e⟩ := ih (n + 1) (by omega) (by omega) fun k hk => by
        by_cases hkn : k < n
        · exact h3 k hkn
        · rw [show k = n by omega]; exact h.2.2
      exact ⟨by omega, b, c, e⟩
    · rw [if_neg h]
      exact ⟨Nat.le_refl _, h1, h2, h3⟩
def Kq (T : ByteArray) (p q : Nat) : Nat := PE T p q 259 0
theorem C6 {T : ByteArray} (p : Nat) {q : Nat} (hq : q ≤ T.size) : Kq T p q ≤ 258 ∧ q + Kq T p q ≤ T.size ∧ ∀ k, k < Kq T p q → bb T (p + k) = bb T (q + k) :=
  (M0 T p q 259 0 (by omega) (by omega) fun k hk => by omega).2
theorem CU {T : ByteArray} {i : Nat} (h : i < T.size) : T[i]? = some (T.data.toList.getD i 0) := byte_at T i h
theorem JK (N : Nat) (T : ByteArray) (hT : T.size ≤ 100000000) {p q : Nat} (hpq : p < q) (hqs : q ≤ T.size) (M : List (ByteArray × Int)) (A : List Int) : ∀ (d n f : Nat), n ≤ 258 → d + n = 259 → d < f →
    jQ N f ((n : Int), (p : Int), (q : Int), T, M, A) = some (((PE T p q d n : Nat) : Int), T, M, A) := by
  intro d
  induction d with
  | zero => intro n f h1 h2 hf; omega
  | succ d ih =>
    intro n f h1 h2 hf
    cases f with
    | zero => omega
    | succ f =>
      simp only [jQ, Bl, ae]
      unfold PE
      by_cases hn : n < 258
      · rw [aY (by omega)]
        by_cases hs : q + n < T.size
        · have w1 : IntKind.wrap .i64 ((q : Int) + (n : Int)) = ((q + n : Nat) : Int) := by rw [wrap_i64 (by omega) (by omega)]; omega
          have w2 : IntKind.wrap .i64 ((p : Int) + (n : Int)) = ((p + n : Nat) : Int) := by rw [wrap_i64 (by omega) (by omega)]; omega
          have w3 : IntKind.wrap .i64 ((n : Int) + 1) = ((n + 1 : Nat) : Int) := by rw [wrap_i64 (by omega) (by omega)]; omega
          rw [w1, w2, aY (by omega), aY (by omega), Int.toNat_natCast, Int.toNat_natCast, CU (show p + n < T.size by omega), Option.bind_some, aY (by omega), CU hs, Option.bind_some]
          show (if (bb T (p + n) == bb T (q + n)) = true then _ else _) = _
          by_cases he : bb T (p + n) = bb T (q + n)
          · rw [if_pos (by rw [he]; exact beq_self_eq_true _), if_pos ⟨hn, hs, he⟩, w3, ih (n + 1) f (by omega) (by omega) (by omega)]
            rfl
          · rw [if_neg (by simpa using he), if_neg (fun h => he h.2.2)]
        · have w1 : IntKind.wrap .i64 ((q : Int) + (n : Int)) = ((q + n : Nat) : Int) := by rw [wrap_i64 (by omega) (by omega)]; omega
          rw [w1, aV (by omega), if_neg (fun h => hs h.2.1)]
      · rw [aV (by omega), if_neg (fun h => hn h.1)]
theorem Ge {N : Nat} (hN : 300 ≤ N) (T : ByteArray) (hT : T.size ≤ 100000000) {p q : Nat} (hpq : p < q) (hqs : q ≤ T.size) (M : List (ByteArray × Int)) (A : List Int) :
    Od N ((p : Int), (q : Int), T, M, A) = some (((Kq T p q : Nat) : Int), T, M, A) := by
  have h := JK N T hT hpq hqs M A 259 0 N (by omega) (by omega) (by omega)
  rw [show ((0 : Nat) : Int) = 0 from rfl] at h
  simp only [Od]
  rw [h, Option.bind_some]
  rfl
def r6 (T : ByteArray) (q : Nat) (tl td : Int) : Prop := (tl = 0 ∧ td = 0) ∨ ∃ p : Nat, p < q ∧ q - p ≤ 32768 ∧ td = ((q - p : Nat) : Int) ∧ tl = ((Kq T p q : Nat) : Int) ∧ 0 < tl
theorem JX {N : Nat} (hN : 300 ≤ N) (T : ByteArray) (hT : T.size ≤ 100000000) {q : Nat} (hqs : q ≤ T.size) (M : List (ByteArray × Int)) (A : List Int) (hI : Inv q M A) (ok : Bool) : ∀ (d n f : Nat) (p tl td : Int), d + n = 64 → d < f → (ok = true → p < (q : Int) ∧ -1 ≤ p) → r6 T q tl td →
    ∃ tl' td', bM N f (p, (n : Int), ok, (q : Int), T, 0, 0, 0, 0, tl, td, M, A) = some (T, 0, tl', td', 0, 0, 0, M, A) ∧ r6 T q tl' td' ∧ (((min 258 (T.size - q) : Nat) : Int) ≤ tl → tl' = tl ∧ td' = td) := by
  intro d
  induction d with
  | zero =>
    intro n f p tl td h1 hf hp hP
    cases f with
    | zero => omega
    | succ f =>
      refine ⟨tl, td, ?_, hP, fun _ => ⟨rfl, rfl⟩⟩
      simp only [bM, fx, ae]
      cases ok with
      | true => rw [if_pos rfl, aV (by omega)]
      | false => rw [if_neg (by decide)]
  | succ d ih =>
    intro n f p tl td h1 hf hp hP
    cases f with
    | zero => omega
    | succ f =>
      cases ok with
      | false =>
        refine ⟨tl, td, ?_, hP, fun _ => ⟨rfl, rfl⟩⟩
        simp only [bM, fx, ae]
        rw [if_neg (by decide)]
      | true =>
        obtain ⟨p1, p2⟩ := hp rfl
        by_cases h0 : p ≥ 0
        · obtain ⟨k, rfl⟩ := Int.eq_ofNat_of_zero_le h0
          have hkq : k < q := by omega
          have w : IntKind.wrap .i64 ((q : Int) - (k : Int)) = ((q - k : Nat) : Int) := by rw [wrap_i64 (by omega) (by omega)]; omega
          have w2 : IntKind.wrap .i64 ((n : Int) + 1) = ((n + 1 : Nat) : Int) := by rw [wrap_i64 (by omega) (by omega)]; omega
          by_cases hw : q - k ≤ 32768
          · have hal := C6 k hqs
            have hak : within (k : Int) A.length = true := ay (by rw [hI.len]; exact hkq)
            have hag : A[k]? = some (A.getD k 0) := bv (by rw [hI.len]; exact hkq)
            obtain ⟨a1, a2⟩ := hI.a k hkq
            have hbody : ∀ r, fx N (bM N f) ((k : Int), (n : Int), true, (q : Int), T, 0, 0, 0, 0, tl, td, M, A) = r ↔ (if ((Kq T k q : Nat) : Int) > tl then bM N f (A.getD k 0, ((n + 1 : Nat) : Int), true, (q : Int), T, 0, 0, 0, 0, ((Kq T k q : Nat) : Int), ((q - k : Nat) : Int), M, A) else bM N f (A.getD k 0, ((n + 1 : Nat) : Int), true, (q : Int), T, 0, 0, 0, 0, tl, td, M, A)) = r := by
              intro r
              simp only [fx, gb, ae]
              rw [if_pos trivial, aY (by omega), aY (by omega), w, aY (by omega), Ge hN T hT hkq hqs, Option.bind_some]
              simp only
              by_cases hg : ((Kq T k q : Nat) : Int) > tl
              · rw [if_pos (by simpa using hg), if_pos hak, Int.toNat_natCast, hag, Option.bind_some, Option.bind_some, w2, if_pos hg]
                simp only
                rw [Option.bind_fun_some]
              · rw [if_neg (by simpa using hg), if_pos hak, Int.toNat_natCast, hag, Option.bind_some, Option.bind_some, w2, if_neg hg]
                simp only
                rw [Option.bind_fun_some]
            by_cases hg : ((Kq T k q : Nat) : Int) > tl
            · have htl : 0 ≤ tl := by
                rcases hP with ⟨e, _⟩ | ⟨_, _, _, _, _, e⟩ <;> omega
              obtain ⟨tl', td', e1, e2, e3⟩ := ih (n + 1) f (A.getD k 0) ((Kq T k q : Nat) : Int) ((q - k : Nat) : Int) (by omega) (by omega) (fun _ => ⟨by omega, a1⟩) (.inr ⟨k, hkq, hw, rfl, rfl, by omega⟩)
              refine ⟨tl', td', ?_, e2, fun hmax => ?_⟩
              · rw [bM, (hbody _), if_pos hg]; exact e1
              · omega
            · obtain ⟨tl', td', e1, e2, e3⟩ := ih (n + 1) f (A.getD k 0) tl td (by omega) (by omega) (fun _ => ⟨by omega, a1⟩) hP
              refine ⟨tl', td', ?_, e2, e3⟩
              rw [bM, (hbody _), if_neg hg]; exact e1
          · refine ⟨tl, td, ?_, hP, fun _ => ⟨rfl, rfl⟩⟩
            simp only [bM, fx, ae]
            rw [if_pos trivial, aY (by omega), aY (by omega), w, aV (by omega)]
        · refine ⟨tl, td, ?_, hP, fun _ => ⟨rfl, rfl⟩⟩
          simp only [bM, fx, ae]
          rw [if_pos trivial, aY (by omega), aV (by omega)]
theorem qd {T : ByteArray} {i : Nat} (h : i < T.size) : (bytesOf T).getD i 0 = bb T i := by
  have hs : T.data.toList.length = T.size := by simp
  rw [bA, List.getD, List.getElem?_map, List.getElem?_eq_getElem (by omega)]
  unfold bb
  rw [List.getD, List.getElem?_eq_getElem (by omega)]
  rfl
theorem C0 (T : ByteArray) (i : Nat) : 0 ≤ bb T i ∧ bb T i ≤ 255 := by
  unfold bb
  have := (T.data.toList.getD i 0).toNat_lt
  omega
theorem JY {N : Nat} (hN : 300 ≤ N) (T : ByteArray) (hT : T.size ≤ 100000000) {q : Nat} (hqs : q ≤ T.size) (M : List (ByteArray × Int)) (A : List Int) (hI : Inv q M A) :
    ∃ tl td, On N ((q : Int), T, M, A) = some (0, tl, td, decide (tl ≥ 3), T, M, A) ∧ r6 T q tl td := by
  have w : IntKind.wrap .i64 ((q : Int) + 3) = ((q + 3 : Nat) : Int) := by rw [wrap_i64 (by omega) (by omega)]; omega
  simp only [On, ae]
  rw [w]
  by_cases h3 : T.size < q + 3
  · rw [aY (by omega)]
    exact ⟨0, 0, rfl, .inl ⟨rfl, rfl⟩⟩
  · rw [aV (by omega), aY (by omega), if_pos (by rw [Int.toNat_natCast]; simp only [decide_eq_true_eq]; omega)]
    rw [Int.toNat_natCast, Int.toNat_natCast]
    obtain ⟨tl, td, e1, e2, _⟩ := JX hN T hT hqs M A hI (gx Ty.str (T.extract q (q + 3)) M) 64 0 N (fC Ty.str (T.extract q (q + 3)) 0 M) 0 0 (by omega) (by omega) (fun hh => by
      obtain ⟨e, h1, h2⟩ := get_mem (z := 0) hh
      rw [h2]
      have := hI.m e h1
      omega) (.inl ⟨rfl, rfl⟩)
    rw [show ((0 : Nat) : Int) = 0 from rfl] at e1
    rw [e1, Option.bind_some]
    exact ⟨tl, td, rfl, e2⟩
theorem Jd {B : List Int} {q D : Nat} (hD : 1 ≤ D) (hDq : D ≤ q) : ∀ (k i : Nat), q + i + k ≤ B.length → (∀ n, n < i + k → B.getD (q - D + n) 0 = B.getD (q + n) 0) → oO D k (B.take (q + i)) = B.take (q + i + k) := by
  intro k
  induction k with
  | zero => intro i _ _; rfl
  | succ k ih =>
    intro i h1 h2
    have hl : (B.take (q + i)).length = q + i := by rw [List.length_take]; omega
    have e1 : (B.take (q + i)).getD (q + i - D) 0 = B.getD (q + i) 0 := by
      rw [List.getD, List.getElem?_take_of_lt (by omega)]
      have := h2 i (by omega)
      rw [show q - D + i = q + i - D by omega] at this
      exact this
    have e2 : B.take (q + i) ++ [B.getD (q + i) 0] = B.take (q + (i + 1)) := by
      rw [show q + (i + 1) = q + i + 1 by omega, List.take_add_one, List.getD, List.getElem?_eq_getElem (show q + i < B.length by omega)]
      rfl
    unfold oO
    rw [hl, e1, e2, ih (i + 1) (by omega) fun n hn => h2 n (by omega), show q + (i + 1) + k = q + i + (k + 1) by omega]
def Steps (T : ByteArray) (q : Nat) (t : Tok) (k : Nat) : Prop :=
  bo t.1 t.2.1 t.2.2.1 = true ∧ 0 < k ∧ q + k ≤ T.size ∧ cC t = k ∧ iW ((bytesOf T).take q) t = some ((bytesOf T).take (q + k))
theorem ID {T : ByteArray} {q : Nat} (hq : q < T.size) : Steps T q (bb T q, 0, 0, ()) 1 := by
  obtain ⟨b0, b1⟩ := C0 T q
  have hl := c8 T
  refine ⟨?_, by omega, by omega, rfl, ?_⟩
  · unfold bo inT
    simp [b0, b1]
  · unfold iW
    rw [if_pos rfl, List.take_add_one, List.getElem?_eq_getElem (by omega)]
    have := qd hq
    rw [List.getD, List.getElem?_eq_getElem (by omega)] at this
    simp only [Option.getD_some] at this
    rw [this]
    rfl
theorem Ef {T : ByteArray} {q : Nat} {tl td : Int} (hq : q < T.size) (hP : r6 T q tl td) (h3 : 3 ≤ tl) : Steps T q (0, tl, td, ()) tl.toNat := by
  have hl := c8 T
  rcases hP with ⟨e, _⟩ | ⟨p, p1, p2, p3, p4, p5⟩
  · omega
  · obtain ⟨a1, a2, a3⟩ := C6 (T := T) p (q := q) (by omega)
    refine ⟨?_, by omega, by omega, ?_, ?_⟩
    · unfold bo inT
      simp only
      rw [if_neg (by omega)]
      simp only [Bool.and_eq_true, decide_eq_true_eq]
      refine ⟨trivial, ⟨?_, ?_⟩, ?_, ?_⟩ <;> omega
    · unfold cC
      rw [if_neg (show ¬ tl = 0 by omega)]
    · unfold iW
      simp only
      rw [if_neg (by omega), if_neg (by rw [List.length_take]; omega)]
      have hD : td.toNat = q - p := by omega
      have hk : tl.toNat = Kq T p q := by omega
      rw [hD, hk]
      have := Jd (B := bytesOf T) (q := q) (D := q - p) (by omega) (by omega) (Kq T p q) 0 (by omega) fun n hn => by
        rw [show q - (q - p) + n = p + n by omega, qd (by omega), qd (by omega)]
        exact a3 n (by omega)
      rw [Nat.add_zero] at this
      rw [this]
theorem yy (N : Nat) (T : ByteArray) (hT : T.size ≤ 100000000) (q k : Nat) (hqk : q + k ≤ T.size) (P : List Tok) : ∀ (d i f : Nat) (M : List (ByteArray × Int)) (A : List Int), i + d = k → d < f → Inv (q + i) M A →
    ∃ M' A', bE N f (((q + i : Nat) : Int), (i : Int), (k : Int), P, T, M, A) = some (((q + k : Nat) : Int), P, T, M', A') ∧ Inv (q + k) M' A' := by
  intro d
  induction d with
  | zero =>
    intro i f M A hi hf hI
    cases f with
    | zero => omega
    | succ f =>
      have e : i = k := by omega
      subst e
      refine ⟨M, A, ?_, hI⟩
      simp only [bE, im, ae]
      rw [aV (by omega)]
  | succ d ih =>
    intro i f M A hi hf hI
    cases f with
    | zero => omega
    | succ f =>
      have w1 : IntKind.wrap .i64 (((q + i : Nat) : Int) + 1) = ((q + (i + 1) : Nat) : Int) := by rw [wrap_i64 (by omega) (by omega)]; omega
      have w2 : IntKind.wrap .i64 ((i : Int) + 1) = ((i + 1 : Nat) : Int) := by rw [wrap_i64 (by omega) (by omega)]; omega
      obtain ⟨M', A', e1, e2⟩ := ih (i + 1) f (Jp T (q + i) M) (E1 T (q + i) M A) (by omega) (by omega) (by rw [show q + (i + 1) = q + i + 1 by omega]; exact G6 hI)
      refine ⟨M', A', ?_, e2⟩
      simp only [bE, im, ae]
      rw [aY (by omega), Dp N T hT (by omega) M A hI.len, Option.bind_some, w1, w2]
      simp only
      rw [e1]
      rfl
def db (T : ByteArray) (from_ q : Nat) (P : List Tok) : Prop := az P = true ∧ made P = q - from_ ∧ P.length ≤ q - from_ ∧ kX ((bytesOf T).take from_) P = some ((bytesOf T).take q)
theorem xX : ∀ (P : List Tok) (o p : List Int) (t : Tok), kX o P = some p → kX o (P ++ [t]) = iW p t
  | [], o, p, t, h => by
    cases h
    show (match iW o t with | some p => kX p [] | none => none) = iW o t
    cases iW o t <;> rfl
  | u :: P, o, p, t, h => by
    unfold kX at h
    show (match iW o u with | some p => kX p (P ++ [t]) | none => none) = iW p t
    cases hu : iW o u with
    | none => rw [hu] at h; cases h
    | some r =>
      rw [hu] at h
      exact xX P r p t h
theorem kN (a b : List Tok) : made (a ++ b) = made a + made b := by unfold made; rw [List.map_append, List.sum_append]
theorem re {T : ByteArray} {from_ q k : Nat} {P : List Tok} {t : Tok} (h : db T from_ q P) (hf : from_ ≤ q) (hs : Steps T q t k) : db T from_ (q + k) (P ++ [t]) := by
  obtain ⟨h1, h2, h3, h4⟩ := h
  obtain ⟨s1, s2, s3, s4, s5⟩ := hs
  refine ⟨?_, ?_, ?_, ?_⟩
  · unfold az at h1 ⊢
    rw [List.all_append, h1]
    simp [s1]
  · rw [kN, h2]
    have : made [t] = cC t := by unfold made; simp
    rw [this, s4]
    omega
  · rw [List.length_append, List.length_singleton]; omega
  · rw [xX P _ _ t h4, s5]
theorem J6 (T : ByteArray) (hT : T.size ≤ 150000) (from_ : Nat) : ∀ (d q f : Nat) (P : List Tok) (M : List (ByteArray × Int)) (A : List Int), T.size ≤ q + d → q ≤ T.size → from_ ≤ q → d < f → Inv q M A → db T from_ q P →
    ∃ P', dy 200000 f ((q : Int), P, T, M, A) = some P' ∧ db T from_ T.size P' := by
  intro d
  induction d with
  | zero =>
    intro q f P M A h1 h2 h3 hf hI hP
    cases f with
    | zero => omega
    | succ f =>
      have e : q = T.size := by omega
      subst e
      refine ⟨P, ?_, hP⟩
      simp only [dy, jg, ae]
      rw [if_neg (by simp)]
  | succ d ih =>
    intro q f P M A h1 h2 h3 hf hI hP
    cases f with
    | zero => omega
    | succ f =>
      by_cases hq : q < T.size
      · obtain ⟨tl, td, b1, b2⟩ := JY (N := 200000) (by decide) T (by omega) h2 M A hI
        have hPl := hP.2.2.1
        by_cases h3' : 3 ≤ tl
        · have hs := Ef hq b2 h3'
          have hmx : (if (1 : Int) > tl then (1 : Int) else tl) = ((tl.toNat : Nat) : Int) := by rw [if_neg (by omega)]; omega
          obtain ⟨M', A', e1, e2⟩ := yy 200000 T (by omega) q tl.toNat hs.2.2.1 (P ++ [(0, tl, td, ())]) tl.toNat 0 200000 M A (by omega) (by have := hs.2.2.1; omega) hI
          rw [Nat.add_zero, show ((0 : Nat) : Int) = 0 from rfl] at e1
          obtain ⟨P', g1, g2⟩ := ih (q + tl.toNat) f (P ++ [(0, tl, td, ())]) M' A' (by have := hs.2.1; omega) hs.2.2.1 (by omega) (by omega) e2 (re hP h3 hs)
          refine ⟨P', ?_, g2⟩
          simp only [dy, jg, ae]
          rw [aY (by omega), b1, Option.bind_some]
          simp only
          rw [if_neg (by simpa using h3'), if_pos (by rw [decide_eq_true_eq, List.length_singleton]; omega), hmx, e1, Option.bind_some]
          simp only
          rw [g1]
          rfl
        · have hs := ID hq
          have wb : IntKind.wrap .i64 (((T.data.toList.getD q 0).toNat : Nat) : Int) = bb T q := by
            obtain ⟨c0, c1⟩ := C0 T q
            unfold bb at c0 c1 ⊢
            rw [wrap_i64 (by omega) (by omega)]
          obtain ⟨M', A', e1, e2⟩ := yy 200000 T (by omega) q 1 hs.2.2.1 (P ++ [(bb T q, 0, 0, ())]) 1 0 200000 M A (by omega) (by omega) hI
          rw [Nat.add_zero, show ((0 : Nat) : Int) = 0 from rfl, show ((1 : Nat) : Int) = 1 from rfl] at e1
          obtain ⟨P', g1, g2⟩ := ih (q + 1) f (P ++ [(bb T q, 0, 0, ())]) M' A' (by omega) hs.2.2.1 (by omega) (by omega) e2 (re hP h3 hs)
          refine ⟨P', ?_, g2⟩
          simp only [dy, jg, ae]
          rw [aY (by omega), b1, Option.bind_some]
          simp only
          rw [if_pos (by simpa using h3'), aY (by omega), Int.toNat_natCast, CU hq, Option.bind_some, wb, if_pos (by rw [decide_eq_true_eq, List.length_singleton]; omega), e1, Option.bind_some]
          simp only
          rw [g1]
          rfl
      · have e : q = T.size := by omega
        subst e
        refine ⟨P, ?_, hP⟩
        simp only [dy, jg, ae]
        rw [if_neg (by simp)]
theorem fi (N : Nat) (w : ByteArray) (hw : w.size ≤ 1000000) : NX N w = some (aQ w) := by
  have e : IntKind.wrap .i64 ((w.size : Int) - 32768) = (w.size : Int) - 32768 := wrap_i64 (by omega) (by omega)
  have hmx : (if (0 : Int) > (w.size : Int) - 32768 then (0 : Int) else (w.size : Int) - 32768) = ((w.size - 32768 : Nat) : Int) := by split <;> omega
  simp only [NX, ae]
  rw [e, hmx, aY (by omega), Int.toNat_natCast]
  unfold aQ
  by_cases h : 32768 < w.size
  · rw [if_pos h]
  · rw [if_neg h, show w.size - 32768 = 0 by omega, ByteArray.extract_zero_size]
theorem Gj (T y : ByteArray) (hT : T.size ≤ 150000) (n : Nat) (hn : n ≤ T.size) : ∀ (d i f : Nat) (M : List (ByteArray × Int)) (A : List Int), i + d = n → d < f → Inv i M A →
    ∃ M' A', dA 200000 f ((i : Int), (n : Int), y, T, M, A) = some (y, T, M', A') ∧ Inv n M' A' := by
  intro d
  induction d with
  | zero =>
    intro i f M A hi hf hI
    cases f with
    | zero => omega
    | succ f =>
      have e : i = n := by omega
      subst e
      refine ⟨M, A, ?_, hI⟩
      simp only [dA, px, ae]
      rw [if_neg (by simp)]
  | succ d ih =>
    intro i f M A hi hf hI
    cases f with
    | zero => omega
    | succ f =>
      have w2 : IntKind.wrap .i64 ((i : Int) + 1) = ((i + 1 : Nat) : Int) := by rw [wrap_i64 (by omega) (by omega)]; omega
      obtain ⟨M', A', e1, e2⟩ := ih (i + 1) f (Jp T i M) (E1 T i M A) (by omega) (by omega) (G6 hI)
      refine ⟨M', A', ?_, e2⟩
      simp only [dA, px, ae]
      rw [aY (by omega), Dp 200000 T (by omega) (by omega) M A hI.len, Option.bind_some, w2]
      simp only
      rw [e1]
      rfl
structure PackOk (w s : ByteArray) (P : List Tok) : Prop where
  run : Oz 200000 (w, s) = some P
  valid : az P = true
  made : made P = s.size
  len : P.length ≤ s.size
  exp : kX (bytesOf (aQ w)) P = some (bytesOf (aQ w) ++ bytesOf s)
theorem ue (a b : ByteArray) : bytesOf (a ++ b) = bytesOf a ++ bytesOf b := by
  rw [bA, bA, bA, ← List.map_append]
  congr 1
theorem J5 (w s : ByteArray) (hw : w.size ≤ 1000000) (hs : s.size ≤ 100000) : ∃ P, PackOk w s P := by
  have ht := eh w
  have hT : (aQ w ++ s).size = (aQ w).size + s.size := ByteArray.size_append
  obtain ⟨M, A, e1, e2⟩ := Gj (aQ w ++ s) (aQ w) (by omega) (aQ w).size (by omega) (aQ w).size 0 200000 [] [] (by omega) (by omega) ⟨rfl, fun e he => (by cases he), fun i hi => by omega⟩
  have hb := ue (aQ w) s
  have hbl := c8 (aQ w)
  have hbl2 := c8 (aQ w ++ s)
  have ht1 : (bytesOf (aQ w ++ s)).take (aQ w).size = bytesOf (aQ w) := by rw [hb, ← hbl, List.take_left]
  obtain ⟨P, g1, g2, g3, g4, g5⟩ := J6 (aQ w ++ s) (by omega) (aQ w).size s.size (aQ w).size 200000 [] M A (by omega) (by omega) (Nat.le_refl _) (by omega) e2 ⟨rfl, by rw [Nat.sub_self]; rfl, Nat.zero_le _, rfl⟩
  refine ⟨P, ?_, g2, by omega, by omega, ?_⟩
  · rw [show ((0 : Nat) : Int) = 0 from rfl] at e1
    simp only [Oz, ae]
    rw [fi _ w hw, Option.bind_some, aV (by omega), e1, Option.bind_some]
    simp only
    rw [g1, Option.bind_some]
  · rw [ht1] at g5
    rw [g5, ← hb, List.take_of_length_le (by omega)]
theorem extract_all (s : ByteArray) : s.extract 0 s.size = s := ByteArray.extract_zero_size
theorem A5 (s : ByteArray) (hs : s.size ≤ 65535) (last : Bool) (m : List Bool) (hm : m.length ≤ 100000000) :
    RP 200000 (s, last, aJ m, nF m, bF m) = some (aJ (cm m s last), nF (cm m s last), bF (cm m s last)) := by
  have hp : (if (65535 : Int) < (s.size : Int) then (65535 : Int) else (s.size : Int)) = (s.size : Int) := if_neg (by omega)
  have hb2 : ((s.size : Int) == (s.size : Int)) = true := beq_self_eq_true _
  have hl : decide ((0 : Int) ≤ (s.size : Int) ∧ (s.size : Int) ≤ (s.size : Int)) = true := by rw [decide_eq_true_eq]; omega
  have hx := HN hs
  have he : (ByteArray.toList (ByteArray.extract s s.size s.size) == []) = true := by
    rw [jl, ByteArray.size_extract, decide_eq_true_eq]; omega
  obtain ⟨y1, y2, y3, a1, a2, a3, y4, a4, a5⟩ := Ee s hs last m hm
  have h2 : vR 200000 200000 (s, last, aJ m, nF m, bF m) = some (aJ (cm m s last), nF (cm m s last), bF (cm m s last)) := by
    show HI 200000 (vR 200000 199999) (s, last, aJ m, nF m, bF m) = _
    simp only [HI, ae, hp, hx, hb2, hl, he, if_true, Int.toNat_natCast, extract_all]
    cases last with
    | true =>
      simp only [if_true]
      rw [a1, Option.bind_some, a2, Option.bind_some, a3, Option.bind_some, a4, Option.bind_some, a5, Option.bind_some]
    | false =>
      simp only [Bool.false_eq_true, if_false]
      rw [a1, Option.bind_some, a2, Option.bind_some, a3, Option.bind_some, a4, Option.bind_some, a5, Option.bind_some]
  simp only [RP]
  rw [h2, Option.bind_some]
def aX (a : List Bool) (s : ByteArray) (b : Bool) : List Bool :=
  [b, false, false] ++ (List.replicate (jz (a ++ [b, false, false])) false ++ (aG 16 (s.size : Int) ++ (aG 16 ((65535 - s.size : Nat) : Int) ++ aM s)))
theorem gp (a : List Bool) (s : ByteArray) (b : Bool) : cm a s b = a ++ aX a s b := by
  unfold cm aX bD
  simp only [List.append_assoc]
theorem GP (m : List Bool) : jz m < 8 := by unfold jz; omega
theorem dF (a : List Bool) (s : ByteArray) (b : Bool) : (aX a s b).length = 35 + jz (a ++ [b, false, false]) + 8 * s.size := by
  have p16 : ∀ v, (aG 16 v).length = 16 := fun v => by rw [am]; rfl
  have := aA s
  unfold aX
  simp only [List.length_append, List.length_replicate, p16, List.length_cons, List.length_nil]
  omega
theorem sL (s : ByteArray) : er (aM s) = s := by
  have h1 := aA s
  have hs : s.data.toList.length = s.size := by simp
  have h2 : nq (aM s) = s.data.toList.map fun x => (x.toNat : Int) := by
    unfold nq
    rw [show ((aM s).length + 7) / 8 = s.data.toList.length by omega]
    exact eM _
  have h3 : ∀ l : List UInt8, (l.map fun x => (x.toNat : Int)).map (fun n => UInt8.ofNat n.toNat) = l := by
    intro l
    rw [List.map_map]
    conv => rhs; rw [← List.map_id l]
    apply List.map_congr_left
    intro x _
    show UInt8.ofNat ((x.toNat : Int).toNat) = x
    rw [Int.toNat_natCast]
    exact UInt8.ofNat_toNat
  unfold er aN
  rw [h2, h3]
theorem kv (s : ByteArray) : aN (bytesOf s) = s := by
  have := sL s
  have h1 := aA s
  have hs : s.data.toList.length = s.size := by simp
  unfold er at this
  have h2 : nq (aM s) = bytesOf s := by
    rw [bA]
    unfold nq
    rw [show ((aM s).length + 7) / 8 = s.data.toList.length by omega]
    exact eM _
  rwa [h2] at this
theorem D2 {n : Nat} (h : n ≤ 65535) : IntKind.wrap .i64 ((BitVec.toNat (BitVec.ofInt 64 (n : Int) ^^^ BitVec.ofInt 64 ((65535 - n : Nat) : Int)) : Nat) : Int) = 65535 := by
  have hx : n ^^^ 65535 = 65535 - n := by
    have h2 : (65535 : Nat) = 2 ^ 16 - 1 := rfl
    apply Nat.eq_of_testBit_eq
    intro i
    rw [Nat.testBit_xor, h2, Nat.testBit_two_pow_sub_one, show 2 ^ 16 - 1 - n = 2 ^ 16 - (n + 1) by omega, Nat.testBit_two_pow_sub_succ (by omega)]
    by_cases hi : i < 16
    · simp [hi]
    · have : n.testBit i = false := Nat.testBit_lt_two_pow (Nat.lt_of_lt_of_le (show n < 2 ^ 16 by omega) (Nat.pow_le_pow_right (by decide) (by omega)))
      simp [hi, this]
  rw [BitVec.ofInt_natCast, BitVec.ofInt_natCast, BitVec.toNat_xor, BitVec.toNat_ofNat, BitVec.toNat_ofNat, Nat.mod_eq_of_lt (by omega), Nat.mod_eq_of_lt (by omega), ← hx, ← Nat.xor_assoc, Nat.xor_self, Nat.zero_xor, wrap_i64 (by omega) (by omega)]
  rfl
def O0 (s : ByteArray) : Nat := 8 * s.size + 40 * (1 + s.size / 65535)
noncomputable def dR (l : List Tok) (s : ByteArray) (last : Bool) : List Bool :=
  if (bc l true last).length < (bc l false last).length then (if (bc l true last).length < O0 s then bc l true last else aX [] s last)
  else (if (bc l false last).length < O0 s then bc l false last else aX [] s last)
theorem uj (l : List Tok) (s : ByteArray) (last : Bool) : (∃ own, dR l s last = bc l own last ∧ (bc l own last).length < O0 s) ∨ dR l s last = aX [] s last := by
  unfold dR
  split
  · split
    · exact .inl ⟨true, rfl, by assumption⟩
    · exact .inr rfl
  · split
    · exact .inl ⟨false, rfl, by assumption⟩
    · exact .inr rfl
theorem CW (l : List Tok) (s : ByteArray) (hs : s.size < 65535) (last : Bool) : (dR l s last).length ≤ 8 * s.size + 40 := by
  have hst : (aX [] s last).length = 40 + 8 * s.size := by
    rw [dF]
    have : jz ([] ++ [last, false, false]) = 5 := rfl
    omega
  have hs0 : O0 s = 8 * s.size + 40 := by unfold O0; omega
  rcases uj l s last with ⟨own, e, h⟩ | e
  · rw [e]; omega
  · rw [e]; omega
theorem Oy {l : List Tok} (hl : l.length ≤ 10000) (hv : az l = true) (s : ByteArray) (hs : s.size < 65535) (last : Bool) :
    rR 200000 (l, s, last, 0, 0, []) = some (aJ (dR l s last), nF (dR l s last), bF (dR l s last)) := by
  have c1 := yo hl hv false last [] (by decide)
  have c2 := yo hl hv true last [] (by decide)
  rw [List.nil_append, show aJ [] = 0 from rfl, show nF [] = 0 from rfl, show bF [] = [] from rfl] at c1 c2
  have n1 := uc hl hv false last
  have n2 := uc hl hv true last
  have hst := A5 s (by omega) last [] (by decide)
  rw [gp, List.nil_append, show aJ [] = 0 from rfl, show nF [] = 0 from rfl, show bF [] = [] from rfl] at hst
  have w1 : IntKind.wrap .i64 ((8 : Int) * (s.size : Int)) = ((8 * s.size : Nat) : Int) := by rw [wrap_i64 (by omega) (by omega)]; omega
  have w2 : IntKind.wrap .i64 (Int.tdiv (s.size : Int) 65535) = ((s.size / 65535 : Nat) : Int) := by rw [Int.tdiv_eq_ediv_of_nonneg (by omega), wrap_i64 (by omega) (by omega)]; omega
  have w3 : IntKind.wrap .i64 ((1 : Int) + ((s.size / 65535 : Nat) : Int)) = ((1 + s.size / 65535 : Nat) : Int) := by rw [wrap_i64 (by omega) (by omega)]; omega
  have w4 : IntKind.wrap .i64 ((40 : Int) * ((1 + s.size / 65535 : Nat) : Int)) = ((40 * (1 + s.size / 65535) : Nat) : Int) := by rw [wrap_i64 (by omega) (by omega)]; omega
  have w5 : IntKind.wrap .i64 (((8 * s.size : Nat) : Int) + ((40 * (1 + s.size / 65535) : Nat) : Int)) = ((O0 s : Nat) : Int) := by rw [wrap_i64 (by omega) (by omega)]; unfold O0; omega
  simp only [rR, ae]
  rw [c1, Option.bind_some]
  simp only
  rw [HE _ _ (by omega), Option.bind_some, c2, Option.bind_some]
  simp only
  rw [HE _ _ (by omega), Option.bind_some, w1, w2, w3, w4, w5]
  unfold dR
  by_cases h1 : (bc l true last).length < (bc l false last).length
  · rw [aY (by omega), if_pos h1]
    by_cases h2 : (bc l true last).length < O0 s
    · rw [aY (by omega), if_pos h2]; rfl
    · rw [aV (by omega), if_neg h2, hst]; rfl
  · rw [aV (by omega), if_neg h1]
    by_cases h2 : (bc l false last).length < O0 s
    · rw [aY (by omega), if_pos h2]; rfl
    · rw [aV (by omega), if_neg h2, hst]; rfl
theorem QO (P : List Tok) (hP : P.length ≤ 10000) (hv : az P = true) (x3 : Bool) (x4 : ByteArray) (x5 x7 x8 : Int) (x10 : List Int) : ∀ (d i f : Nat), i + d = P.length → d < f →
    cH 200000 f (((made (P.take i) : Nat) : Int), (i : Int), (P.length : Int), x3, x4, x5, P.length, x7, x8, P, x10) = some (x5, x4, ((made P : Nat) : Int), x3, x7, x8, P, x10) := by
  intro d
  induction d with
  | zero =>
    intro i f hi hf
    cases f with
    | zero => omega
    | succ f =>
      simp only [cH, pf, ae]
      rw [aV (by omega), List.take_of_length_le (by omega)]
  | succ d ih =>
    intro i f hi hf
    cases f with
    | zero => omega
    | succ f =>
      have hil : i < P.length := by omega
      have hva := eT hv hil
      have hw : IntKind.wrap .i64 ((i : Int) + 1) = ((i + 1 : Nat) : Int) := by rw [wrap_i64 (by omega) (by omega)]; omega
      have hm : (if (1 : Int) > P[i].2.1 then (1 : Int) else P[i].2.1) = ((cC P[i] : Nat) : Int) := by
        unfold cC
        rcases cd hva with ⟨e, _⟩ | ⟨e, a, _⟩
        · rw [if_pos e, if_pos (by omega)]; rfl
        · rw [if_neg e, if_neg (by omega)]; omega
      have hvt : az (P.take i) = true := by
        unfold az at hv ⊢
        rw [List.all_eq_true] at hv ⊢
        exact fun t ht => hv t (List.mem_of_mem_take ht)
      have hle := G3 hvt
      have htl : (P.take i).length = i := by rw [List.length_take]; omega
      have hmt := oC hva
      have hs : made (P.take (i + 1)) = made (P.take i) + cC P[i] := by
        rw [List.take_add_one, List.getElem?_eq_getElem hil, kN]
        congr 1
      have hw2 : IntKind.wrap .i64 (((made (P.take i) : Nat) : Int) + ((cC P[i] : Nat) : Int)) = ((made (P.take (i + 1)) : Nat) : Int) := by rw [hs, wrap_i64 (by omega) (by omega)]; omega
      simp only [cH, pf, ae]
      rw [aY (by omega), if_pos (ay hil), Int.toNat_natCast, Nat.zero_add, List.getElem?_eq_getElem hil, Option.bind_some, hm, hw, hw2, ih (i + 1) f (by omega) (by omega)]
      rfl
theorem FR {w s : ByteArray} {P : List Tok} (hP : PackOk w s P) (hs : s.size ≤ 8000) (last : Bool) :
    UP 200000 (w, s, last, 0, 0, []) = some (aJ (dR P s last), nF (dR P s last), bF (dR P s last)) := by
  obtain ⟨p1, p2, p3, p4, p5⟩ := hP
  have hput := Oy (show P.length ≤ 10000 by omega) p2 s (by omega) last
  have hsum := QO P (by omega) p2 last s (P.length : Int) 0 0 [] P.length 0 200000 (by omega) (by omega)
  rw [List.take_zero, show ((made [] : Nat) : Int) = 0 from rfl, show ((0 : Nat) : Int) = 0 from rfl] at hsum
  have hn : (if (8192 : Int) < (P.length : Int) then (8192 : Int) else (P.length : Int)) = (P.length : Int) := if_neg (by omega)
  have hex : ByteArray.extract s 0 (Int.toNat ((made P : Nat) : Int)) = s := by rw [Int.toNat_natCast, p3, extract_all]
  have htk : List.take (Int.toNat (P.length : Int) - 0) (List.drop 0 P) = P := by rw [Int.toNat_natCast, Nat.sub_zero, List.drop_zero, List.take_length]
  have hbe : ((P.length : Int) == (P.length : Int)) = true := beq_self_eq_true _
  have h14 : A3 200000 200000 (true, last, s, 0, 0, P, []) = some (aJ (dR P s last), nF (dR P s last), bF (dR P s last)) := by
    show Be 200000 (d5 200000 (199999 + 1)) (true, last, s, 0, 0, P, []) = _
    simp only [Be, ae, hn, Int.toNat_natCast, Nat.sub_zero]
    rw [if_pos trivial, aY (by omega), hsum, Option.bind_some]
    simp only
    rw [aY (by omega), aY (by omega)]
    rw [Int.toNat_natCast, List.drop_zero, List.take_length, p3, Int.toNat_natCast, extract_all, hbe]
    have hend : ∀ (q : ByteArray) (x y : Int) (z : List Int), d5 200000 (199999 + 1) (false, last, q, P.length, P.length - P.length, x, y, P, z) = some (x, y, z) := by
      intro q x y z
      show pg 200000 (d5 200000 199999) _ = _
      generalize d5 200000 199999 = G
      simp only [pg, ae]
      rw [if_neg (by simp), if_neg (by simp)]
    cases last with
    | true =>
      rw [if_pos rfl, hput, Option.bind_some, aY (by omega), aY (by omega), hend]
      rfl
    | false =>
      rw [if_neg (by simp), hput, Option.bind_some, aY (by omega), aY (by omega), hend]
      rfl
  simp only [UP]
  rw [p1, Option.bind_some, h14, Option.bind_some]
theorem Hi (w : ByteArray) : w ++ ByteArray.mk #[] = w := by
  apply ByteArray.ext
  simp
theorem GX (w : ByteArray) : ByteArray.mk #[] ++ w = w := by
  apply ByteArray.ext
  simp
theorem Pr {w s : ByteArray} {P : List Tok} (hP : PackOk w s P) : rN w P = (s, 0) := by
  unfold rN
  rw [hP.exp]
  simp only
  rw [← c8 (aQ w), List.drop_left, kv]
theorem Cd {a : List Bool} (ha : a.length % 8 = 0) (x : List Bool) : jz (a ++ x) = jz x := by
  unfold jz
  rw [List.length_append]
  omega
theorem qX {a : List Bool} (ha : a.length % 8 = 0) (s : ByteArray) (b : Bool) : aX a s b = aX [] s b := by
  unfold aX
  rw [Cd ha, List.nil_append]
noncomputable def ef (s : ByteArray) (P : List Tok) : List Bool :=
  if s.size = 0 then aX [] (ByteArray.mk #[]) false else dR P s false ++ aX (dR P s false) (ByteArray.mk #[]) false
theorem oa (s : ByteArray) (P : List Tok) (hs : s.size < 65535) : (ef s P).length ≤ 8 * s.size + 82 ∧ (ef s P).length % 8 = 0 := by
  have hb := CW P s hs false
  have e0 : (ByteArray.mk #[]).size = 0 := rfl
  unfold ef
  split
  · have h1 := (sM [] (ByteArray.mk #[]) false).2
    have h2 := dF [] (ByteArray.mk #[]) false
    have h3 := GP ([] ++ [false, false, false])
    rw [gp, List.nil_append] at h1
    omega
  · have h1 := (sM (dR P s false) (ByteArray.mk #[]) false).2
    have h2 := dF (dR P s false) (ByteArray.mk #[]) false
    have h3 := GP (dR P s false ++ [false, false, false])
    rw [gp] at h1
    rw [List.length_append] at h1 ⊢
    omega
theorem Dc {w s : ByteArray} {P : List Tok} (hP : PackOk w s P) (hs : s.size ≤ 8000) : Xw 200000 (w, s) = some (er (ef s P)) := by
  have hb := CW P s (by omega) false
  have hl := oa s P (by omega)
  simp only [Xw, ae]
  rw [jl]
  by_cases h0 : s.size = 0
  · have hst := A5 (ByteArray.mk #[]) (by decide) false [] (by decide)
    rw [gp, List.nil_append, show aJ [] = 0 from rfl, show nF [] = 0 from rfl, show bF [] = [] from rfl] at hst
    have e : ef s P = aX [] (ByteArray.mk #[]) false := by unfold ef; rw [if_pos h0]
    rw [e] at hl ⊢
    rw [if_neg (by simp [h0]), hst, Option.bind_some]
    simp only
    rw [vO _ _ (by omega), Option.bind_some]
  · have hst := A5 (ByteArray.mk #[]) (by decide) false (dR P s false) (by omega)
    rw [gp] at hst
    have e : ef s P = dR P s false ++ aX (dR P s false) (ByteArray.mk #[]) false := by unfold ef; rw [if_neg h0]
    rw [e] at hl ⊢
    rw [if_pos (by simp [h0]), FR hP hs, Option.bind_some]
    simp only
    rw [hst, Option.bind_some]
    simp only
    rw [vO _ _ (by omega), Option.bind_some]
theorem CG {s : ByteArray} {i : Nat} (h : i < s.size) : s.extract i (i + 1) = ⟨⟨[s.data.toList.getD i 0]⟩⟩ := by
  have hs : s.data.toList.length = s.size := by simp
  apply ByteArray.ext
  apply Array.ext'
  have e : (s.extract i (i + 1)).data.toList = (s.data.toList.drop i).take 1 := by
    rw [ByteArray.data_extract, Array.toList_extract, List.extract_eq_take_drop, show i + 1 - i = 1 by omega]
  rw [e, List.drop_eq_getElem_cons (by omega), List.take_succ_cons, List.take_zero, List.getD, List.getElem?_eq_getElem (by omega)]
  rfl
theorem Ox (N : Nat) (x : UInt8) : A8 (N + 1) ⟨⟨[x]⟩⟩ = some ⟨⟨[x]⟩⟩ := by
  have hb : bytesOf ⟨⟨[x]⟩⟩ = [(x.toNat : Int)] := by rw [bA]; rfl
  have h6 : jR (N + 1) (N + 1) (0, 0, 0, 1, [(x.toNat : Int)]) = some [(x.toNat : Int)] := by
    show qP (N + 1) (jR (N + 1) N) _ = _
    simp only [qP, ae]
    rw [if_neg (by decide)]
  simp only [A8, Om, ae]
  rw [if_pos (by rfl), hb]
  simp only [List.length_singleton]
  rw [show IntKind.wrap .i64 (((1 : Nat) : Int) - 1) = 0 from rfl, h6, Option.bind_some, Option.bind_some, ← hb, kv]
theorem J4 (N : Nat) : A8 (N + 1) (ByteArray.mk #[]) = some (ByteArray.mk #[]) := by
  have hb : bytesOf (ByteArray.mk #[]) = [] := by rw [bA]; rfl
  have h6 : jR (N + 1) (N + 1) (0, -1, 0, 0, []) = some [] := by
    show qP (N + 1) (jR (N + 1) N) _ = _
    simp only [qP, ae]
    rw [if_neg (by decide)]
  simp only [A8, Om, ae]
  rw [if_pos (by rfl), hb]
  simp only [List.length_nil]
  rw [show IntKind.wrap .i64 (((0 : Nat) : Int) - 1) = -1 from rfl, h6, Option.bind_some, Option.bind_some]
  rfl
theorem O8 {x : Nat} (h : x < 256) : IntKind.wrap .i64 ((BitVec.toNat (BitVec.ofInt 64 (0 : Int) ||| BitVec.ofInt 64 (IntKind.wrap .i64 (IntKind.wrap .i64 (x : Int) * (2 : Int) ^ min (Int.toNat 0) 64))) : Nat) : Int) = (x : Int) := by
  have e : IntKind.wrap .i64 (IntKind.wrap .i64 (x : Int) * (2 : Int) ^ min (Int.toNat 0) 64) = (x : Int) := by
    rw [wrap_i64 (z := (x : Int)) (by omega) (by omega)]
    show IntKind.wrap .i64 ((x : Int) * 1) = _
    rw [Int.mul_one, wrap_i64 (by omega) (by omega)]
  rw [e, BitVec.ofInt_natCast]
  have : BitVec.ofInt 64 (0 : Int) = 0#64 := rfl
  rw [this, BitVec.zero_or, BitVec.toNat_ofNat, Nat.mod_eq_of_lt (by omega), wrap_i64 (by omega) (by omega)]
theorem vJ (s : ByteArray) (hs : s.size ≤ 9223372036854775807) {i : Nat} (h : i < s.size) : QN 200000 (1, s, (i : Int), 0) = some (bb s i, s, ((i + 1 : Nat) : Int), 0) := by
  have w1 : IntKind.wrap .i64 ((s.size : Int) - (i : Int)) = ((s.size - i : Nat) : Int) := by rw [wrap_i64 (by omega) (by omega)]; omega
  have w2 : IntKind.wrap .i64 ((i : Int) + 1) = ((i + 1 : Nat) : Int) := by rw [wrap_i64 (by omega) (by omega)]; omega
  have w3 : IntKind.wrap .i64 (((i + 1 : Nat) : Int) - 1) = (i : Int) := by rw [wrap_i64 (by omega) (by omega)]; omega
  have h143 : Do 200000 (1, s, (i : Int), 0) = some (⟨⟨[s.data.toList.getD i 0]⟩⟩, s, ((i + 1 : Nat) : Int), 0) := by
    simp only [Do, Oc, ae]
    rw [if_neg (by decide), Option.bind_some, w1, aV (by omega), if_neg (by decide), w2, w3, aY (by omega), if_pos (by simp only [decide_eq_true_eq, Int.toNat_natCast]; omega), Int.toNat_natCast, Int.toNat_natCast, CG h]
  have hx := (s.data.toList.getD i 0).toNat_lt
  have hb : bytesOf ⟨⟨[s.data.toList.getD i 0]⟩⟩ = [bb s i] := by rw [bA]; rfl
  have hloop : bz 200000 200000 (0, 0, 1, s, ((i + 1 : Nat) : Int), 0, [bb s i]) = some (bb s i, s, ((i + 1 : Nat) : Int), 0) := by
    show dP 200000 (bz 200000 (199998 + 1)) _ = _
    have hend : ∀ z, bz 200000 (199998 + 1) (z, 1, 1, s, ((i + 1 : Nat) : Int), 0, [bb s i]) = some (z, s, ((i + 1 : Nat) : Int), 0) := by
      intro z
      show dP 200000 (bz 200000 199998) _ = _
      generalize bz 200000 199998 = G
      simp only [dP, ae]
      rw [if_neg (by simp)]
    have hwi : within (0 : Int) [bb s i].length = true := ay (i := 0) (by simp)
    simp only [dP, ae]
    rw [if_pos (by decide), if_pos hwi]
    show Option.bind (some (bb s i)) _ = _
    rw [Option.bind_some, show IntKind.wrap .i64 ((8 : Int) * 0) = 0 from rfl, if_neg (by decide)]
    have := O8 (x := (s.data.toList.getD i 0).toNat) (by omega)
    have e : bb s i = (((s.data.toList.getD i 0).toNat : Nat) : Int) := rfl
    rw [e, this, show IntKind.wrap .i64 ((0 : Int) + 1) = 1 from rfl, ← e, hend]
    rfl
  simp only [QN, Du, JW, ae]
  rw [if_pos (by decide), Option.bind_some, if_neg (by decide), h143, Option.bind_some]
  simp only
  rw [Ox 199999, Option.bind_some, if_pos (by rfl), hb]
  simp only [List.length_singleton]
  rw [show ((1 : Nat) : Int) = 1 from rfl, hloop, Option.bind_some, Option.bind_some]
theorem vI (s : ByteArray) (hs : s.size ≤ 9223372036854775807) (i : Nat) (e : Int) (h : e ≠ 0 ∨ (i = s.size)) (hi : i ≤ s.size) : QN 200000 (1, s, (i : Int), e) = some (0, s, (i : Int), if e = 0 then 2 else e) := by
  have w1 : IntKind.wrap .i64 ((s.size : Int) - (i : Int)) = ((s.size - i : Nat) : Int) := by rw [wrap_i64 (by omega) (by omega)]; omega
  have h143 : Do 200000 (1, s, (i : Int), e) = some (ByteArray.mk #[], s, (i : Int), if e = 0 then 2 else e) := by
    simp only [Do, Oc, JV, ae]
    rw [if_neg (by decide), Option.bind_some, w1]
    by_cases he : e = 0
    · subst he
      rw [aY (by omega), if_pos (by rfl), Option.bind_some]
      simp only
      rw [if_pos (by rfl)]
      rfl
    · by_cases h1 : (1 : Int) > ((s.size - i : Nat) : Int)
      · rw [if_pos (by simpa using h1), if_neg (by simpa using he), Option.bind_some]
        simp only
        rw [if_pos (by simpa using he), if_neg he]
      · rw [if_neg (by simpa using h1), if_pos (by simpa using he), if_neg he]
  have hb : bytesOf (ByteArray.mk #[]) = [] := by rw [bA]; rfl
  have hloop : ∀ z, bz 200000 200000 (0, 0, 0, s, (i : Int), z, []) = some (0, s, (i : Int), z) := by
    intro z
    show dP 200000 (bz 200000 199999) _ = _
    generalize bz 200000 199999 = G
    simp only [dP, ae]
    rw [if_neg (by simp)]
  simp only [QN, Du, JW, ae]
  rw [if_pos (by decide), Option.bind_some, if_neg (by decide), h143, Option.bind_some]
  simp only
  rw [J4 199999, Option.bind_some, if_pos (by rfl), hb]
  simp only [List.length_nil]
  rw [show ((0 : Nat) : Int) = 0 from rfl, hloop, Option.bind_some, Option.bind_some]
theorem Wu : ∀ a : Nat, a < 256 → (IntKind.wrap .i64 ((BitVec.toNat (BitVec.ofInt 64 (a : Int) &&& BitVec.ofInt 64 15) : Nat) : Int) != 8) = (Int.tmod (a : Int) 16 != 8) := by decide +kernel
theorem XN : ∀ a : Nat, a < 256 → decide (Int.fdiv (a : Int) 16 > 7) = decide (IntKind.wrap .i64 (Int.tdiv (a : Int) 16) > 7) := by decide +kernel
theorem Wt : ∀ a : Nat, a < 256 → (IntKind.wrap .i64 ((BitVec.toNat (BitVec.ofInt 64 (a : Int) &&& BitVec.ofInt 64 32) : Nat) : Int) != 0) = (Int.tmod (IntKind.wrap .i64 (Int.tdiv (a : Int) 32)) 2 == 1) := by decide +kernel
theorem Tc {a b : Nat} (ha : a < 256) (hb : b < 256) : IntKind.wrap .i64 ((BitVec.toNat (BitVec.ofInt 64 (IntKind.wrap .i64 ((a : Int) * 256)) ||| BitVec.ofInt 64 (b : Int)) : Nat) : Int) = IntKind.wrap .i64 (IntKind.wrap .i64 ((a : Int) * 256) + (b : Int)) := by
  have h := LK (A := b) (B := a) (i := 8) (j := 8) (by omega) (by omega) (by decide)
  have e : ((a : Int) * 2 ^ min (Int.toNat ((8 : Nat) : Int)) 64) = (a : Int) * 256 := rfl
  rw [e] at h
  rw [BitVec.or_comm, h, wrap_i64 (z := (a : Int) * 256) (by omega) (by omega), wrap_i64 (by omega) (by omega)]
  omega
theorem vN (s : ByteArray) (hs : s.size ≤ 9223372036854775807) : ∃ e, FU 200000 s = some e ∧ RJ 200000 s = some e := by
  by_cases h2 : s.size < 2
  · refine ⟨2, ?_, ?_⟩
    · simp only [FU, Un, QM, ae]
      rw [Option.bind_some]
      by_cases h0 : s.size = 0
      · have e1 := vI s hs 0 0 (.inr (by omega)) (by omega)
        rw [if_pos rfl, show ((0 : Nat) : Int) = 0 from rfl] at e1
        have e2 := vI s hs 0 2 (.inl (by decide)) (by omega)
        rw [if_neg (by decide), show ((0 : Nat) : Int) = 0 from rfl] at e2
        rw [e1, Option.bind_some]
        simp only
        rw [e2, Option.bind_some]
        rfl
      · have e1 := vJ s hs (i := 0) (by omega)
        rw [show ((0 : Nat) : Int) = 0 from rfl] at e1
        have e2 := vI s hs 1 0 (.inr (by omega)) (by omega)
        rw [if_pos rfl] at e2
        rw [e1, Option.bind_some]
        simp only
        rw [e2, Option.bind_some]
        rfl
    · simp only [RJ, ae]
      rw [aY (by omega)]
  · have e1 := vJ s hs (i := 0) (by omega)
    rw [show ((0 : Nat) : Int) = 0 from rfl] at e1
    have e2 := vJ s hs (i := 1) (by omega)
    have ha : (s.data.toList.getD 0 0).toNat < 256 := (s.data.toList.getD 0 0).toNat_lt
    have hb : (s.data.toList.getD 1 0).toNat < 256 := (s.data.toList.getD 1 0).toNat_lt
    have ea : bb s 0 = (((s.data.toList.getD 0 0).toNat : Nat) : Int) := rfl
    have eb : bb s 1 = (((s.data.toList.getD 1 0).toNat : Nat) : Int) := rfl
    have g0 : s[0]? = some (s.data.toList.getD 0 0) := CU (by omega)
    have g1 : s[1]? = some (s.data.toList.getD 1 0) := CU (by omega)
    have c1 := Wu _ ha
    have c2 := XN _ ha
    have c3 := Wt _ hb
    have c4 := Tc ha hb
    have w1 : IntKind.wrap .i64 (((s.data.toList.getD 0 0).toNat : Nat) : Int) = (((s.data.toList.getD 0 0).toNat : Nat) : Int) := wrap_i64 (by omega) (by omega)
    have w2 : IntKind.wrap .i64 (((s.data.toList.getD 1 0).toNat : Nat) : Int) = (((s.data.toList.getD 1 0).toNat : Nat) : Int) := wrap_i64 (by omega) (by omega)
    have h36 : RJ 200000 s = FU 200000 s := by
      simp only [FU, RJ, Un, QM, ae]
      rw [aV (by omega), g0, Option.bind_some, g1, Option.bind_some, Option.bind_some, e1, Option.bind_some]
      simp only
      rw [show ((0 + 1 : Nat) : Int) = ((1 : Nat) : Int) from rfl, e2, Option.bind_some]
      simp only
      rw [Option.bind_some, ea, eb, w1, w2, c1, c2, c3, c4]
      simp
    have h35 : ∃ e, FU 200000 s = some e := by
      simp only [FU, Un, QM, ae]
      rw [Option.bind_some, e1, Option.bind_some]
      simp only
      rw [show ((0 + 1 : Nat) : Int) = ((1 : Nat) : Int) from rfl, e2, Option.bind_some]
      simp only
      rw [Option.bind_some]
      split
      · exact ⟨_, rfl⟩
      · split
        · exact ⟨_, rfl⟩
        · split
          · exact ⟨_, rfl⟩
          · split
            · exact ⟨_, rfl⟩
            · split <;> exact ⟨_, rfl⟩
    obtain ⟨e, he⟩ := h35
    exact ⟨e, he, h36.trans he⟩
theorem extract_data (s : ByteArray) (n : Nat) : (s.extract n s.size).data.toList = s.data.toList.drop n := by
  have hsl : s.data.toList.length = s.size := by simp
  rw [ByteArray.data_extract, Array.toList_extract, List.extract_eq_take_drop, List.take_of_length_le (by rw [List.length_drop]; omega)]
theorem Tv {a b : ByteArray} (h : a.data.toList = b.data.toList) : a = b := by
  apply ByteArray.ext
  apply Array.ext'
  exact h
theorem ul (a b : ByteArray) : (a ++ b).data.toList = a.data.toList ++ b.data.toList := by
  rw [ByteArray.data_append, Array.toList_append]
def D1 : ByteArray := ByteArray.mk #[120, 156]
theorem tQ : D1.data.toList = [120, 156] := rfl
theorem Mh : D1.size = 2 := rfl
theorem Po (X : ByteArray) : (D1 ++ X).extract 2 (D1 ++ X).size = X := by
  apply Tv
  rw [extract_data, ul, tQ]
  rfl
theorem Tj (X : ByteArray) : RJ 200000 (D1 ++ X) = some 0 := by
  have hs : (D1 ++ X).size = 2 + X.size := ByteArray.size_append
  have h0 : (D1 ++ X)[0]? = some 120 := by rw [byte_at _ _ (by omega), ul, tQ]; rfl
  have h1 : (D1 ++ X)[1]? = some 156 := by rw [byte_at _ _ (by omega), ul, tQ]; rfl
  simp only [RJ, ae]
  rw [aV (by omega), h0, Option.bind_some, h1, Option.bind_some]
  rfl
theorem D5 {w : ByteArray} (h : w.size ≤ 32768) : aQ w = w := by unfold aQ; rw [if_neg (by omega)]
theorem Db {w s : ByteArray} {P : List Tok} (hP : PackOk w s P) (hw : w.size ≤ 20000) (hs : s.size ≤ 8000) (b : Bool) :
    QX 200000 (s, b, w) = some (if b = true then er (ef s P) else D1 ++ er (ef s P), true, w ++ s) := by
  have hl := oa s P (by omega)
  have hz := lV (ef s P)
  have hsz : (w ++ s).size = w.size + s.size := ByteArray.size_append
  have ht := D5 (w := w ++ s) (by omega)
  simp only [QX, ae]
  rw [Dc hP hs, Option.bind_some]
  cases b with
  | true =>
    rw [if_neg (by decide), aV (by omega), fi _ _ (by omega), Option.bind_some, ht]
    rfl
  | false =>
    rw [if_pos (show (!false) = true from rfl), aV (by omega), aV (by omega), fi _ _ (by omega), Option.bind_some, ht]
    rfl
set_option maxRecDepth 100000
theorem J3 (N : Nat) (s : ByteArray) (p : Nat) (n3 err : Int) (hs : s.size ≤ 1000000000) {k : Nat} (hk : k ≤ 32) (hp : p + k ≤ 8 * s.size) : ∀ (d i f : Nat), i + d = k → d < f →
    fw N f ((val (fE s p i) : Int), (i : Int), (k : Int), n3, s, (p : Int), err) = some (n3, (val (fE s p k) : Int), s, (p : Int), err) := by
  intro d
  induction d with
  | zero =>
    intro i f hi hf
    cases f with
    | zero => omega
    | succ f =>
      simp only [fw, pw, ae]
      rw [if_neg (by simp; omega), show i = k by omega]
  | succ d ih =>
    intro i f hi hf
    cases f with
    | zero => omega
    | succ f =>
      simp only [fw, pw, ae]
      have e0 : IntKind.wrap .i64 ((p : Int) + (i : Int)) = ((p + i : Nat) : Int) := by
        rw [wrap_i64 (by omega) (by omega)]; omega
      have e1 : Int.tdiv ((p + i : Nat) : Int) 8 = (((p + i) / 8 : Nat) : Int) := by
        rw [Int.tdiv_eq_ediv_of_nonneg (by omega)]; omega
      have e2 : IntKind.wrap .i64 ((((p + i) / 8 : Nat)) : Int) = (((p + i) / 8 : Nat) : Int) := wrap_i64 (by omega) (by omega)
      have e3 : Int.tmod ((p + i : Nat) : Int) 8 = (((p + i) % 8 : Nat) : Int) := by
        rw [Int.tmod_eq_emod_of_nonneg (by omega)]; omega
      rw [if_pos (by simp; omega)]
      simp only [e0, e1, e2, e3, Int.toNat_natCast]
      rw [aY (by omega), byte_at s _ (by omega), Option.bind_some, if_neg (by simp; omega), if_neg (by simp)]
      have hy := (s.data.toList.getD ((p + i) / 8) 0).toNat_lt
      have e4 : IntKind.wrap .i64 (((s.data.toList.getD ((p + i) / 8) 0).toNat : Nat) : Int) = (((s.data.toList.getD ((p + i) / 8) 0).toNat : Nat) : Int) := wrap_i64 (by omega) (by omega)
      have e5 : min ((p + i) % 8) 64 = (p + i) % 8 := by omega
      have e6 : (Int.fdiv (((s.data.toList.getD ((p + i) / 8) 0).toNat : Nat) : Int) (2 ^ ((p + i) % 8))) % 2 = (((ww s (p + i)).toNat : Nat) : Int) := by
        rw [Int.fdiv_eq_ediv_of_nonneg _ (Int.pow_nonneg (by decide))]
        unfold ww
        rw [Nat.toNat_testBit]
        simp
      rw [e4, e5, XY, e6]
      have hA := ji (fE s p i)
      rw [od] at hA
      have hB : (ww s (p + i)).toNat < 2 ^ 1 := by cases ww s (p + i) <;> decide
      have e7 := LK hA hB (by omega)
      rw [Int.toNat_natCast] at e7
      rw [e7]
      have e8 : val (fE s p i) + 2 ^ i * (ww s (p + i)).toNat = val (fE s p (i + 1)) := by
        rw [El, val_append, od]
        simp [val]
      have e9 : IntKind.wrap .i64 ((i : Int) + 1) = ((i + 1 : Nat) : Int) := by
        rw [wrap_i64 (by omega) (by omega)]; omega
      rw [e8, e9, ih (i + 1) f (by omega) (by omega), Option.bind_some]
theorem J2 {N : Nat} (hN : 33 ≤ N) (s : ByteArray) (p : Nat) (n : Int) (hs : s.size ≤ 1000000000) (hp : p + ak n ≤ 8 * s.size) :
    fT N (n, s, (p : Int), 0) = some ((val (fE s p (ak n)) : Int), s, ((p + ak n : Nat) : Int), 0) := by
  have hc := bG n
  simp only [fT, mH, OH, ae]
  rw [jd, Option.bind_some, if_pos (by simp), Option.bind_some]
  have e1 : IntKind.wrap .i64 (IntKind.wrap .i64 ((8 : Int) * (s.size : Int)) - (p : Int)) = ((8 * s.size - p : Nat) : Int) := by
    rw [wrap_i64 (z := (8 : Int) * (s.size : Int)) (by omega) (by omega), wrap_i64 (by omega) (by omega)]; omega
  simp only [e1]
  rw [if_neg (by simp; omega)]
  simp only [Option.bind_some]
  rw [if_neg (by simp)]
  have h0 : (0 : Int) = (val (fE s p 0) : Int) := by simp [fE, val]
  have hl := J3 N s p ((ak n : Nat) : Int) 0 hs hc hp (ak n) 0 N (by omega) (by omega)
  rw [show ((0 : Nat) : Int) = 0 from rfl, ← h0] at hl
  rw [hl, Option.bind_some]
  simp only
  rw [wrap_i64 (by omega) (by omega)]
  simp
theorem d0 (N : Nat) (s : ByteArray) (p : Nat) (e : Int) (hs : s.size ≤ 1000000000) (hp : p ≤ 8 * s.size) : OH N (s, (p : Int), e, ()) = some (((8 * s.size - p : Nat) : Int)) := by
  simp only [OH, ae]
  rw [wrap_i64 (z := (8 : Int) * (s.size : Int)) (by omega) (by omega), wrap_i64 (by omega) (by omega)]
  congr 1
  omega
theorem o7 {N : Nat} (hN : 33 ≤ N) (s : ByteArray) (p : Nat) (e n : Int) (hs : s.size ≤ 1000000000) (hp : p ≤ 8 * s.size) :
    fT N (n, s, (p : Int), e) = some (((rd (aM s) p e n).1 : Int), s, ((rd (aM s) p e n).2.1 : Int), (rd (aM s) p e n).2.2) := by
  have hal := aA s
  have hc := bG n
  unfold rd
  by_cases he : e = 0
  · subst he
    rw [if_pos rfl]
    by_cases h : p + ak n ≤ 8 * s.size
    · rw [if_pos (by omega), J2 hN s p n hs h, BV s p _ h]
    · rw [if_neg (by omega)]
      simp only [fT, mH, ae]
      rw [jd, Option.bind_some, if_pos (by simp), d0 N s p 0 hs hp, Option.bind_some, if_pos (by simp; omega), Option.bind_some, if_pos (by simp)]
      rfl
  · rw [if_neg he]
    simp only [fT, mH, ae]
    rw [jd, Option.bind_some, if_neg (by simpa using he), Option.bind_some, if_pos (by simpa using he)]
    rfl
theorem FY (N : Nat) (lens x2 x5 : List Int) (hl : lens.length ≤ 320) (l lg : Nat) (S : List Int) (hS : S.length ≤ 10000) : ∀ (d i f : Nat), i + d = lens.length → d < f →
    cu N f ((i : Int), (lens.length : Int), x2, lens, (l : Int), x5, ((rJ lens l i lg : Nat) : Int), S ++ a8 lens l i) =
      some ((l : Int), x2, x5, ((rJ lens l lens.length lg : Nat) : Int), S ++ a8 lens l lens.length) := by
  intro d
  induction d with
  | zero =>
    intro i f hi hf
    cases f with
    | zero => omega
    | succ f =>
      simp only [cu, j5, ae]
      rw [aV (by omega), show i = lens.length by omega]
  | succ d ih =>
    intro i f hi hf
    cases f with
    | zero => omega
    | succ f =>
      have hil : i < lens.length := by omega
      have ih' := ih (i + 1) f (by omega) (by omega)
      have hw : IntKind.wrap .i64 ((i : Int) + 1) = ((i + 1 : Nat) : Int) := by rw [wrap_i64 (by omega) (by omega)]; omega
      have hc : decide ((i : Int) < (lens.length : Int)) = true := by simp only [decide_eq_true_eq]; omega
      have hwi : within (i : Int) lens.length = true := by unfold within; simp only [decide_eq_true_eq]; omega
      have hg : lens[i]? = some lens[i] := List.getElem?_eq_getElem hil
      have hgd : lens.getD i 0 = lens[i] := by rw [List.getD, hg]; rfl
      have hsl := cV lens l i (by omega)
      have hcl : (lens.take i).count (l : Int) ≤ 320 := Nat.le_trans List.count_le_length (by rw [List.length_take]; omega)
      simp only [cu, j5, hc, hwi, hg, hw, Int.toNat_natCast, if_true, Option.bind_some, ae]
      by_cases he : lens[i] = (l : Int)
      · have hb : (lens[i] == (l : Int)) = true := by simpa using he
        have es : a8 lens l (i + 1) = a8 lens l i ++ [(i : Int)] := by rw [a8, hgd, if_pos he]
        have el : rJ lens l (i + 1) lg = l := by unfold rJ; rw [es]; simp
        rw [es, el, ← List.append_assoc] at ih'
        rw [if_pos hb, if_pos (by simp only [decide_eq_true_eq, List.length_append, List.length_singleton]; omega), ih', Option.bind_some]
      · have hb : (lens[i] == (l : Int)) = false := by simpa using he
        have es : a8 lens l (i + 1) = a8 lens l i := by rw [a8, hgd, if_neg he]
        have el : rJ lens l (i + 1) lg = rJ lens l i lg := by unfold rJ; rw [es]
        rw [es, el] at ih'
        rw [if_neg (by rw [hb]; decide), ih', Option.bind_some]
theorem FX (N : Nat) (hN : 400 ≤ N) (lens x2 : List Int) (hl : lens.length ≤ 320) : ∀ (d l f : Nat), l + d = 15 → d < f →
    d7 N f (lens, ((l + 1 : Nat) : Int), x2, ((bg lens l : Nat) : Int), ar lens l) = some (x2, ((bg lens 15 : Nat) : Int), ar lens 15) := by
  intro d
  induction d with
  | zero =>
    intro l f hi hf
    cases f with
    | zero => omega
    | succ f =>
      have : l = 15 := by omega
      subst this
      simp only [d7, pr, ae]
      rw [if_neg (by decide)]
  | succ d ih =>
    intro l f hi hf
    cases f with
    | zero => omega
    | succ f =>
      have ih' := ih (l + 1) f (by omega) (by omega)
      have hs := jo lens hl l
      have hin := FY N lens lens x2 hl (l + 1) (bg lens l) (ar lens l) (by omega) lens.length 0 N (by omega) (by omega)
      have e0 : rJ lens (l + 1) 0 (bg lens l) = bg lens l := rfl
      rw [e0, show a8 lens (l + 1) 0 = [] from rfl, List.append_nil, show ((0 : Nat) : Int) = 0 from rfl] at hin
      simp only [d7, pr, ae]
      rw [aY (by omega), hin, Option.bind_some]
      simp only
      rw [wrap_i64 (by omega) (by omega), show ((l + 1 : Nat) : Int) + 1 = ((l + 1 + 1 : Nat) : Int) by omega]
      have ih'' : d7 N f (lens, ((l + 1 + 1 : Nat) : Int), x2, ((rJ lens (l + 1) lens.length (bg lens l) : Nat) : Int), ar lens l ++ a8 lens (l + 1) lens.length) = _ := ih'
      rw [ih'', Option.bind_some]
theorem je {N : Nat} (hN : 400 ≤ N) (lens : List Int) : Dj N lens = some (if (chk lens).2 = 0 then .inr (0, bO lens, ((bg lens 15 : Nat) : Int), ar lens 15) else .inl (chk lens).2) := by
  obtain ⟨c, hc, hcc⟩ := vF hN lens
  simp only [Dj, ae]
  rw [Hy hN, Option.bind_some]
  by_cases h : (chk lens).2 = 0
  · obtain ⟨a1, a2⟩ := dq h
    have hok : xN lens = true := by unfold xN; rw [decide_eq_true a1, a2]; rfl
    have ho := FX N hN lens (bO lens) a1 15 0 N (by omega) (by omega)
    rw [show ((0 + 1 : Nat) : Int) = 1 from rfl, show ((bg lens 0 : Nat) : Int) = 0 from rfl, show ar lens 0 = [] from rfl] at ho
    rw [if_neg (by simpa using h), if_pos h, hc, Option.bind_some, hcc hok]
    simp only
    rw [ho, Option.bind_some]
  · rw [if_pos (by simpa using h), if_neg h]
theorem JE (N : Nat) (lens : List Int) (hl : lens.length ≤ 320) (lg l : Nat) (hlg : lg ≤ 15) (hle : l ≤ lg) (x4 : Int) (x5 : List Int) : ∀ (e d f : Nat), d + e = lg - l → e < f →
    ic N f ((du lens lg d : Int), ((lg - d : Nat) : Int), (l : Int), bO lens, x4, x5) = some ((du lens lg (lg - l) : Int), bO lens, x4, x5) := by
  intro e
  induction e with
  | zero =>
    intro d f hd hf
    cases f with
    | zero => omega
    | succ f =>
      simp only [ic, sk, ae]
      rw [aV (by omega), show d = lg - l by omega]
  | succ e ih =>
    intro d f hd hf
    cases f with
    | zero => omega
    | succ f =>
      have ih' := ih (d + 1) f (by omega) (by omega)
      have hr := ol lens lg hl d
      have hc : lens.count ((lg - d : Nat) : Int) ≤ 320 := Nat.le_trans List.count_le_length hl
      simp only [ic, sk, ae]
      rw [aY (by omega), if_pos (show within ((lg - d : Nat) : Int) 16 = true by unfold within; simp only [decide_eq_true_eq]; omega), Int.toNat_natCast, gE _ (by omega), Option.bind_some]
      rw [wrap_i64 (z := (du lens lg d : Int) + _) (by omega) (by omega), wrap_i64 (z := (du lens lg d : Int) + (lens.count ((lg - d : Nat) : Int) : Int) + 1) (by omega) (by omega)]
      have e1 : Int.tdiv ((du lens lg d : Int) + (lens.count ((lg - d : Nat) : Int) : Int) + 1) 2 = ((du lens lg (d + 1) : Nat) : Int) := by
        rw [Int.tdiv_eq_ediv_of_nonneg (by omega), du]; omega
      have hr2 := ol lens lg hl (d + 1)
      rw [e1, wrap_i64 (by omega) (by omega), wrap_i64 (by omega) (by omega), show ((lg - d : Nat) : Int) - 1 = ((lg - (d + 1) : Nat) : Int) by omega, ih', Option.bind_some]
theorem JD {N : Nat} (hN : 20 < N) (lens : List Int) (hl : lens.length ≤ 320) (lg l : Nat) (hlg : lg ≤ 15) (hle : l ≤ lg) (x5 : List Int) : N7 N ((l : Int), bO lens, (lg : Int), x5) = some ((du lens lg (lg - l) : Int), bO lens, (lg : Int), x5) := by
  simp only [N7, ae]
  have h := JE N lens hl lg l hlg hle (lg : Int) x5 (lg - l) 0 N (by omega) (by omega)
  rw [show ((du lens lg 0 : Nat) : Int) = 0 from rfl, Nat.sub_zero] at h
  rw [h, Option.bind_some]
abbrev DR := Int × Int × (List Int) × Int × ByteArray × Int × Int × (List Int)
def VY : (DR ⊕ ((List Int) × Int × ByteArray × Int × Int × (List Int))) → DR
  | .inl y => y
  | .inr z => (0, 3, z)
theorem S9 {L : List Bool} {p : Nat} : rd L p 0 1 = if p + 1 ≤ L.length then ((L.getD p false).toNat, p + 1, 0) else (0, p, 2) := by
  have c : ak 1 = 1 := rfl
  unfold rd
  rw [if_pos rfl, c]
  by_cases h : p + 1 ≤ L.length
  · rw [if_pos h, if_pos h]
    have e : (L.drop p).take 1 = [L.getD p false] := by
      rw [List.drop_eq_getElem_cons (by omega), List.take_succ_cons, List.take_zero, List.getD, List.getElem?_eq_getElem (by omega)]; rfl
    rw [e]
    simp [val]
  · rw [if_neg h, if_neg h]
theorem JH {N : Nat} (hN : 100 ≤ N) (lens : List Int) (hl : lens.length ≤ 320) (s : ByteArray) (hs : s.size ≤ 1000000) (lg : Nat) (hlg : lg ≤ 15) :
    ∀ (d f v p : Nat), d ≤ lg → d < f → p ≤ 8 * s.size → v < 2 ^ (lg - d) → ∀ y e' p', zw lens lg (aM s) d v p = some (y, e', p') →
    (∀ l, l ≤ 15 → ∀ w, first lens l ≤ w → w < first lens l + lens.count (l : Int) → 0 < l → (ar lens (l - 1)).length + (w - first lens l) < (ar lens 15).length) →
    ∃ r, fS N f (((ar lens (lg - d)).length : Int), ((first lens (lg - d + 1) : Nat) : Int), ((lg - d + 1 : Nat) : Int), ((2 * v : Nat) : Int), bO lens, (lg : Int), s, (p : Int), 0, ar lens 15) = some r ∧
      VY r = (y, e', bO lens, (lg : Int), s, (p' : Int), (if e' = 2 then 2 else 0), ar lens 15) := by
  have hal := aA s
  intro d
  induction d with
  | zero =>
    intro f v p hd hf hp hv y e' p' hdec hin
    cases f with
    | zero => omega
    | succ f =>
      unfold zw at hdec
      cases hdec
      simp only [fS, sn, ae]
      rw [aV (by omega)]
      exact ⟨_, rfl, rfl⟩
  | succ d ih =>
    intro f v p hd hf hp hv y e' p' hdec hin
    cases f with
    | zero => omega
    | succ f =>
      have hl1 : lg - (d + 1) + 1 = lg - d := by omega
      have hl0 : lg - (d + 1) = lg - d - 1 := by omega
      rw [hl1, hl0]
      have hlp : 0 < lg - d := by omega
      have hle : lg - d ≤ lg := by omega
      simp only [zw] at hdec
      have hfs := kV lens hl (show lg - d ≤ 15 by omega)
      have hcl : lens.count ((lg - d : Nat) : Int) ≤ 320 := Nat.le_trans List.count_le_length hl
      have hsu := jo lens hl (lg - d - 1)
      have hv15 : 2 ^ (lg - (d + 1)) ≤ 2 ^ 15 := Nat.pow_le_pow_right (by decide) (by omega)
      have hd' : lg - (lg - d) = d := by omega
      have hrr := ol lens lg hl d
      have hfn := jF lens hlp
      have hst := kr lens hlp
      generalize hL : lg - d = l at *
      have hwl : within (l : Int) 16 = true := by unfold within; simp only [decide_eq_true_eq]; omega
      have hg := gE lens (show l < 16 by omega)
      have hF67 := JD (N := N) (by omega) lens hl lg l hlg (by omega) (ar lens 15)
      rw [hd'] at hF67
      have h66 : ∀ (q : Nat) (e : Int), d9 N (s, (q : Int), e, ()) = some e := fun q e => rfl
      simp only [fS, sn, ae]
      rw [aY (by omega), o7 (by omega) s p 0 1 (by omega) hp, Option.bind_some, S9]
      by_cases hlt : p < (aM s).length
      · rw [if_pos hlt] at hdec
        rw [if_pos (show p + 1 ≤ (aM s).length by omega)]
        have hb2 : ((aM s).getD p false).toNat < 2 := by cases (aM s).getD p false <;> decide
        generalize ((aM s).getD p false).toNat = b at *
        simp only
        rw [h66, Option.bind_some, if_neg (by decide), if_pos hwl, Int.toNat_natCast, hg, Option.bind_some, or_bit v b (by omega) hb2]
        have hvw : v ≤ 32768 := by omega
        have hw2 : 2 * v + b < 2 ^ l := by
          have e : 2 ^ l = 2 * 2 ^ (l - 1) := by
            obtain ⟨k, rfl⟩ : ∃ k, l = k + 1 := ⟨l - 1, by omega⟩
            rw [Nat.add_sub_cancel, Nat.pow_succ]; omega
          have e3 : lg - (d + 1) = l - 1 := by omega
          rw [e3] at hv
          omega
        generalize hw : 2 * v + b = w at *
        have hwb : w ≤ 65537 := by omega
        rw [wrap_i64 (z := (w : Int) - ((first lens l : Nat) : Int)) (by omega) (by omega)]
        by_cases hA : w < first lens l + lens.count (l : Int)
        · rw [if_pos hA] at hdec
          by_cases hF : first lens l ≤ w
          · rw [if_pos hF] at hdec
            simp only [Option.some.injEq, Prod.mk.injEq] at hdec
            obtain ⟨rfl, rfl, rfl⟩ := hdec
            have hi := hin l (by omega) w hF hA hlp
            have hidx : IntKind.wrap .i64 (((ar lens (l - 1)).length : Int) + ((w : Int) - ((first lens l : Nat) : Int))) = (((ar lens (l - 1)).length + (w - first lens l) : Nat) : Int) := by
              rw [wrap_i64 (by omega) (by omega)]; omega
            have hgi := get_at hi
            rw [aY (by omega), hidx, if_pos (show within (((ar lens (l - 1)).length + (w - first lens l) : Nat) : Int) (ar lens 15).length = true by unfold within; simp only [decide_eq_true_eq]; omega), Int.toNat_natCast, hgi, Option.bind_some]
            exact ⟨_, rfl, rfl⟩
          · rw [if_neg hF] at hdec
            cases hdec
        · rw [if_neg hA] at hdec
          have e2 : Int.fdiv (IntKind.wrap .i64 ((w : Int) * 2)) 2 = (w : Int) := by
            rw [wrap_i64 (by omega) (by omega), Int.fdiv_eq_ediv_of_nonneg _ (by decide)]; omega
          have e4 : IntKind.wrap .i64 (IntKind.wrap .i64 (((first lens l : Nat) : Int) + (lens.count (l : Int) : Int)) * 2) = ((first lens (l + 1) : Nat) : Int) := by
            rw [wrap_i64 (z := ((first lens l : Nat) : Int) + _) (by omega) (by omega), wrap_i64 (by omega) (by omega), hfn]; omega
          have e5 : Int.fdiv ((first lens (l + 1) : Nat) : Int) 2 = ((first lens l + lens.count (l : Int) : Nat) : Int) := by
            rw [Int.fdiv_eq_ediv_of_nonneg _ (by decide), hfn]; omega
          rw [aV (by omega), if_pos hwl, Option.bind_some, if_pos hwl, Option.bind_some, hF67, Option.bind_some]
          simp only [e2, e4, e5]
          rw [wrap_i64 (z := (w : Int) - _) (by omega) (by omega)]
          by_cases hR : du lens lg d ≤ w - (first lens l + lens.count (l : Int))
          · rw [if_pos hR] at hdec
            simp only [Option.some.injEq, Prod.mk.injEq] at hdec
            obtain ⟨rfl, rfl, rfl⟩ := hdec
            rw [aY (by omega)]
            exact ⟨_, rfl, rfl⟩
          · rw [if_neg hR] at hdec
            obtain ⟨r, r1, r2⟩ := ih f w (p + 1) (by omega) (by omega) (by omega) hw2 y e' p' hdec hin
            have hstl : (ar lens l).length ≤ 320 * l := jo lens hl l
            have e6 : IntKind.wrap .i64 (((ar lens (l - 1)).length : Int) + (lens.count (l : Int) : Int)) = ((ar lens l).length : Int) := by
              rw [wrap_i64 (by omega) (by omega), hst]; omega
            have e7 : IntKind.wrap .i64 ((w : Int) * 2) = ((2 * w : Nat) : Int) := by rw [wrap_i64 (by omega) (by omega)]; omega
            have e8 : IntKind.wrap .i64 ((l : Int) + 1) = ((l + 1 : Nat) : Int) := by rw [wrap_i64 (by omega) (by omega)]; omega
            rw [aV (by omega), e6, e7, e8, r1, Option.bind_some]
            cases r with
            | inl z => exact ⟨_, rfl, r2⟩
            | inr z => exact ⟨_, rfl, r2⟩
      · rw [if_neg hlt] at hdec
        cases hdec
        rw [if_neg (show ¬ p + 1 ≤ (aM s).length by omega)]
        simp only
        rw [h66, Option.bind_some, if_pos (by decide)]
        exact ⟨_, rfl, rfl⟩
theorem yu {N : Nat} (hN : 100 ≤ N) (lens : List Int) (hl : lens.length ≤ 320) (s : ByteArray) (hs : s.size ≤ 1000000) (p : Nat) (hp : p ≤ 8 * s.size) {y e' : Int} {p' : Nat} (hd : zw lens (bg lens 15) (aM s) (bg lens 15) 0 p = some (y, e', p')) :
    wT N (bO lens, ((bg lens 15 : Nat) : Int), s, (p : Int), 0, ar lens 15) = some (y, e', bO lens, ((bg lens 15 : Nat) : Int), s, (p' : Int), (if e' = 2 then 2 else 0), ar lens 15) := by
  have hlg := oE lens 15
  obtain ⟨r, r1, r2⟩ := JH hN lens hl s hs (bg lens 15) hlg (bg lens 15) N 0 p (Nat.le_refl _) (by omega) hp (by rw [Nat.sub_self]; decide) y e' p' hd (Tq lens)
  rw [Nat.sub_self] at r1
  simp only [wT, ae]
  have r1' : fS N N (0, 0, 1, 0, bO lens, ((bg lens 15 : Nat) : Int), s, (p : Int), 0, ar lens 15) = some r := r1
  rw [r1', Option.bind_some]
  cases r with
  | inl z => rw [← r2]; rfl
  | inr z => rw [← r2]; rfl
set_option maxRecDepth 100000
def At (L : List Bool) (p : Nat) (M : List Bool) : Prop := ∃ P R, L = P ++ (M ++ R) ∧ P.length = p
theorem At.left {L : List Bool} {p : Nat} {M M' : List Bool} : At L p (M ++ M') → At L p M := fun ⟨P, R, h, e⟩ => ⟨P, M' ++ R, by rw [h, List.append_assoc], e⟩
theorem At.right {L : List Bool} {p : Nat} {M M' : List Bool} : At L p (M ++ M') → At L (p + M.length) M' := fun ⟨P, R, h, e⟩ => ⟨P ++ M, R, by rw [h]; simp only [List.append_assoc], by rw [List.length_append, e]⟩
theorem At.le {L : List Bool} {p : Nat} {M : List Bool} : At L p M → p + M.length ≤ L.length := fun ⟨P, R, h, e⟩ => by rw [h, List.length_append, List.length_append]; omega
theorem At.get {L : List Bool} {p : Nat} {M : List Bool} (h : At L p M) {k : Nat} (hk : k < M.length) : L[p + k]? = M[k]? := by
  obtain ⟨P, R, rfl, rfl⟩ := h
  rw [List.getElem?_append_right (by omega), Nat.add_sub_cancel_left, List.getElem?_append_left hk]
theorem At.take {L : List Bool} {p : Nat} {M : List Bool} (h : At L p M) : (L.drop p).take M.length = M := by
  obtain ⟨P, R, rfl, rfl⟩ := h
  rw [List.drop_left, List.take_left]
theorem iO {lens : List Int} (h : (chk lens).2 = 0) {j : Nat} (hc : cS (af lens) j = true) (s : ByteArray) (hs : s.size ≤ 1000000) (p : Nat) (hA : At (aM s) p (aI (at_ (af lens) j))) :
    wT 200000 (bO lens, ((bg lens 15 : Nat) : Int), s, (p : Int), 0, ar lens 15) = some ((j : Int), 0, bO lens, ((bg lens 15 : Nat) : Int), s, ((p + (aI (at_ (af lens) j)).length : Nat) : Int), 0, ar lens 15) := by
  obtain ⟨a1, a2⟩ := dq h
  have hle := hA.le
  have hal := aA s
  unfold cS at hc
  rw [Bool.and_eq_true, decide_eq_true_eq, ci] at hc
  obtain ⟨hj, h2⟩ := hc
  have e : at_ (af lens) j = bX lens j := by unfold at_; rw [List.getD, gD lens hj]; rfl
  have h2' : (at_ (af lens) j).2.1 ≠ 0 := by
    unfold at_
    simpa using h2
  rw [e] at hA h2' hle ⊢
  have h0 : 0 < lens.getD j 0 := by
    rw [fZ] at h2'
    by_cases hp : 0 < lens.getD j 0
    · exact hp
    · rw [if_neg hp] at h2'; exact absurd rfl h2'
  obtain ⟨c1, c2⟩ := zy h hj h0
  have hlt := oQ h hj h0
  have hd := MJ h hj h0 (aM s) p (fun k hk => by rw [hA.get (by omega)]; exact c2 k hk) (lens.getD j 0).toNat 0 (by omega) (by omega)
  rw [Nat.sub_zero, Nat.sub_zero, Nat.div_eq_of_lt hlt, Nat.add_zero] at hd
  rw [yu (by decide) lens a1 s (by omega) p (by omega) hd, c1]
  rfl
theorem Lz {L : List Bool} {p : Nat} {n v : Int} (hA : At L p (aG n v)) (h0 : 0 ≤ v) (h1 : v < 2 ^ ak n) : rd L p 0 n = (v.toNat, p + (aG n v).length, 0) := by
  have hle := hA.le
  have ht := hA.take
  have hl := am n v
  rw [hl] at hle ht ⊢
  unfold rd
  rw [if_pos rfl, if_pos hle, ht]
  have hc := bG n
  have hp := kH hc
  obtain ⟨w, rfl⟩ := Int.eq_ofNat_of_zero_le h0
  have hw : w < 2 ^ ak n := by exact_mod_cast h1
  have : val (aG n (w : Int)) = w := by
    unfold aG kO
    rw [BitVec.ofInt_natCast, BitVec.toNat_ofNat, Nat.mod_eq_of_lt (a := w) (by omega), Nat.mod_eq_of_lt hw]
    rw [pA, Nat.mod_eq_of_lt hw]
  rw [this]
  rfl
theorem LZ : ∀ j, j < 28 → cL.getD (j + 1) 0 - cL.getD j 0 ≤ 2 ^ ak (iu.getD j 0) := by decide +kernel
theorem MH : ∀ j, j < 29 → cO.getD (j + 1) 0 - cO.getD j 0 ≤ 2 ^ ak (iw.getD j 0) := by decide +kernel
theorem Pl {n : Int} (h1 : 3 ≤ n) (h2 : n ≤ 258) {j : Nat} (hj : j < 29) (h : cM cL n 29 = some j) : 0 ≤ n - cL.getD j 0 ∧ n - cL.getD j 0 < 2 ^ ak (iu.getD j 0) := by
  obtain ⟨_, a, b⟩ := fc h
  refine ⟨by omega, ?_⟩
  by_cases e : j = 28
  · subst e
    have : cL.getD 28 0 = 258 := rfl
    have : iu.getD 28 0 = 0 := rfl
    rw [this]
    show n - cL.getD 28 0 < 1
    omega
  · have := LZ j (by omega)
    have := b (j + 1) (by omega) (by omega)
    omega
theorem Pu {n : Int} (h1 : 1 ≤ n) (h2 : n ≤ 32768) {j : Nat} (hj : j < 30) (h : cM cO n 30 = some j) : 0 ≤ n - cO.getD j 0 ∧ n - cO.getD j 0 < 2 ^ ak (iw.getD j 0) := by
  obtain ⟨_, a, b⟩ := fc h
  refine ⟨by omega, ?_⟩
  by_cases e : j = 29
  · subst e
    have : cO.getD 29 0 = 24577 := rfl
    have : iw.getD 29 0 = 13 := rfl
    rw [this]
    show n - cO.getD 29 0 < 8192
    omega
  · have := MH j (by omega)
    have := b (j + 1) (by omega) (by omega)
    omega
theorem GU {j : Nat} (hj : j < 29) : tx cL iu (257 + (j : Int)) 257 = (cL.getD j 0, iu.getD j 0) := by
  have : cL.length = 29 := rfl
  unfold tx
  rw [if_neg (by omega), show (257 + (j : Int) - 257).toNat = j by omega]
theorem GV {j : Nat} (hj : j < 30) : tx cO iw (0 + (j : Int)) 0 = (cO.getD j 0, iw.getD j 0) := by
  have : cO.length = 30 := rfl
  unfold tx
  rw [if_neg (by omega), show (0 + (j : Int) - 0).toNat = j by omega]
theorem yq (s : ByteArray) (hs : s.size ≤ 1000000) (p : Nat) (hp : p ≤ 8 * s.size) (sym : Int) (h1 : -9223372036854775808 ≤ sym ∧ sym ≤ 9223372036854775807) :
    Df 200000 (sym, s, (p : Int), 0) = some (IntKind.wrap .i64 ((tx cL iu sym 257).1 + ((rd (aM s) p 0 (tx cL iu sym 257).2).1 : Int)), (rd (aM s) p 0 (tx cL iu sym 257).2).2.2, s, ((rd (aM s) p 0 (tx cL iu sym 257).2).2.1 : Int), (rd (aM s) p 0 (tx cL iu sym 257).2).2.2) := by
  simp only [Df, ae]
  rw [Q3 sym h1, Option.bind_some, o7 (by decide) s p 0 _ (by omega) hp, Option.bind_some]
  rfl
theorem yp (s : ByteArray) (hs : s.size ≤ 1000000) (p : Nat) (hp : p ≤ 8 * s.size) (sym : Int) (h1 : -9223372036854775808 ≤ sym ∧ sym ≤ 9223372036854775807) :
    De 200000 (sym, s, (p : Int), 0) = some (IntKind.wrap .i64 ((tx cO iw sym 0).1 + ((rd (aM s) p 0 (tx cO iw sym 0).2).1 : Int)), (rd (aM s) p 0 (tx cO iw sym 0).2).2.2, s, ((rd (aM s) p 0 (tx cO iw sym 0).2).2.1 : Int), (rd (aM s) p 0 (tx cO iw sym 0).2).2.2) := by
  simp only [De, ae]
  rw [Q2 sym h1, Option.bind_some, o7 (by decide) s p 0 _ (by omega) hp, Option.bind_some]
  rfl
theorem D4 {b l d : Int} (h : bo b l d = true) : (l = 0 ∧ d = 0 ∧ 0 ≤ b ∧ b ≤ 255) ∨ (l ≠ 0 ∧ b = 0 ∧ 3 ≤ l ∧ l ≤ 258 ∧ 1 ≤ d ∧ d ≤ 32768) := by
  unfold bo inT at h
  by_cases hl : l = 0
  · rw [if_pos hl] at h
    simp only [Bool.and_eq_true, decide_eq_true_eq] at h
    exact .inl ⟨hl, h.1, h.2⟩
  · rw [if_neg hl] at h
    simp only [Bool.and_eq_true, decide_eq_true_eq] at h
    exact .inr ⟨hl, h.1, h.2.1.1, h.2.1.2, h.2.2⟩
theorem JQ {A B : List Int} (hA : (chk A).2 = 0) (hB : (chk B).2 = 0) (h256 : cS (af A) 256 = true) (most : Int) (hm0 : most ≤ 2000000000) (s : ByteArray) (hs : s.size ≤ 1000000) : ∀ (l out : List Tok) (n p f : Nat), l.length < f → out.length + l.length ≤ 20000 →
    (∀ t ∈ l, bo t.1 t.2.1 t.2.2.1 = true) → (∀ t ∈ l, mJ (af A) (af B) t = true) → ((n + made l : Nat) : Int) ≤ most → At (aM s) p (l.flatMap (iB (af A) (af B)) ++ aI (at_ (af A) 256)) →
    bP 200000 f (most, (n : Int), s, (p : Int), 0, out, bO A, ((bg A 15 : Nat) : Int), bO B, ((bg B 15 : Nat) : Int), ar A 15, ar B 15) =
      some (0, s, ((p + ((l.flatMap (iB (af A) (af B))).length + (aI (at_ (af A) 256)).length) : Nat) : Int), 0, out ++ l) := by
  have hal := aA s
  intro l
  induction l with
  | nil =>
    intro out n p f hf _ _ _ _ hat
    cases f with
    | zero => cases hf
    | succ f =>
      simp only [List.flatMap_nil, List.nil_append, List.length_nil, Nat.zero_add, List.append_nil] at hat ⊢
      simp only [bP, gh, ae]
      rw [iO hA h256 s hs _ hat, Option.bind_some]
      simp only
      rw [if_neg (by decide), if_pos (by decide)]
  | cons t l ih =>
    intro out n p f hf ho hv hk hm hat
    cases f with
    | zero => cases hf
    | succ f =>
      rw [List.length_cons] at hf ho
      have hvt := hv t (List.mem_cons_self ..)
      have hok := hk t (List.mem_cons_self ..)
      have hmade : made (t :: l) = cC t + made l := by unfold made; rw [List.map_cons, List.sum_cons]
      rw [hmade] at hm
      obtain ⟨q1, q2⟩ := oC hvt
      have hflat : (t :: l).flatMap (iB (af A) (af B)) = iB (af A) (af B) t ++ l.flatMap (iB (af A) (af B)) := List.flatMap_cons
      rw [hflat] at hat ⊢
      rw [List.append_assoc] at hat
      have ha := hat.left
      have ihf := ih (out ++ [t]) (n + cC t) (p + (iB (af A) (af B) t).length) f (by omega) (by rw [List.length_append, List.length_singleton]; omega) (fun u hu => hv u (List.mem_cons_of_mem _ hu)) (fun u hu => hk u (List.mem_cons_of_mem _ hu)) (by omega) hat.right
      rw [List.append_assoc, List.singleton_append] at ihf
      rw [List.length_append, Nat.add_assoc, ← Nat.add_assoc p]
      generalize (l.flatMap (iB (af A) (af B))).length + (aI (at_ (af A) 256)).length = Z at *
      simp only [bP, gh, ae]
      have c7 : decide ((out.length + 1) * 24 ≤ 140737488355328 ∧ out.length + 1 ≤ 140737488355328) = true := by simp only [decide_eq_true_eq]; omega
      obtain ⟨b, L, D, u⟩ := t
      cases u
      unfold mJ at hok
      simp only [Bool.and_eq_true, Bool.or_eq_true, decide_eq_true_eq] at hok
      obtain ⟨ok1, ok2⟩ := hok
      rcases D4 hvt with ⟨e1, e2, e3, e4⟩ | ⟨e1, e2, e3, e4, e5, e6⟩
      · have e1 : L = 0 := e1
        have e2 : D = 0 := e2
        have e3 : 0 ≤ b := e3
        have e4 : b ≤ 255 := e4
        subst e1; subst e2
        have eS : dQ (b, 0, 0, ()) = b.toNat := rfl
        have et : iB (af A) (af B) (b, 0, 0, ()) = aI (at_ (af A) b.toNat) := by unfold iB; rw [if_pos rfl, eS]
        have hmt : cC (b, 0, 0, ()) = 1 := rfl
        rw [eS] at ok1
        rw [et] at ha ihf ⊢
        rw [hmt] at ihf hm
        rw [iO hA ok1 s hs _ ha, Option.bind_some]
        have eb : ((b.toNat : Nat) : Int) = b := by omega
        have w : IntKind.wrap .i64 ((n : Int) + 1) = ((n + 1 : Nat) : Int) := by rw [wrap_i64 (by omega) (by omega)]; omega
        simp only [eb]
        rw [w, if_neg (by decide), if_neg (by simp only [beq_iff_eq]; omega), aV (by omega), aV (by omega)]
        simp only [List.length_singleton, c7, if_true]
        rw [ihf]
        rfl
      · have e1 : L ≠ 0 := e1
        have e2 : b = 0 := e2
        subst e2
        have e3 : 3 ≤ L := e3
        have e4 : L ≤ 258 := e4
        have e5 : 1 ≤ D := e5
        have e6 : D ≤ 32768 := e6
        obtain ⟨j, hj, ej, lj⟩ := kQ e3 e4
        obtain ⟨k, hk, ek, lk⟩ := kY e5 e6
        have eS : dQ (0, L, D, ()) = 257 + j := by unfold dQ; rw [if_neg e1]; simp only [ej]; omega
        have eD : (cf D).1.toNat = k := by rw [ek]; simp only; omega
        have ok2' : cS (af B) k = true := by rw [← eD]; exact ok2.resolve_left e1
        have et : iB (af A) (af B) (0, L, D, ()) = aI (at_ (af A) (257 + j)) ++ (aG (iu.getD j 0) (L - cL.getD j 0) ++ (aI (at_ (af B) k) ++ aG (iw.getD k 0) (D - cO.getD k 0))) := by
          unfold iB; rw [if_neg e1, eS]; simp only [ej, eD]; simp only [ek]; simp only [List.append_assoc]
        have hmt : cC (0, L, D, ()) = L.toNat := by unfold cC; rw [if_neg e1]
        rw [eS] at ok1
        rw [hmt] at ihf hm
        rw [et] at ha ihf ⊢
        have ha1 := ha.left
        have ha2 := ha.right.left
        have ha3 := ha.right.right.left
        have ha4 := ha.right.right.right
        have l1 := ha1.le
        have l2 := ha2.le
        have l3 := ha3.le
        have l4 := ha4.le
        obtain ⟨x1, x2⟩ := Pl e3 e4 hj lj
        obtain ⟨y1, y2⟩ := Pu e5 e6 hk lk
        have hb1 := zh j hj
        have hb2 := zt k hk
        rw [iO hA ok1 s hs _ ha1, Option.bind_some]
        have eb : ((257 + j : Nat) : Int) = 257 + (j : Int) := by omega
        simp only [eb]
        rw [if_neg (by decide), if_neg (by simp only [beq_iff_eq]; omega), aY (by omega)]
        simp only [JG, ae]
        rw [aV (by omega), yq s hs _ (by omega) _ (by omega), GU hj, Option.bind_some]
        simp only
        rw [Lz ha2 x1 x2]
        simp only
        rw [if_neg (by decide), iO hB ok2' s hs _ ha3, Option.bind_some]
        simp only
        rw [if_neg (by decide), aV (by omega), yp s hs _ (by omega) _ (by omega), show ((k : Nat) : Int) = 0 + (k : Int) by omega, GV hk, Option.bind_some]
        simp only
        rw [Lz ha4 y1 y2]
        simp only [Option.bind_some]
        have w1 : IntKind.wrap .i64 (cL.getD j 0 + (((L - cL.getD j 0).toNat : Nat) : Int)) = L := by rw [Int.toNat_of_nonneg x1, wrap_i64 (by omega) (by omega)]; omega
        have w2 : IntKind.wrap .i64 (cO.getD k 0 + (((D - cO.getD k 0).toNat : Nat) : Int)) = D := by rw [Int.toNat_of_nonneg y1, wrap_i64 (by omega) (by omega)]; omega
        rw [w1, w2]
        have w3 : (if (1 : Int) > L then (1 : Int) else L) = L := if_neg (by omega)
        have w4 : IntKind.wrap .i64 ((n : Int) + L) = ((n + L.toNat : Nat) : Int) := by rw [wrap_i64 (by omega) (by omega)]; omega
        rw [w3, w4]
        rw [if_neg (by decide), aV (by omega)]
        simp only [List.length_singleton, c7, if_true]
        simp only [List.length_append, ← Nat.add_assoc] at ihf ⊢
        rw [ihf]
        rfl
set_option maxRecDepth 100000
theorem cQ {s : ByteArray} (hs : s.size ≤ 1000000) {p : Nat} {n v : Int} (hA : At (aM s) p (aG n v)) (h0 : 0 ≤ v) (h1 : v < 2 ^ ak n) :
    fT 200000 (n, s, (p : Int), 0) = some (v, s, ((p + ak n : Nat) : Int), 0) := by
  have hle := hA.le
  rw [aA] at hle
  rw [o7 (by decide) s p 0 n (by omega) (by omega), Lz hA h0 h1, am, Int.toNat_of_nonneg h0]
theorem Ew (lens : List Int) {i n : Nat} (hi : i < n) (hn : n ≤ 19) : ∃ q, kj lens n = kj lens i ++ (aG 3 (lens.getD (cn.getD i 0).toNat 0) ++ q) := by
  refine ⟨((cn.take n).drop (i + 1)).flatMap fun a => aG 3 (lens.getD a.toNat 0), ?_⟩
  have e1 := pR lens (show i < cn.length by rw [dT]; omega)
  rw [← List.append_assoc, ← e1]
  unfold kj
  rw [← List.flatMap_append]
  congr 1
  have : cn.take (i + 1) = (cn.take n).take (i + 1) := by rw [List.take_take, show min (i + 1) n = i + 1 by omega]
  rw [this, List.take_append_drop]
theorem JI (lens : List Int) (hl : lens.length = 19) (hb : ∀ j, j < 19 → 0 ≤ lens.getD j 0 ∧ lens.getD j 0 ≤ 7) (s : ByteArray) (hs : s.size ≤ 1000000) (n : Nat) (hn : n ≤ 19) (p : Nat) (hA : At (aM s) p (kj lens n)) : ∀ (d i f : Nat), i + d = n → d < f →
    d8 200000 f ((i : Int), (n : Int), n, s, ((p + 3 * i : Nat) : Int), 0, cn, mL lens i) = some (s, ((p + 3 * n : Nat) : Int), 0, mL lens n) := by
  intro d
  induction d with
  | zero =>
    intro i f hi hf
    cases f with
    | zero => omega
    | succ f =>
      simp only [d8, mE, ae]
      rw [aV (by omega), show i = n by omega]
  | succ d ih =>
    intro i f hi hf
    cases f with
    | zero => omega
    | succ f =>
      have w : IntKind.wrap .i64 ((i : Int) + 1) = ((i + 1 : Nat) : Int) := by rw [wrap_i64 (by omega) (by omega)]; omega
      obtain ⟨o1, o2⟩ := yW i (by omega)
      have hn19 : i < cn.length := by rw [dT]; omega
      obtain ⟨k, hk⟩ := Int.eq_ofNat_of_zero_le o1
      have hk19 : k < 19 := by omega
      obtain ⟨b1, b2⟩ := hb k hk19
      obtain ⟨q, hq⟩ := Ew lens (show i < n by omega) hn
      rw [hq] at hA
      have h2 := hA.right.left
      rw [iL lens i (by omega), hk, Int.toNat_natCast] at h2
      have hset := IT lens (by omega) hk hk19
      have hol := xL lens i
      have hI := ih (i + 1) f (by omega) (by omega)
      rw [show p + 3 * (i + 1) = p + 3 * i + 3 by omega] at hI
      simp only [d8, mE, ae]
      rw [aY (by omega), if_pos (ay (by omega)), Int.toNat_natCast, Nat.zero_add, bv hn19, Option.bind_some, hk, cQ hs h2 b1 (by show _ < (2 : Int) ^ 3; omega), Option.bind_some, if_pos (ay (by omega)), Int.toNat_natCast, bv (by omega), Option.bind_some, w, hset, show ak 3 = 3 from rfl, hI]
      rfl
theorem yv (N : Nat) : rQ N 0 = some 0 := rfl
theorem Ga (lens : List Int) (hl : lens.length = 19) (hc : (chk lens).2 = 0) (hb : ∀ j, j < 19 → 0 ≤ lens.getD j 0 ∧ lens.getD j 0 ≤ 7) (s : ByteArray) (hs : s.size ≤ 1000000) (p : Nat) (hA : At (aM s) p (kj lens (gP lens 19))) :
    Gb 200000 ((gP lens 19 : Nat), s, (p : Int), 0) = some (.inr (0, s, ((p + 3 * gP lens 19 : Nat) : Int), 0, bO lens, ((bg lens 15 : Nat) : Int), ar lens 15)) := by
  have hn := oq lens 19
  have h := JI lens hl hb s hs (gP lens 19) hn p hA (gP lens 19) 0 200000 (by omega) (by omega)
  rw [Et, IU hl, Nat.mul_zero, Nat.add_zero, show ((0 : Nat) : Int) = 0 from rfl] at h
  simp only [Gb, ae]
  rw [qJ, Option.bind_some, if_pos (by rw [decide_eq_true_eq, dT]; omega), Int.toNat_natCast, Nat.sub_zero, h, Option.bind_some]
  simp only [d9, Option.bind_some]
  rw [if_neg (by decide), je (by decide), hc, if_pos rfl, Option.bind_some]
  simp only
  rw [yv, Option.bind_some]
theorem FZ {Lf : List Int} (hl : Lf.length ≤ 320) (hok : okB Lf = true) {i : Nat} (hi : i < Lf.length) {sy : uq} {c : Nat} (m : Means Lf i sy c) (hc : i + c ≤ Lf.length) (s : ByteArray) (hs : s.size ≤ 1000000) (p : Nat) (hA : At (aM s) p (aG sy.2.1 sy.2.2.1)) :
    ∃ v, wS 200000 (sy.1, Lf.take i, s, (p : Int), 0) = some (v, (c : Int), 0, s, ((p + ak sy.2.1 : Nat) : Int), 0) ∧ Lf.take (i + c) = Lf.take i ++ List.replicate c v := by
  have htl : (Lf.take i).length = i := by rw [List.length_take]; omega
  cases m with
  | one h3 =>
    obtain ⟨g1, g2⟩ := yY hok hi
    refine ⟨Lf.getD i 0, ?_, h3⟩
    simp only [wS, d9, ae, Option.bind_some]
    rw [if_neg (by simp only [beq_iff_eq]; omega), if_neg (by simp only [beq_iff_eq]; omega), if_neg (by simp only [beq_iff_eq]; omega)]
    rfl
  | again c h0 k1 k2 h3 =>
    obtain ⟨t1, t2⟩ := HW h0 (show i ≤ Lf.length by omega)
    refine ⟨Lf.getD (i - 1) 0, ?_, h3⟩
    have w5 : IntKind.wrap .i64 ((i : Int) - 1) = ((i - 1 : Nat) : Int) := by rw [wrap_i64 (by omega) (by omega)]; omega
    have w6 : IntKind.wrap .i64 ((3 : Int) + ((c : Int) - 3)) = (c : Int) := by rw [wrap_i64 (by omega) (by omega)]; omega
    simp only at hA
    simp only [wS, d9, ae, Option.bind_some]
    rw [if_pos (by rfl), htl, if_neg (by simp only [beq_iff_eq]; omega), w5, if_pos (ay (by omega)), Int.toNat_natCast, t2, Option.bind_some, cQ hs hA (by omega) (by show _ < (2 : Int) ^ 2; omega), Option.bind_some, w6]
  | few c k1 k2 h3 =>
    refine ⟨0, ?_, h3⟩
    have w6 : IntKind.wrap .i64 ((3 : Int) + ((c : Int) - 3)) = (c : Int) := by rw [wrap_i64 (by omega) (by omega)]; omega
    simp only at hA
    simp only [wS, d9, ae, Option.bind_some]
    rw [if_neg (by decide), if_pos (by rfl), cQ hs hA (by omega) (by show _ < (2 : Int) ^ 3; omega), Option.bind_some, w6]
  | zeros c k1 k2 h3 =>
    refine ⟨0, ?_, h3⟩
    have w6 : IntKind.wrap .i64 ((11 : Int) + ((c : Int) - 11)) = (c : Int) := by rw [wrap_i64 (by omega) (by omega)]; omega
    simp only at hA
    simp only [wS, d9, ae, Option.bind_some]
    rw [if_neg (by decide), if_neg (by decide), if_pos (by rfl), cQ hs hA (by omega) (by show _ < (2 : Int) ^ 7; omega), Option.bind_some, w6]
theorem yx (N : Nat) (c : Nat) (hc : c ≤ 138) (X1 X2 v lg : Int) (s : ByteArray) (p e : Int) (l : List Int) (hl : l.length ≤ 400) (C Y : List Int) : ∀ (d i f : Nat), i + d = c → d < f →
    bW N f ((i : Int), (c : Int), X1, X2, v, s, p, e, l ++ List.replicate i v, C, lg, Y) = some (X2, X1, s, p, e, C, lg, l ++ List.replicate c v, Y) := by
  intro d
  induction d with
  | zero =>
    intro i f hi hf
    cases f with
    | zero => omega
    | succ f =>
      simp only [bW, il, ae]
      rw [aV (by omega), show i = c by omega]
  | succ d ih =>
    intro i f hi hf
    cases f with
    | zero => omega
    | succ f =>
      have w : IntKind.wrap .i64 ((i : Int) + 1) = ((i + 1 : Nat) : Int) := by rw [wrap_i64 (by omega) (by omega)]; omega
      simp only [bW, il, ae]
      rw [aY (by omega), if_pos (by rw [decide_eq_true_eq, List.length_append, List.length_replicate, List.length_singleton]; omega), w, List.append_assoc, ← List.replicate_succ', ih (i + 1) f (by omega) (by omega)]
      rfl
theorem JR {lens : List Int} (hl : lens.length = 19) (hc : (chk lens).2 = 0) (Lf : List Int) (hLf : Lf.length ≤ 320) (hok : okB Lf = true) (A B : Nat) (hAB : A + B = Lf.length) (s : ByteArray) (hs : s.size ≤ 1000000) : ∀ (d i p f : Nat), Lf.length ≤ i + d → i ≤ Lf.length → d < f →
    (∀ s ∈ cW Lf d i, 0 < lens.getD s.1.toNat 0) → At (aM s) p (wz lens (cW Lf d i)) →
    bH 200000 f ((A : Int), (B : Int), s, (p : Int), 0, bO lens, ((bg lens 15 : Nat) : Int), Lf.take i, ar lens 15) = some (.inr ((A : Int), s, ((p + (wz lens (cW Lf d i)).length : Nat) : Int), 0, Lf)) := by
  have w2 : IntKind.wrap .i64 ((A : Int) + (B : Int)) = ((A + B : Nat) : Int) := by rw [wrap_i64 (by omega) (by omega)]; omega
  have done : ∀ (i : Nat) (p : Int) (f : Nat), ¬ i < Lf.length → i ≤ Lf.length → bH 200000 (f + 1) ((A : Int), (B : Int), s, p, 0, bO lens, ((bg lens 15 : Nat) : Int), Lf.take i, ar lens 15) = some (.inr ((A : Int), s, p, 0, Lf)) := by
    intro i p f h1 h2
    simp only [bH, gi, ae]
    rw [w2, if_neg (by rw [List.length_take]; simp only [decide_eq_true_eq]; omega), List.take_of_length_le (by omega)]
  intro d
  induction d with
  | zero =>
    intro i p f h1 h2 hf hp hA
    cases f with
    | zero => omega
    | succ f =>
      have e : wz lens (cW Lf 0 i) = [] := rfl
      rw [e, List.length_nil, Nat.add_zero]
      exact done i _ f (by omega) h2
  | succ d ih =>
    intro i p f h1 h2 hf hp hA
    cases f with
    | zero => omega
    | succ f =>
      by_cases hil : i < Lf.length
      · have ep : cW Lf (d + 1) i = (nb Lf i).1 :: cW Lf d (i + (nb Lf i).2) := by rw [cW, if_pos hil]
        have es : wz lens (cW Lf (d + 1) i) = sB lens (nb Lf i).1 ++ wz lens (cW Lf d (i + (nb Lf i).2)) := by rw [ep]; unfold wz; rw [List.flatMap_cons]
        obtain ⟨m1, m2, m3⟩ := tp hil
        have hI := fun p => ih (i + (nb Lf i).2) p f (by omega) m3 (by omega) (fun s hs => hp s (by rw [ep]; exact List.mem_cons_of_mem _ hs))
        have hpos := hp (nb Lf i).1 (by rw [ep]; exact List.mem_cons_self ..)
        rw [es] at hA ⊢
        obtain ⟨o1, o2, o3, o4, o5, o6⟩ := Cj hok hil m1
        generalize hsy : (nb Lf i).1 = sy at *
        generalize hcc : (nb Lf i).2 = c at *
        have htl : (Lf.take i).length = i := by rw [List.length_take]; omega
        have hj : sy.1.toNat < lens.length := by omega
        have hh := oG hj hpos
        obtain ⟨_, _, hat⟩ := Mj hh (dq hc).2
        have a1 := hA.left.left
        have a2 := hA.left.right
        have a3 := hA.right
        rw [← hat] at a1
        have hn := iO hc hh s hs p a1
        obtain ⟨v, hr, ht⟩ := FZ hLf hok hil m1 m3 s hs _ a2
        rw [hat, Int.toNat_of_nonneg o1] at hn
        have hlenS : (sB lens sy).length = (aI (bX lens sy.1.toNat)).length + ak sy.2.1 := by unfold sB; rw [List.length_append, am]
        have hI := hI _ a3
        have w3 : IntKind.wrap .i64 ((i : Int) + (c : Int)) = ((i + c : Nat) : Int) := by rw [wrap_i64 (by omega) (by omega)]; omega
        have hcm : c ≤ 138 := by
          cases m1 <;> omega
        have hrep := yx 200000 c hcm (B : Int) (A : Int) v ((bg lens 15 : Nat) : Int) s ((p + (aI (bX lens sy.1.toNat)).length + ak sy.2.1 : Nat) : Int) 0 (Lf.take i) (by omega) (bO lens) (ar lens 15) c 0 200000 (by omega) (by omega)
        rw [List.replicate_zero, List.append_nil, ← ht, show ((0 : Nat) : Int) = 0 from rfl] at hrep
        rw [hlenS, ← Nat.add_assoc] at hI
        rw [List.length_append, hlenS, ← Nat.add_assoc, ← Nat.add_assoc]
        simp only [bH, gi, ae]
        rw [w2, if_pos (by rw [htl]; simp only [decide_eq_true_eq]; omega), hn, Option.bind_some]
        simp only
        rw [if_neg (by decide), hr, Option.bind_some]
        simp only
        rw [if_neg (by decide), htl, w3, aV (by omega), hrep, Option.bind_some]
        simp only
        rw [hI]
        rfl
      · have ep : cW Lf (d + 1) i = [] := by rw [cW, if_neg hil]
        have e : wz lens (cW Lf (d + 1) i) = [] := by rw [ep]; rfl
        rw [e, List.length_nil, Nat.add_zero]
        exact done i _ f hil h2
theorem Dl {lits dists : List Int} (h : HdOk lits dists) (s : ByteArray) (hs : s.size ≤ 1000000) (p : Nat) (hA : At (aM s) p (Br lits dists)) :
    Gf 200000 (s, (p : Int), 0) = some (.inr (lits.length, lits.length, dists.length, 0, s, ((p + (Br lits dists).length : Nat) : Int), 0, lits ++ dists)) := by
  obtain ⟨k1, k2, k3, k4⟩ := zk h
  obtain ⟨h1, h2, h3, h4, h5, h6⟩ := h
  have hn1 : rj lits dists ≤ 19 := oq _ 19
  have hn2 : 4 ≤ rj lits dists := yX _ 19 (by decide)
  have e : (lits ++ dists).length = lits.length + dists.length := List.length_append
  have hok : okB (lits ++ dists) = true := by rw [nd, h5, h6]; rfl
  have c5 : ak 5 = 5 := rfl
  have c4 : ak 4 = 4 := rfl
  have hob := iL (py lits dists) (rj lits dists) hn1
  have hlen : (Br lits dists).length = 5 + (5 + (4 + (3 * rj lits dists + (wz (py lits dists) (rM lits dists)).length))) := by
    unfold Br
    simp only [List.length_append, am, hob, c5, c4]
  rw [hlen]
  have a1 := hA.left
  have a2 := hA.right.left
  have a3 := hA.right.right.left
  have a4 := hA.right.right.right.left
  have a5 := hA.right.right.right.right
  simp only [am, c5, c4, hob] at a2 a3 a4 a5
  have r1 := cQ hs a1 (by omega) (by show _ < (2 : Int) ^ 5; omega)
  have r2 := cQ hs a2 (by omega) (by show _ < (2 : Int) ^ 5; omega)
  have r3 := cQ hs a3 (by omega) (by show _ < (2 : Int) ^ 4; omega)
  have r4 := Ga (py lits dists) k2.len k2.chk k2.bnd s hs _ a4
  have r5 := JR k2.len k2.chk (lits ++ dists) (by omega) hok lits.length dists.length (by omega) s hs (lits ++ dists).length 0 _ 200000 (by omega) (by omega) (by omega) k2.pos a5
  rw [show gP (py lits dists) 19 = rj lits dists from rfl] at r4
  rw [c5] at r1 r2
  rw [c4] at r3
  rw [List.take_zero, show cW (lits ++ dists) (lits ++ dists).length 0 = rM lits dists from rfl] at r5
  have w1 : IntKind.wrap .i64 (((lits.length - 257 : Nat) : Int) + 257) = (lits.length : Int) := by rw [wrap_i64 (by omega) (by omega)]; omega
  have w2 : IntKind.wrap .i64 (((dists.length - 1 : Nat) : Int) + 1) = (dists.length : Int) := by rw [wrap_i64 (by omega) (by omega)]; omega
  have w3 : IntKind.wrap .i64 (((rj lits dists - 4 : Nat) : Int) + 4) = (rj lits dists : Int) := by rw [wrap_i64 (by omega) (by omega)]; omega
  simp only [← Nat.add_assoc] at r5 ⊢
  simp only [Gf, d9, ae]
  rw [r1, Option.bind_some]
  simp only
  rw [r2, Option.bind_some]
  simp only
  rw [r3, Option.bind_some]
  simp only [Option.bind_some]
  rw [if_neg (by decide), w1, aV (by omega), w2, aV (by omega), w3, r4, Option.bind_some]
  simp only
  rw [if_neg (by decide), r5, Option.bind_some]
  simp only
  rw [if_pos (by rw [e]; simp only [decide_eq_true_eq]; omega), if_pos (by rw [e]; simp only [decide_eq_true_eq]; omega), Int.toNat_natCast, e, show lits.length + dists.length - lits.length = dists.length by omega]
set_option maxRecDepth 100000
theorem JP (N : Nat) (x1 n : Int) (l : List Tok) (i : Int) {b Ln D : Int} (hD : 1 ≤ D) (hD2 : D ≤ 32768) (hL0 : 0 ≤ Ln) (hL : Ln ≤ 258) : ∀ (d k f : Nat) (o : List Int), k + d = Ln.toNat → d < f → D ≤ (o.length : Int) → o.length + d ≤ 10000000 →
    bC N f ((k : Int), Ln, l, x1, n, i, o, b, Ln, D) = some (i, n, x1, l, oO D.toNat d o) := by
  intro d
  induction d with
  | zero =>
    intro k f o hk hf ho ho2
    cases f with
    | zero => omega
    | succ f =>
      simp only [bC, gO, ae]
      rw [aV (by omega)]
      rfl
  | succ d ih =>
    intro k f o hk hf ho ho2
    cases f with
    | zero => omega
    | succ f =>
      have w : IntKind.wrap .i64 ((k : Int) + 1) = ((k + 1 : Nat) : Int) := by rw [wrap_i64 (by omega) (by omega)]; omega
      have w2 : IntKind.wrap .i64 ((o.length : Int) - D) = ((o.length - D.toNat : Nat) : Int) := by rw [wrap_i64 (by omega) (by omega)]; omega
      simp only [bC, gO, ae]
      rw [aY (by omega), w2, if_pos (ay (by omega)), Int.toNat_natCast, bv (by omega), Option.bind_some, if_pos (by rw [decide_eq_true_eq, List.length_singleton]; omega), w, ih (k + 1) f _ (by omega) (by omega) (by rw [List.length_append, List.length_singleton]; omega) (by rw [List.length_append, List.length_singleton]; omega)]
      rfl
theorem JO (x0 : Int) (l : List Tok) (hl : l.length ≤ 20000) (hv : az l = true) : ∀ (d i f : Nat) (o : List Int), i + d = l.length → d < f → o.length + made (l.drop i) ≤ 9000000 →
    ft 200000 f ((i : Int), (l.length : Int), x0, l, o) = some (match kX o (l.drop i) with | some p => .inr (x0, p) | none => .inl (ByteArray.mk #[], 60)) := by
  intro d
  induction d with
  | zero =>
    intro i f o hi hf ho
    cases f with
    | zero => omega
    | succ f =>
      simp only [ft, pv, ae]
      rw [aV (by omega), List.drop_eq_nil_of_le (by omega)]
      rfl
  | succ d ih =>
    intro i f o hi hf ho
    cases f with
    | zero => omega
    | succ f =>
      have hil : i < l.length := by omega
      have hd : l.drop i = l[i] :: l.drop (i + 1) := List.drop_eq_getElem_cons hil
      have hva := eT hv hil
      rw [hd, pT] at ho
      have hw : IntKind.wrap .i64 ((i : Int) + 1) = ((i + 1 : Nat) : Int) := by rw [wrap_i64 (by omega) (by omega)]; omega
      have hli : l[i]? = some l[i] := List.getElem?_eq_getElem hil
      obtain ⟨mm1, mm2⟩ := oC hva
      simp only [ft, pv, ae]
      rw [hd]
      rw [aY (by omega), if_pos (ay hil), Int.toNat_natCast, hli, Option.bind_some, mn, Option.bind_some, hva, if_neg (by decide)]
      unfold kX
      generalize hte : l[i] = t at *
      obtain ⟨b, Ln, D, u⟩ := t
      rcases cd hva with ⟨e1, e3, e4⟩ | ⟨e1, e3, e4, e5, e6⟩
      · have e1 : Ln = 0 := e1
        have e3 : 0 ≤ b := e3
        have e4 : b ≤ 255 := e4
        subst e1
        have hm1 : cC (b, 0, D, u) = 1 := rfl
        have hx : iW o (b, 0, D, u) = some (o ++ [b]) := by unfold iW; rw [if_pos rfl]
        rw [hm1] at ho
        have hn' : ∀ (f : Nat) (o' : List Int), bC 200000 (f + 1) (0, 0, l, x0, (l.length : Int), (i : Int), o', b, 0, D) = some ((i : Int), (l.length : Int), x0, l, o') := by
          intro f o'
          simp only [bC, gO, ae]
          rw [if_neg (by decide)]
        have hn := hn' 199999
        simp only
        rw [if_pos (by rfl), D3 e3 e4, if_pos (by rw [decide_eq_true_eq, List.length_singleton]; omega), hn, hx, Option.bind_some]
        simp only
        rw [hw, ih (i + 1) f (o ++ [b]) (by omega) (by omega) (by rw [List.length_append, List.length_singleton]; omega), Option.bind_some]
        cases kX (o ++ [b]) (l.drop (i + 1)) <;> rfl
      · have e1 : Ln ≠ 0 := e1
        have e3 : 3 ≤ Ln := e3
        have e4 : Ln ≤ 258 := e4
        have e5 : 1 ≤ D := e5
        have e6 : D ≤ 32768 := e6
        have hm1 : cC (b, Ln, D, u) = Ln.toNat := by unfold cC; rw [if_neg e1]
        rw [hm1] at ho
        simp only
        rw [if_neg (by simpa using e1)]
        by_cases hD : (o.length : Int) < D
        · have hx : iW o (b, Ln, D, u) = none := by unfold iW; rw [if_neg e1, if_pos hD]
          rw [if_pos (by simpa using hD), hx]
        · have hx : iW o (b, Ln, D, u) = some (oO D.toNat Ln.toNat o) := by unfold iW; rw [if_neg e1, if_neg hD]
          have hc := JP 200000 x0 (l.length : Int) l (i : Int) (b := b) e5 e6 (by omega) e4 Ln.toNat 0 200000 o (by omega) (by omega) (by omega) (by omega)
          rw [show ((0 : Nat) : Int) = 0 from rfl] at hc
          rw [if_neg (by simpa using hD), hc, Option.bind_some, hx]
          simp only
          rw [hw, ih (i + 1) f _ (by omega) (by omega) (by rw [qa]; omega), Option.bind_some]
          cases kX (oO D.toNat Ln.toNat o) (l.drop (i + 1)) <;> rfl
theorem rD (w : ByteArray) (hw : w.size ≤ 1000000) (l : List Tok) (hl : l.length ≤ 20000) (hv : az l = true) (hm : made l ≤ 8000000) : Dk 200000 (w, l) = some (rN w l) := by
  have hs := eh w
  have hb := c8 (aQ w)
  have h := JO ((bytesOf (aQ w)).length : Int) l hl hv l.length 0 200000 (bytesOf (aQ w)) (by omega) (by omega) (by rw [List.drop_zero]; omega)
  rw [show ((0 : Nat) : Int) = 0 from rfl, List.drop_zero] at h
  simp only [Dk, ae]
  rw [fi _ w hw, Option.bind_some, if_pos (by rw [decide_eq_true_eq]; omega), h, Option.bind_some]
  unfold rN
  cases hx : kX (bytesOf (aQ w)) l with
  | none => rfl
  | some p =>
    have hlen := tX hx
    simp only
    rw [aY (by omega), Int.toNat_natCast, List.take_of_length_le (by rw [List.length_drop]; omega), hb]
theorem yw {A B : List Int} (hA : (chk A).2 = 0) (hB : (chk B).2 = 0) (l : List Tok) (hl : l.length ≤ 10000) (hv : az l = true) (ho : iZ (af A) (af B) l = true) (most : Int) (hm : (made l : Int) ≤ most) (hm0 : most ≤ 2000000000) (s : ByteArray) (hs : s.size ≤ 1000000) (p : Nat) (hat : At (aM s) p (gz A B l).2) :
    wU 200000 (A, B, most, s, (p : Int), 0) = some (0, s, ((p + (gz A B l).2.length : Nat) : Int), 0, l) := by
  have hd : (gz A B l).2 = l.flatMap (iB (af A) (af B)) ++ aI (at_ (af A) 256) := by
    unfold gz
    rw [hv, ho, hA, hB]
    simp only [Bool.not_true, bne_self_eq_false, Bool.or_self, cond_false, cond_true]
    unfold dr
    rw [List.take_length]
  unfold iZ at ho
  rw [Bool.and_eq_true, List.all_eq_true] at ho
  have hv2 : ∀ t ∈ l, bo t.1 t.2.1 t.2.2.1 = true := by
    unfold az at hv
    exact List.all_eq_true.1 hv
  rw [hd] at hat ⊢
  have h := JQ hA hB ho.1 most hm0 s hs l [] 0 p 200000 (by omega) (by simpa using (by omega : l.length ≤ 20000)) hv2 ho.2 (by omega) hat
  rw [List.nil_append, show ((0 : Nat) : Int) = 0 from rfl, ← List.length_append] at h
  simp only [wU, ae]
  rw [je (by decide), je (by decide), hA, hB, if_pos rfl, if_pos rfl, Option.bind_some]
  simp only
  rw [Option.bind_some]
  simp only
  rw [if_neg (by decide), if_neg (by decide), h, Option.bind_some]
theorem Gh {l : List Tok} (hl : l.length ≤ 10000) (hv : az l = true) (own last : Bool) (w : ByteArray) (hw : w.size ≤ 1000000) (most : Int) (hm : (made l : Int) ≤ most) (hm0 : most ≤ 2000000000) (s : ByteArray) (hs : s.size ≤ 1000000) (p : Nat) (hat : At (aM s) p (bc l own last)) :
    wV 200000 ((if own = true then 2 else 1), w, most, s, ((p + 3 : Nat) : Int), 0) = some ((rN w l).1, (rN w l).2, s, ((p + (bc l own last).length : Nat) : Int), 0) := by
  have hmade := G3 hv
  have hE := rD w hw l (by omega) hv (by omega)
  have h2 : ∀ k, (aG 2 k).length = 2 := fun k => by rw [am]; rfl
  cases own with
  | false =>
    have hC : bc l false last = ([last] ++ aG 2 1) ++ (gz pZ p6 l).2 := by unfold bc; simp only [Bool.false_eq_true, if_false]
    rw [hC] at hat ⊢
    have a2 := hat.right
    rw [List.length_append, List.length_singleton, h2] at a2
    have r := yw Cz CB l hl hv (Mt hv) most hm hm0 s hs (p + 3) a2
    have hlen : p + 3 + (gz pZ p6 l).2.length = p + (([last] ++ aG 2 1) ++ (gz pZ p6 l).2).length := by simp only [List.length_append, List.length_singleton, h2]; omega
    rw [hlen] at r
    simp only [wV, ae]
    rw [r9, Option.bind_some, if_neg (by decide), r, Option.bind_some]
    simp only
    rw [if_neg (by decide), hE, Option.bind_some]
  | true =>
    obtain ⟨o1, o2, o3, o4, _⟩ := Es hl hv
    have hC : bc l true last = ([last] ++ aG 2 2) ++ (Br (ba l) (aU l) ++ (gz (ba l) (aU l) l).2) := by unfold bc; simp only [if_true]
    rw [hC] at hat ⊢
    have a2 := hat.right.left
    have a3 := hat.right.right
    rw [List.length_append, List.length_singleton, h2] at a2 a3
    have r3 := Dl o1 s hs (p + 3) a2
    have r4 := yw o2 o3 l hl hv o4 most hm hm0 s hs _ a3
    have hlen : p + (1 + 2) + (Br (ba l) (aU l)).length + (gz (ba l) (aU l) l).2.length = p + (([last] ++ aG 2 2) ++ (Br (ba l) (aU l) ++ (gz (ba l) (aU l) l).2)).length := by simp only [List.length_append, List.length_singleton, h2]; omega
    rw [hlen] at r4
    have ht1 : List.take (ba l).length (List.drop 0 (ba l ++ aU l)) = ba l := List.take_left
    have ht2 : List.take (aU l).length (List.drop (ba l).length (ba l ++ aU l)) = aU l := by rw [List.drop_left, List.take_length]
    simp only [wV, ae]
    rw [r9, Option.bind_some, if_pos (by rfl), r3, Option.bind_some]
    simp only
    rw [if_neg (by decide), ht1, ht2, r4, Option.bind_some]
    simp only
    rw [if_neg (by decide), hE, Option.bind_some]
set_option maxRecDepth 100000
theorem MZ (s : ByteArray) (k n : Nat) (h : k + n ≤ s.size) : aM (s.extract k (k + n)) = ((aM s).drop (8 * k)).take (8 * n) := by
  have hs : s.data.toList.length = s.size := by simp
  have e : (s.extract k (k + n)).data.toList = (s.data.toList.drop k).take n := by
    rw [ByteArray.data_extract, Array.toList_extract, List.extract_eq_take_drop]
    congr 1
    omega
  unfold aM
  rw [e]
  generalize s.data.toList = l at *
  have e1 : bitsOf l = bitsOf (l.take k) ++ bitsOf (l.drop k) := by rw [← mQ, List.take_append_drop]
  have e2 : bitsOf (l.drop k) = bitsOf ((l.drop k).take n) ++ bitsOf ((l.drop k).drop n) := by rw [← mQ, List.take_append_drop]
  rw [e1, List.drop_left' (by rw [eN, List.length_take]; omega), e2, List.take_left' (by rw [eN, List.length_take, List.length_drop]; omega)]
theorem bytes_at {s x : ByteArray} {k : Nat} (hA : At (aM s) (8 * k) (aM x)) : s.extract k (k + x.size) = x := by
  have hle := hA.le
  have ht := hA.take
  rw [aA, aA] at hle
  rw [aA] at ht
  have e := MZ s k x.size (by omega)
  rw [ht] at e
  rw [← sL (s.extract k (k + x.size)), e, sL]
theorem lG (N : Nat) (s : ByteArray) (p : Nat) (e : Int) (hp : p ≤ 100000000) : Gc N (s, (p : Int), e, ()) = some ((((8 - p % 8) % 8 : Nat)) : Int) := by
  simp only [Gc]
  have e1 : Int.tmod (p : Int) 8 = ((p % 8 : Nat) : Int) := by rw [Int.tmod_eq_emod_of_nonneg (by omega)]; omega
  rw [e1, wrap_i64 (by omega) (by omega), Int.tmod_eq_emod_of_nonneg (by omega)]
  congr 1
  omega
theorem Dm (N : Nat) (n : Int) (s : ByteArray) (hs : s.size ≤ 1000000) (p : Nat) (h : (p : Int) + n ≤ ((8 * s.size : Nat) : Int)) (hp : p ≤ 8 * s.size) : mH N (n, s, (p : Int), 0) = some (true, s, (p : Int), 0) := by
  simp only [mH, ae]
  rw [if_pos (by decide), d0 N s p 0 (by omega) hp, Option.bind_some, aV (by omega)]
  rfl
theorem JU {s x : ByteArray} (hs : s.size ≤ 1000000) {k : Nat} (hA : At (aM s) (8 * k) (aM x)) : Gg 200000 ((x.size : Int), s, ((8 * k : Nat) : Int), 0) = some (x, s, ((8 * k + 8 * x.size : Nat) : Int), 0) := by
  have hb := bytes_at hA
  have hle := hA.le
  rw [aA, aA] at hle
  have m0 : (if (0 : Int) > (x.size : Int) then (0 : Int) else (x.size : Int)) = (x.size : Int) := if_neg (by omega)
  have w1 : IntKind.wrap .i64 ((8 : Int) * (x.size : Int)) = ((8 * x.size : Nat) : Int) := by rw [wrap_i64 (by omega) (by omega)]; omega
  have g : (8 - 8 * k % 8) % 8 = 0 := by omega
  have w2 : IntKind.wrap .i64 (((0 : Nat) : Int) + ((8 * x.size : Nat) : Int)) = ((8 * x.size : Nat) : Int) := by rw [wrap_i64 (by omega) (by omega)]; omega
  have w3 : IntKind.wrap .i64 (((8 * k : Nat) : Int) + ((0 : Nat) : Int)) = ((8 * k : Nat) : Int) := by rw [wrap_i64 (by omega) (by omega)]; omega
  have w4 : IntKind.wrap .i64 (Int.tdiv ((8 * k : Nat) : Int) 8) = (k : Int) := by rw [Int.tdiv_eq_ediv_of_nonneg (by omega), wrap_i64 (by omega) (by omega)]; omega
  have w5 : IntKind.wrap .i64 ((k : Int) + (x.size : Int)) = ((k + x.size : Nat) : Int) := by rw [wrap_i64 (by omega) (by omega)]; omega
  have w6 : IntKind.wrap .i64 ((8 : Int) * ((k + x.size : Nat) : Int)) = ((8 * k + 8 * x.size : Nat) : Int) := by rw [wrap_i64 (by omega) (by omega)]; omega
  simp only [Gg, ae]
  rw [m0, aV (by omega), lG _ s _ 0 (by omega), g, Option.bind_some, w1, w2, Dm _ _ s hs _ (by omega) (by omega), Option.bind_some]
  simp only
  rw [if_neg (by decide), lG _ s _ 0 (by omega), g, Option.bind_some, w3, w4, w5, aY (by omega), Int.toNat_natCast, aY (by omega), Int.toNat_natCast, hb, w6]
theorem Dt {s x : ByteArray} (hs : s.size ≤ 1000000) (hx : x.size ≤ 65535) (most : Int) (hm : (x.size : Int) ≤ most) (p : Nat)
    (hA : At (aM s) p (List.replicate ((8 - p % 8) % 8) false ++ (aG 16 (x.size : Int) ++ (aG 16 ((65535 - x.size : Nat) : Int) ++ aM x)))) :
    Gi 200000 (most, s, (p : Int), 0) = some (x, 0, s, ((p + (8 - p % 8) % 8 + 32 + 8 * x.size : Nat) : Int), 0) := by
  have hle := hA.le
  simp only [List.length_append, List.length_replicate, am, aA] at hle
  have c16 : ak 16 = 16 := rfl
  rw [← xG ((8 - p % 8) % 8) (by omega)] at hA
  have cg : ak (((8 - p % 8) % 8 : Nat) : Int) = (8 - p % 8) % 8 := EQ (by omega)
  have a1 := hA.left
  have a2 := hA.right.left
  have a3 := hA.right.right.left
  have a4 := hA.right.right.right
  simp only [am, c16, cg] at a2 a3 a4
  have r1 := cQ hs a1 (by omega) (by exact_mod_cast Nat.pow_pos (by decide))
  have r2 := cQ hs a2 (by omega) (by show _ < (2 : Int) ^ 16; omega)
  have r3 := cQ hs a3 (by omega) (by show _ < (2 : Int) ^ 16; omega)
  rw [cg] at r1
  rw [c16] at r2 r3
  obtain ⟨k, hk⟩ : ∃ k, p + (8 - p % 8) % 8 + 16 + 16 = 8 * k := ⟨(p + (8 - p % 8) % 8 + 16 + 16) / 8, by omega⟩
  rw [hk] at a4 r3
  have r4 := JU hs a4
  have hxx := D2 hx
  simp only [Gi, Oj, d9, ae]
  rw [lG _ s _ 0 (by omega), Option.bind_some, r1, Option.bind_some, Option.bind_some]
  simp only
  rw [r2, Option.bind_some]
  simp only
  rw [r3, Option.bind_some]
  simp only [Option.bind_some]
  rw [if_neg (by decide), hxx, if_neg (by decide), aV (by omega), r4, Option.bind_some]
  simp only
  rw [← hk]
theorem nK {s x : ByteArray} (hs : s.size ≤ 1000000) (hx : x.size ≤ 65535) (last : Bool) (w : ByteArray) (most : Int) (hm : (x.size : Int) ≤ most) (a : List Bool) (hA : At (aM s) a.length (aX a x last)) :
    Kr 200000 (w, most, s, (a.length : Int), 0) = some (x, last, 0, 0, s, ((a.length + (aX a x last).length : Nat) : Int), 0) := by
  have hTl := dF a x last
  have e : aX a x last = aG 1 (if last = true then 1 else 0) ++ (aG 2 0 ++ (List.replicate ((8 - (a.length + 3) % 8) % 8) false ++ (aG 16 (x.size : Int) ++ (aG 16 ((65535 - x.size : Nat) : Int) ++ aM x)))) := by
    rw [CX]
    unfold aX jz
    rw [List.length_append]
    rfl
  have hp : jz (a ++ [last, false, false]) = (8 - (a.length + 3) % 8) % 8 := by unfold jz; rw [List.length_append]; rfl
  rw [hTl, hp]
  rw [e] at hA
  have c1 : ak 1 = 1 := rfl
  have c2 : ak 2 = 2 := rfl
  have a1 := hA.left
  have a2 := hA.right.left
  have a3 := hA.right.right
  simp only [am, c1, c2] at a2 a3
  have r1 := cQ hs a1 (by split <;> decide) (by split <;> decide)
  have r2 := cQ hs a2 (by decide) (by decide)
  have r3 := Dt hs hx most hm _ a3
  rw [c1] at r1
  rw [c2] at r2
  have hlast : ((if last = true then (1 : Int) else 0) == 1) = last := by cases last <;> rfl
  simp only [Kr, d9, ae]
  rw [r1, Option.bind_some]
  simp only
  rw [r2, Option.bind_some]
  simp only [Option.bind_some]
  rw [if_neg (by decide), if_pos (by decide), r3, Option.bind_some]
  simp only
  rw [if_neg (by decide), hlast, show a.length + 1 + 2 + (8 - (a.length + 1 + 2) % 8) % 8 + 32 + 8 * x.size = a.length + (35 + (8 - (a.length + 3) % 8) % 8 + 8 * x.size) by omega]
theorem Js {l : List Tok} (hl : l.length ≤ 10000) (hv : az l = true) (own last : Bool) (w : ByteArray) (hw : w.size ≤ 1000000) (most : Int) (hm : (made l : Int) ≤ most) (hm0 : most ≤ 2000000000) (s : ByteArray) (hs : s.size ≤ 1000000) (p : Nat) (hat : At (aM s) p (bc l own last)) {x : ByteArray} (hx : rN w l = (x, 0)) :
    Kr 200000 (w, most, s, (p : Int), 0) = some (x, last, (if own = true then 2 else 1), 0, s, ((p + (bc l own last).length : Nat) : Int), 0) := by
  have r3 := Gh hl hv own last w hw most hm hm0 s hs p hat
  rw [hx] at r3
  have e : bc l own last = aG 1 (if last = true then 1 else 0) ++ (aG 2 (if own = true then 2 else 1) ++ (if own = true then Br (ba l) (aU l) ++ (gz (ba l) (aU l) l).2 else (gz pZ p6 l).2)) := by
    rw [CX]; unfold bc; rw [List.append_assoc]
  have hat2 := hat
  rw [e] at hat2
  have c1 : ak 1 = 1 := rfl
  have c2 : ak 2 = 2 := rfl
  have a1 := hat2.left
  have a2 := hat2.right.left
  simp only [am, c1] at a2
  have r1 := cQ hs a1 (by split <;> decide) (by split <;> decide)
  have r2 := cQ hs a2 (by split <;> decide) (by split <;> decide)
  rw [c1] at r1
  rw [c2, show p + 1 + 2 = p + 3 by omega] at r2
  have hlast : ((if last = true then (1 : Int) else 0) == 1) = last := by cases last <;> rfl
  simp only [Kr, d9, ae]
  rw [r1, Option.bind_some]
  simp only
  rw [r2, Option.bind_some]
  simp only [Option.bind_some]
  rw [if_neg (by decide), hlast]
  cases own with
  | true =>
    rw [if_pos rfl] at r3 ⊢
    rw [if_neg (by decide), if_neg (by decide), if_pos (by decide), r3, Option.bind_some]
    simp only
    rw [if_neg (by decide)]
  | false =>
    rw [show (if false = true then (2 : Int) else 1) = 1 from rfl] at r3 ⊢
    rw [if_neg (by decide), if_pos (by decide), r3, Option.bind_some]
    simp only
    rw [if_neg (by decide)]
theorem HX (w : ByteArray) : aQ (aQ w) = aQ w := by
  have h := eh w
  generalize aQ w = v at *
  unfold aQ
  rw [if_neg (by omega)]
theorem QK {w x : ByteArray} {P : List Tok} (hP : PackOk w x P) (hx : x.size ≤ 8000) (last : Bool) (most : Int) (hm : (x.size : Int) ≤ most) (hm0 : most ≤ 2000000000) (s : ByteArray) (hs : s.size ≤ 1000000) (a : List Bool) (ha : a.length % 8 = 0) (hA : At (aM s) a.length (dR P x last)) :
    ∃ kind, Kr 200000 (aQ w, most, s, (a.length : Int), 0) = some (x, last, kind, 0, s, ((a.length + (dR P x last).length : Nat) : Int), 0) := by
  have hts := eh w
  rcases uj P x last with ⟨own, e, _⟩ | e
  · rw [e] at hA ⊢
    have hE : rN (aQ w) P = (x, 0) := by
      have := Pr hP
      unfold rN at this ⊢
      rw [HX]
      exact this
    exact ⟨_, Js (show P.length ≤ 10000 by have := hP.len; omega) hP.valid own last (aQ w) (by omega) most (by rw [hP.made]; exact hm) hm0 s hs a.length hA hE⟩
  · rw [e] at hA ⊢
    rw [← qX ha] at hA ⊢
    exact ⟨_, nK hs (by omega) last (aQ w) most hm a hA⟩
theorem qL {w out x : ByteArray} (kind : Int) (most q : Int) (s : ByteArray) (hs : s.size ≤ 1000000) (p : Nat) (e : Bool) (f : Nat) (hp : p < 8 * s.size) (hw : w.size ≤ 500000) (ho : out.size ≤ 400000) (hx : x.size ≤ 100000) (hm0 : most ≤ 2000000000) (hm1 : (out.size : Int) ≤ most)
    (h : Kr 200000 (aQ (w ++ out), most - (out.size : Int), s, (p : Int), 0) = some (x, false, kind, 0, s, q, 0)) :
    bw 200000 (f + 1) (e, out, w, most, s, (p : Int), 0) = bw 200000 f (kind == 0 && decide (x.size = 0), out ++ x, w, most, s, q, 0) := by
  have w1 : IntKind.wrap .i64 (most - (out.size : Int)) = most - (out.size : Int) := wrap_i64 (by omega) (by omega)
  have hwo : (w ++ out).size ≤ 1000000 := by rw [ByteArray.size_append]; omega
  simp only [bw, mz, ae]
  rw [d0 _ s p 0 (by omega) (by omega), Option.bind_some, aY (by omega), aV (by omega), fi _ _ hwo, Option.bind_some, w1, h, Option.bind_some]
  simp only
  rw [if_neg (by decide), if_neg (by decide), aV (by omega)]
  by_cases hk : kind = 0
  · subst hk
    rw [if_pos (by rfl), jl]
    show _ = bw 200000 f (decide (x.size = 0), out ++ x, w, most, s, q, 0)
    cases bw 200000 f (decide (x.size = 0), out ++ x, w, most, s, q, 0) with
    | none => rfl
    | some r => cases r <;> rfl
  · have : (kind == 0) = false := by simpa using hk
    rw [this, if_neg (by decide)]
    show _ = bw 200000 f (false, out ++ x, w, most, s, q, 0)
    cases bw 200000 f (false, out ++ x, w, most, s, q, 0) with
    | none => rfl
    | some r => cases r <;> rfl
theorem QU {w out x : ByteArray} {P : List Tok} (hP : PackOk (w ++ out) x P) (hw : w.size ≤ 500000) (ho : out.size ≤ 100000) (hx : x.size ≤ 8000) (most : Int) (hm : ((out.size + x.size : Nat) : Int) ≤ most) (hm0 : most ≤ 2000000000) (s : ByteArray) (hs : s.size ≤ 1000000) (a : List Bool) (ha : a.length % 8 = 0) (hA : At (aM s) a.length (ef x P)) :
    ∃ k, k ≤ 2 ∧ ∀ f e, bw 200000 (f + k) (e, out, w, most, s, (a.length : Int), 0) = bw 200000 f (true, out ++ x, w, most, s, ((a.length + (ef x P).length : Nat) : Int), 0) := by
  have e0 : (ByteArray.mk #[]).size = 0 := rfl
  by_cases h0 : x.size = 0
  · have hse : x = ByteArray.mk #[] := by
      apply ByteArray.ext
      apply Array.eq_empty_of_size_eq_zero
      exact h0
    have e : ef x P = aX a (ByteArray.mk #[]) false := by unfold ef; rw [if_pos h0, qX ha]
    rw [e] at hA ⊢
    have hle := hA.le
    have hlen := dF a (ByteArray.mk #[]) false
    rw [aA] at hle
    have h := nK hs (by decide) false (aQ (w ++ out)) (most - (out.size : Int)) (by rw [e0]; omega) a hA
    refine ⟨1, by decide, fun f e => ?_⟩
    rw [qL (w := w) (out := out) 0 most _ s hs _ e f (by omega) (by omega) (by omega) (by rw [e0]; decide) hm0 (by omega) h, hse]
    rfl
  · have e : ef x P = dR P x false ++ aX (dR P x false) (ByteArray.mk #[]) false := by unfold ef; rw [if_neg h0]
    have est : aX (dR P x false) (ByteArray.mk #[]) false = aX (a ++ dR P x false) (ByteArray.mk #[]) false := by
      unfold aX
      rw [List.append_assoc, Cd ha]
    rw [e, est] at hA ⊢
    have a1 := hA.left
    have a2 := hA.right
    have hle := a2.le
    rw [aA] at hle
    have hTl : 0 < (aX (a ++ dR P x false) (ByteArray.mk #[]) false).length := by rw [dF]; omega
    rw [← List.length_append] at a2 hle
    obtain ⟨kind, g1⟩ := QK hP hx false (most - (out.size : Int)) (by omega) (by omega) s hs a ha a1
    have g2 := nK hs (by decide) false (aQ (w ++ (out ++ x))) (most - ((out ++ x).size : Int)) (by rw [e0, ByteArray.size_append]; omega) (a ++ dR P x false) a2
    rw [List.length_append] at g2 hle
    refine ⟨2, by decide, fun f e => ?_⟩
    rw [show f + 2 = f + 1 + 1 by omega, qL (w := w) (out := out) kind most _ s hs _ e (f + 1) (by omega) (by omega) (by omega) (by omega) hm0 (by omega) g1]
    rw [qL (w := w) (out := out ++ x) 0 most _ s hs _ _ f (by omega) (by omega) (by rw [ByteArray.size_append]; omega) (by rw [e0]; decide) hm0 (by rw [ByteArray.size_append]; omega) g2, Hi, List.length_append, Nat.add_assoc]
    rfl
theorem QW (f : Nat) (out w : ByteArray) (most : Int) (s : ByteArray) (hs : s.size ≤ 1000000) : bw 200000 (f + 1) (true, out, w, most, s, ((8 * s.size : Nat) : Int), 0) = some (.inr (true, out)) := by
  simp only [bw, mz, ae]
  rw [d0 _ s _ 0 (by omega) (by omega), Option.bind_some, aV (by omega)]
theorem QV {w x : ByteArray} {P : List Tok} (hP : PackOk w x P) (hw : w.size ≤ 500000) (hx : x.size ≤ 8000) (most : Int) (hm : (x.size : Int) ≤ most) (hm0 : most ≤ 2000000000) : RI 200000 (w, er (ef x P), most) = some (x, 0) := by
  obtain ⟨l1, l2⟩ := oa x P (by omega)
  have hsz := lV (ef x P)
  have hal : aM (er (ef x P)) = ef x P := by rw [Jo, yf l2]
  have hP' : PackOk (w ++ ByteArray.mk #[]) x P := by rw [Hi]; exact hP
  have hl8 : (ef x P).length = 8 * (er (ef x P)).size := by rw [hsz]; omega
  obtain ⟨k, k1, k2⟩ := QU hP' hw (by decide) hx most (by rw [show (ByteArray.mk #[]).size = 0 from rfl]; omega) hm0 (er (ef x P)) (by omega) [] rfl ⟨[], [], by rw [hal]; simp, rfl⟩
  have h := k2 (199999 - k + 1) false
  rw [show 199999 - k + 1 + k = 200000 by omega, List.length_nil, Nat.zero_add, show ((0 : Nat) : Int) = 0 from rfl, GX, hl8, QW _ _ _ _ _ (by omega)] at h
  simp only [RI, UO, ae, Option.bind_some]
  rw [h, Option.bind_some]
  rfl
set_option maxRecDepth 100000
theorem Mi (X : ByteArray) (h : X.size ≤ 1000000) : FU 200000 (D1 ++ X) = some 0 := by
  obtain ⟨e, e1, e2⟩ := vN (D1 ++ X) (by rw [ByteArray.size_append, Mh]; omega)
  rw [Tj] at e2
  cases e2
  exact e1
set_option maxRecDepth 100000
theorem Pw {lens : List Int} (h : (chk lens).2 = 0) (L : List Bool) :
    ∀ (d p : Nat) (l : List Bool), l.length + d = bg lens 15 → p ≤ L.length → (0 < l.length → first lens l.length + lens.count (l.length : Int) ≤ kh l) →
    ∃ (y e : Int) (p' : Nat), zw lens (bg lens 15) L d (kh l) p = some (y, e, p') ∧ (e = 0 ∨ e = 2 ∨ e = 3) ∧ p ≤ p' ∧ p' ≤ L.length ∧ (e = 0 → p < p' ∧ 0 ≤ y ∧ y < (lens.length : Int)) := by
  have hlg := oE lens 15
  intro d
  induction d with
  | zero => intro p l _ hp _; exact ⟨_, _, _, rfl, .inr (.inr rfl), Nat.le_refl _, hp, fun h => absurd h (by decide)⟩
  | succ d ih =>
    intro p l hl hp hge
    have e1 : bg lens 15 - d = l.length + 1 := by omega
    simp only [zw]
    rw [e1]
    by_cases hlt : p < L.length
    · rw [if_pos hlt]
      have hw : 2 * kh l + (L.getD p false).toNat = kh (l ++ [L.getD p false]) := (pB _ _).symm
      rw [hw]
      have hn : (l ++ [L.getD p false]).length = l.length + 1 := by rw [List.length_append, List.length_singleton]
      have hfirst : first lens (l.length + 1) ≤ kh (l ++ [L.getD p false]) := by
        rw [pB]
        by_cases h0 : 0 < l.length
        · have := hge h0
          rw [jF lens h0]
          omega
        · rw [show l.length = 0 by omega]
          exact Nat.zero_le _
      generalize l ++ [L.getD p false] = m at *
      rw [← hn] at hfirst ⊢
      by_cases hA : kh m < first lens m.length + lens.count (m.length : Int)
      · obtain ⟨k, k1, k2, k3⟩ := My (N := 200000) (by decide) h m (by omega) (by omega) hfirst hA
        rw [if_pos hA, if_pos hfirst]
        exact ⟨_, _, _, rfl, .inl rfl, by omega, by omega, fun _ => ⟨by omega, by rw [k3]; omega⟩⟩
      · rw [if_neg hA]
        by_cases hR : du lens (bg lens 15) d ≤ kh m - (first lens m.length + lens.count (m.length : Int))
        · rw [if_pos hR]
          exact ⟨_, _, _, rfl, .inr (.inr rfl), by omega, by omega, fun h => absurd h (by decide)⟩
        · rw [if_neg hR]
          obtain ⟨y, e, p', g1, g3, g4, g5, g6⟩ := ih (p + 1) m (by omega) (by omega) (fun _ => by omega)
          exact ⟨y, e, p', g1, g3, by omega, g5, fun he => ⟨by have := g6 he; omega, (g6 he).2⟩⟩
    · rw [if_neg hlt]
      exact ⟨_, _, _, rfl, .inr (.inl rfl), Nat.le_refl _, hp, fun h => absurd h (by decide)⟩
theorem ow {lens : List Int} (h : (chk lens).2 = 0) (s : ByteArray) (hs : s.size ≤ 1000000) (p : Nat) (hp : p ≤ 8 * s.size) :
    ∃ (y e : Int) (p' : Nat), wT 200000 (bO lens, ((bg lens 15 : Nat) : Int), s, (p : Int), 0, ar lens 15) = some (y, e, bO lens, ((bg lens 15 : Nat) : Int), s, (p' : Int), (if e = 2 then 2 else 0), ar lens 15) ∧
      (e = 0 ∨ e = 2 ∨ e = 3) ∧ p ≤ p' ∧ p' ≤ 8 * s.size ∧ (e = 0 → p < p' ∧ 0 ≤ y ∧ y < (lens.length : Int)) := by
  have hal := aA s
  obtain ⟨a1, a2⟩ := dq h
  obtain ⟨y, e, p', g1, g3, g4, g5, g6⟩ := Pw h (aM s) (bg lens 15) p [] (by simp) (by omega) (fun h => absurd h (by decide))
  exact ⟨y, e, p', yu (by decide) lens a1 s hs p hp g1, g3, g4, by omega, g6⟩
theorem Q9 {L : List Bool} {p : Nat} {e n : Int} : p ≤ (rd L p e n).2.1 := by
  unfold rd
  split
  · split
    · exact Nat.le_add_right _ _
    · exact Nat.le_refl _
  · exact Nat.le_refl _
theorem GN {L : List Bool} {p : Nat} {n : Int} : ((rd L p 0 n).2.2 = 0 ∧ (rd L p 0 n).2.1 = p + ak n ∧ (rd L p 0 n).1 < 2 ^ ak n) ∨ ((rd L p 0 n).2.2 = 2 ∧ (rd L p 0 n).1 = 0) := by
  unfold rd
  rw [if_pos rfl]
  split
  · rename_i h
    refine .inl ⟨rfl, rfl, ?_⟩
    have := ji ((L.drop p).take (ak n))
    rw [List.length_take, List.length_drop, Nat.min_eq_left (by omega)] at this
    exact this
  · exact .inr ⟨rfl, rfl⟩
theorem cF (s : ByteArray) (hs : s.size ≤ 1000000) (p : Nat) (hp : p ≤ 8 * s.size) (e n : Int) :
    ∃ (v : Nat) (p' : Nat) (e' : Int), fT 200000 (n, s, (p : Int), e) = some ((v : Int), s, (p' : Int), e') ∧ p ≤ p' ∧ p' ≤ 8 * s.size ∧ v < 2 ^ ak n ∧ (e' = 0 → p' = p + ak n) ∧ (e ≠ 0 → e' = e) ∧ (e = 0 → e' = 0 ∨ e' = 2) := by
  have hal := aA s
  have h := o7 (N := 200000) (by decide) s p e n (by omega) hp
  have h1 := Q9 (L := aM s) (p := p) (e := e) (n := n)
  have h2 := Q8 (L := aM s) (p := p) (e := e) (n := n) (by omega)
  refine ⟨_, _, _, h, h1, by omega, ?_⟩
  by_cases he : e = 0
  · subst he
    rcases GN (L := aM s) (p := p) (n := n) with ⟨a, b, c⟩ | ⟨a, b⟩
    · exact ⟨c, fun _ => b, fun h => absurd rfl h, fun _ => .inl a⟩
    · exact ⟨by rw [b]; exact Nat.pow_pos (by decide), fun h => by rw [a] at h; exact absurd h (by decide), fun h => absurd rfl h, fun _ => .inr a⟩
  · unfold rd
    rw [if_neg he]
    exact ⟨Nat.pow_pos (by decide), fun h => absurd h he, fun _ => rfl, fun h => absurd h he⟩
set_option maxRecDepth 100000
theorem Pj : ∀ j, j < 29 → 3 ≤ cL.getD j 0 ∧ cL.getD j 0 + 2 ^ ak (iu.getD j 0) ≤ 259 := by decide +kernel
theorem Pt : ∀ j, j < 30 → 1 ≤ cO.getD j 0 ∧ cO.getD j 0 + 2 ^ ak (iw.getD j 0) ≤ 32769 := by decide +kernel
theorem GW (lb lx : List Int) (j : Nat) (lo hi : Int) (h0 : 0 ≤ lo) (h1 : lo ≤ lb.getD j 0) (h2 : lb.getD j 0 + 2 ^ ak (lx.getD j 0) ≤ hi) (h3 : hi ≤ 1000000) (v : Nat) (hv : v < 2 ^ ak (lx.getD j 0)) :
    lo ≤ IntKind.wrap .i64 (lb.getD j 0 + (v : Int)) ∧ IntKind.wrap .i64 (lb.getD j 0 + (v : Int)) < hi := by
  have : (v : Int) < 2 ^ ak (lx.getD j 0) := by exact_mod_cast hv
  rw [wrap_i64 (by omega) (by omega)]
  omega
theorem LA (s : ByteArray) (p : Nat) (hp : p ≤ 8 * s.size) (n : Int) :
    p ≤ (rd (aM s) p 0 n).2.1 ∧ (rd (aM s) p 0 n).2.1 ≤ 8 * s.size ∧ (rd (aM s) p 0 n).1 < 2 ^ ak n ∧ ((rd (aM s) p 0 n).2.2 = 0 ∨ (rd (aM s) p 0 n).2.2 = 2) := by
  have hal := aA s
  have h1 := Q9 (L := aM s) (p := p) (e := 0) (n := n)
  have h2 := Q8 (L := aM s) (p := p) (e := 0) (n := n) (by omega)
  rcases GN (L := aM s) (p := p) (n := n) with ⟨a, b, c⟩ | ⟨a, b⟩
  · exact ⟨h1, by omega, c, .inl a⟩
  · exact ⟨h1, by omega, by rw [b]; exact Nat.pow_pos (by decide), .inr a⟩
theorem IR {B : List Int} (hB : (chk B).2 = 0) (s : ByteArray) (hs : s.size ≤ 1000000) (p : Nat) (hp : p ≤ 8 * s.size) (y : Int) (hy : 256 < y) (hy2 : y ≤ 1000) :
    ∃ (L D e e1 : Int) (p' : Nat), JG 200000 (y, s, (p : Int), 0, bO B, ((bg B 15 : Nat) : Int), ar B 15) = some (0, L, D, e, s, (p' : Int), e1, bO B, ((bg B 15 : Nat) : Int), ar B 15) ∧ p ≤ p' ∧ p' ≤ 8 * s.size ∧
      (e = 0 → e1 = 0 ∧ 3 ≤ L ∧ L ≤ 258 ∧ 1 ≤ D ∧ D ≤ 32768) := by
  simp only [JG, ae]
  by_cases h : y > 285
  · rw [aY (by omega)]
    exact ⟨_, _, _, _, _, rfl, Nat.le_refl _, hp, fun h => absurd h (by decide)⟩
  obtain ⟨j, rfl⟩ : ∃ j : Nat, y = 257 + (j : Int) := ⟨(y - 257).toNat, by omega⟩
  obtain ⟨t1, t2⟩ := Pj j (by omega)
  rw [aV (by omega), yq s hs p hp _ (by omega), GU (by omega), Option.bind_some]
  simp only
  obtain ⟨q1, q2, q3, q4⟩ := LA s p hp (iu.getD j 0)
  generalize rd (aM s) p 0 (iu.getD j 0) = R at *
  obtain ⟨v, p1, e1⟩ := R
  simp only at q1 q2 q3 q4 ⊢
  obtain ⟨n1, n2⟩ := GW cL iu j 3 259 (by decide) t1 t2 (by decide) v q3
  rcases q4 with rfl | rfl
  · rw [if_neg (by decide)]
    obtain ⟨y2, e2, p2, g1, g3, g4, g5, g6⟩ := ow hB s hs p1 q2
    rw [g1, Option.bind_some]
    simp only
    rcases g3 with rfl | rfl | rfl
    · rw [if_neg (by decide)]
      obtain ⟨_, z1, z2⟩ := g6 rfl
      have e2 : (if (0 : Int) = 2 then (2 : Int) else 0) = 0 := rfl
      rw [e2]
      by_cases hD : y2 ≥ 30
      · rw [aY hD]
        exact ⟨_, _, _, _, _, rfl, by omega, g5, fun h => absurd h (by decide)⟩
      · obtain ⟨k, rfl⟩ : ∃ k : Nat, y2 = (k : Int) := ⟨y2.toNat, by omega⟩
        obtain ⟨u1, u2⟩ := Pt k (by omega)
        rw [aV hD, yp s hs p2 g5 _ (by omega), show ((k : Nat) : Int) = 0 + (k : Int) by omega, GV (by omega), Option.bind_some]
        obtain ⟨r1, r2, r3, r4⟩ := LA s p2 g5 (iw.getD k 0)
        generalize rd (aM s) p2 0 (iw.getD k 0) = R2 at *
        obtain ⟨v2, p3, e3⟩ := R2
        simp only at r1 r2 r3 r4 ⊢
        obtain ⟨m1, m2⟩ := GW cO iw k 1 32769 (by decide) u1 u2 (by decide) v2 r3
        exact ⟨_, _, _, _, _, rfl, by omega, r2, fun h => ⟨h, n1, by omega, m1, by omega⟩⟩
    · rw [if_pos (by decide)]
      exact ⟨_, _, _, _, _, rfl, by omega, g5, fun h => absurd h (by decide)⟩
    · rw [if_pos (by decide)]
      exact ⟨_, _, _, _, _, rfl, by omega, g5, fun h => absurd h (by decide)⟩
  · rw [if_pos (by decide)]
    exact ⟨_, _, _, _, _, rfl, by omega, q2, fun h => absurd h (by decide)⟩
theorem xQ (l : List Tok) (t : Tok) : made (l ++ [t]) = made l + cC t := by
  rw [kN]
  unfold made
  rw [List.map_singleton, List.sum_singleton]
theorem sr {l : List Tok} {t : Tok} (h : az l = true) (ht : bo t.1 t.2.1 t.2.2.1 = true) : az (l ++ [t]) = true := by
  unfold az at h ⊢
  rw [List.all_append, h, Bool.true_and, List.all_cons, List.all_nil, ht]
  rfl
theorem Ly {A B : List Int} (hA : (chk A).2 = 0) (hB : (chk B).2 = 0) (most : Int) (hm0 : most ≤ 2000000000) (s : ByteArray) (hs : s.size ≤ 1000000) :
    ∀ (d f p : Nat) (out : List Tok), 8 * s.size ≤ p + d → d < f → p ≤ 8 * s.size → out.length ≤ p → az out = true → (made out : Int) ≤ most →
    ∃ (e e1 : Int) (p' : Nat) (out' : List Tok),
      bP 200000 f (most, (made out : Int), s, (p : Int), 0, out, bO A, ((bg A 15 : Nat) : Int), bO B, ((bg B 15 : Nat) : Int), ar A 15, ar B 15) = some (e, s, (p' : Int), e1, out') ∧
      p ≤ p' ∧ p' ≤ 8 * s.size ∧ (e = 0 → e1 = 0 ∧ az out' = true ∧ (made out' : Int) ≤ most ∧ out'.length ≤ 8 * s.size) := by
  obtain ⟨a1, a2⟩ := dq hA
  intro d
  induction d with
  | zero =>
    intro f p out hd hf hp ho hv hm
    cases f with
    | zero => omega
    | succ f =>
      obtain ⟨y, e, p', g1, g3, g4, g5, g6⟩ := ow hA s hs p hp
      simp only [bP, gh, ae]
      rw [g1, Option.bind_some]
      simp only
      rcases g3 with rfl | rfl | rfl
      · have := (g6 rfl).1
        omega
      · rw [if_pos (by decide)]
        exact ⟨_, _, _, _, rfl, g4, g5, fun h => absurd h (by decide)⟩
      · rw [if_pos (by decide)]
        exact ⟨_, _, _, _, rfl, g4, g5, fun h => absurd h (by decide)⟩
  | succ d ih =>
    intro f p out hd hf hp ho hv hm
    cases f with
    | zero => omega
    | succ f =>
      obtain ⟨y, e, p', g1, g3, g4, g5, g6⟩ := ow hA s hs p hp
      simp only [bP, gh, ae]
      rw [g1, Option.bind_some]
      simp only
      rcases g3 with rfl | rfl | rfl
      · obtain ⟨z1, z2, z3⟩ := g6 rfl
        have e2 : (if (0 : Int) = 2 then (2 : Int) else 0) = 0 := rfl
        simp only [e2]
        have happ : ∀ x : Tok, decide ((out.length + [x].length) * 24 ≤ 140737488355328 ∧ out.length + [x].length ≤ 140737488355328) = true := fun x => by
          rw [decide_eq_true_eq, List.length_singleton]; omega
        rw [if_neg (by decide)]
        by_cases h256 : y = 256
        · subst h256
          rw [if_pos (by rfl)]
          exact ⟨_, _, _, _, rfl, g4, g5, fun _ => ⟨rfl, hv, hm, by omega⟩⟩
        rw [if_neg (by simpa using h256)]
        by_cases hgt : y > 256
        · obtain ⟨L, D, e, e1, p2, k1, k2, k3, k4⟩ := IR hB s hs p' g5 y hgt (by omega)
          rw [aY hgt, k1, Option.bind_some]
          simp only
          by_cases he : e = 0
          · obtain ⟨c1, c2, c3, c4, c5⟩ := k4 he
            subst he; subst c1
            have w3 : (if (1 : Int) > L then (1 : Int) else L) = L := if_neg (by omega)
            have w4 : IntKind.wrap .i64 ((made out : Int) + L) = (made out : Int) + L := wrap_i64 (by omega) (by omega)
            rw [if_neg (by decide), w3, w4]
            by_cases hmo : (made out : Int) + L > most
            · rw [aY hmo]
              exact ⟨_, _, _, _, rfl, by omega, k3, fun h => absurd h (by decide)⟩
            · have hvt : bo 0 L D = true := by
                unfold bo inT
                rw [if_neg (by omega), decide_eq_true (by omega : (3 : Int) ≤ L), decide_eq_true (by omega : L ≤ 258), decide_eq_true (by omega : (1 : Int) ≤ D), decide_eq_true (by omega : D ≤ 32768)]
                rfl
              have hmt : cC (0, L, D, ()) = L.toNat := by unfold cC; rw [if_neg (by show ¬ L = 0; omega)]
              have hms : (made (out ++ [(0, L, D, ())]) : Int) = (made out : Int) + L := by rw [xQ, hmt]; omega
              obtain ⟨e, e1, p3, out', i1, i2, i3, i4⟩ := ih f p2 (out ++ [(0, L, D, ())]) (by omega) (by omega) k3 (by rw [List.length_append, List.length_singleton]; omega) (sr hv hvt) (by omega)
              rw [hms] at i1
              rw [aV hmo, if_pos (happ _), i1]
              exact ⟨e, e1, p3, out', rfl, by omega, i3, i4⟩
          · rw [if_pos (by simpa using he)]
            exact ⟨_, _, _, _, rfl, by omega, k3, fun h => absurd h he⟩
        · have w4 : IntKind.wrap .i64 ((made out : Int) + 1) = (made out : Int) + 1 := wrap_i64 (by omega) (by omega)
          rw [aV hgt, w4]
          by_cases hmo : (made out : Int) + 1 > most
          · rw [aY hmo]
            exact ⟨_, _, _, _, rfl, by omega, g5, fun h => absurd h (by decide)⟩
          · have hvt : bo y 0 0 = true := by
              unfold bo inT
              rw [if_pos rfl, decide_eq_true (by omega : (0 : Int) ≤ y), decide_eq_true (by omega : y ≤ 255)]
              rfl
            have hms : (made (out ++ [(y, 0, 0, ())]) : Int) = (made out : Int) + 1 := by rw [xQ]; rfl
            obtain ⟨e, e1, p3, out', i1, i2, i3, i4⟩ := ih f p' (out ++ [(y, 0, 0, ())]) (by omega) (by omega) g5 (by rw [List.length_append, List.length_singleton]; omega) (sr hv hvt) (by omega)
            rw [hms] at i1
            rw [aV hmo, if_pos (happ _), i1]
            exact ⟨e, e1, p3, out', rfl, by omega, i3, i4⟩
      · rw [if_pos (by decide)]
        exact ⟨_, _, _, _, rfl, g4, g5, fun h => absurd h (by decide)⟩
      · rw [if_pos (by decide)]
        exact ⟨_, _, _, _, rfl, g4, g5, fun h => absurd h (by decide)⟩
set_option maxRecDepth 100000
theorem Of (A B : List Int) (most : Int) (h0 : 0 ≤ most) (hm0 : most ≤ 2000000000) (s : ByteArray) (hs : s.size ≤ 20000) (p : Nat) (hp : p ≤ 8 * s.size) :
    ∃ (e e1 : Int) (p' : Nat) (out : List Tok), wU 200000 (A, B, most, s, (p : Int), 0) = some (e, s, (p' : Int), e1, out) ∧ p ≤ p' ∧ p' ≤ 8 * s.size ∧
      (e = 0 → e1 = 0 ∧ az out = true ∧ (made out : Int) ≤ most ∧ out.length ≤ 8 * s.size) := by
  simp only [wU, ae]
  rw [je (by decide), je (by decide), Option.bind_some]
  by_cases hA : (chk A).2 = 0
  · rw [if_pos hA]
    simp only
    rw [Option.bind_some]
    by_cases hB : (chk B).2 = 0
    · rw [if_pos hB]
      simp only
      rw [if_neg (by decide), if_neg (by decide)]
      obtain ⟨e, e1, p', out, g1, g2, g3, g4⟩ := Ly hA hB most hm0 s (by omega) (8 * s.size) 200000 p [] (by omega) (by omega) hp (Nat.zero_le _) rfl h0
      have g1' : bP 200000 200000 (most, 0, s, (p : Int), 0, [], bO A, ((bg A 15 : Nat) : Int), bO B, ((bg B 15 : Nat) : Int), ar A 15, ar B 15) = some (e, s, (p' : Int), e1, out) := g1
      rw [g1', Option.bind_some]
      exact ⟨e, e1, p', out, rfl, g2, g3, g4⟩
    · rw [if_neg hB]
      simp only
      rw [if_neg (by decide), if_pos (by simpa using hB)]
      exact ⟨_, _, _, _, rfl, Nat.le_refl _, hp, fun h => absurd h (by decide)⟩
  · rw [if_neg hA]
    simp only
    rw [Option.bind_some]
    by_cases hB : (chk B).2 = 0
    · rw [if_pos hB]
      simp only
      rw [if_pos (by simpa using hA)]
      exact ⟨_, _, _, _, rfl, Nat.le_refl _, hp, fun h => absurd h (by decide)⟩
    · rw [if_neg hB]
      simp only
      rw [if_pos (by simpa using hA)]
      exact ⟨_, _, _, _, rfl, Nat.le_refl _, hp, fun h => absurd h (by decide)⟩
theorem N9 (y : Int) (x : List Int) (hx : x.length ≤ 1000) (s : ByteArray) (hs : s.size ≤ 20000) (p : Nat) (hp : p ≤ 8 * s.size) :
    ∃ (v e e1 : Int) (c p' : Nat), wS 200000 (y, x, s, (p : Int), 0) = some (v, (c : Int), e, s, (p' : Int), e1) ∧ p ≤ p' ∧ p' ≤ 8 * s.size ∧ c ≤ 138 ∧ (e = 0 → e1 = 0 ∧ 1 ≤ c) := by
  have wr : ∀ (b : Int) (v n : Nat), 0 ≤ b → b ≤ 11 → v < 2 ^ n → n ≤ 7 → IntKind.wrap .i64 (b + (v : Int)) = ((b.toNat + v : Nat) : Int) := by
    intro b v n h0 h1 h2 h3
    have := Nat.pow_le_pow_right (n := 2) (by decide) h3
    rw [wrap_i64 (by omega) (by omega)]
    omega
  simp only [wS, d9, ae, Option.bind_some]
  by_cases h16 : y = 16
  · subst h16
    rw [if_pos (by rfl)]
    by_cases hx0 : x.length = 0
    · rw [if_pos (by rw [hx0]; rfl)]
      exact ⟨0, _, _, 0, _, rfl, Nat.le_refl _, hp, by omega, fun h => absurd h (by decide)⟩
    · have w5 : IntKind.wrap .i64 ((x.length : Int) - 1) = ((x.length - 1 : Nat) : Int) := by rw [wrap_i64 (by omega) (by omega)]; omega
      obtain ⟨v, p', e', k1, k2, k3, k4, k5, k6, k7⟩ := cF s (by omega) p hp 0 2
      have k4' : v < 4 := k4
      rw [if_neg (by simp only [beq_iff_eq]; omega), w5, if_pos (ay (by omega)), Int.toNat_natCast, bv (by omega), Option.bind_some, k1, Option.bind_some]
      simp only
      rw [wr 3 v 2 (by decide) (by decide) k4 (by decide)]
      exact ⟨_, _, _, _, _, rfl, k2, k3, by show 3 + v ≤ 138; omega, fun h => ⟨h, by show 1 ≤ 3 + v; omega⟩⟩
  · rw [if_neg (by simpa using h16)]
    by_cases h17 : y = 17
    · subst h17
      obtain ⟨v, p', e', k1, k2, k3, k4, k5, k6, k7⟩ := cF s (by omega) p hp 0 3
      have k4' : v < 8 := k4
      rw [if_pos (by rfl), k1, Option.bind_some]
      simp only
      rw [wr 3 v 3 (by decide) (by decide) k4 (by decide)]
      exact ⟨_, _, _, _, _, rfl, k2, k3, by show 3 + v ≤ 138; omega, fun h => ⟨h, by show 1 ≤ 3 + v; omega⟩⟩
    · rw [if_neg (by simpa using h17)]
      by_cases h18 : y = 18
      · subst h18
        obtain ⟨v, p', e', k1, k2, k3, k4, k5, k6, k7⟩ := cF s (by omega) p hp 0 7
        have k4' : v < 128 := k4
        rw [if_pos (by rfl), k1, Option.bind_some]
        simp only
        rw [wr 11 v 7 (by decide) (by decide) k4 (by decide)]
        exact ⟨_, _, _, _, _, rfl, k2, k3, by show 11 + v ≤ 138; omega, fun h => ⟨h, by show 1 ≤ 11 + v; omega⟩⟩
      · rw [if_neg (by simpa using h18)]
        exact ⟨_, _, _, 1, _, rfl, Nat.le_refl _, hp, by decide, fun h => ⟨rfl, Nat.le_refl _⟩⟩
theorem vT (N : Nat) (x : Int) : ∃ y, rQ N x = some y ∧ (x ≠ 0 → y ≠ 0) := by
  simp only [rQ, ae]
  by_cases h : x = 50
  · rw [if_pos (by simpa using h)]; exact ⟨_, rfl, fun _ => by decide⟩
  · rw [if_neg (by simpa using h)]
    by_cases h3 : x = 3
    · rw [if_pos (by simpa using h3)]; exact ⟨_, rfl, fun _ => by decide⟩
    · rw [if_neg (by simpa using h3)]; exact ⟨_, rfl, fun h => h⟩
theorem JS {lens : List Int} (hc : (chk lens).2 = 0) (A B : Nat) (hAB : A + B ≤ 320) (s : ByteArray) (hs : s.size ≤ 20000) : ∀ (d p f : Nat) (l : List Int), A + B ≤ l.length + d → l.length ≤ A + B → d < f → p ≤ 8 * s.size →
    ∃ r, bH 200000 f ((A : Int), (B : Int), s, (p : Int), 0, bO lens, ((bg lens 15 : Nat) : Int), l, ar lens 15) = some r ∧
      ((∃ (e e1 : Int) (p' : Nat), r = .inl (e, s, (p' : Int), e1, [], []) ∧ e ≠ 0 ∧ p ≤ p' ∧ p' ≤ 8 * s.size) ∨ (∃ (p' : Nat) (l' : List Int), r = .inr ((A : Int), s, (p' : Int), 0, l') ∧ l'.length = A + B ∧ p ≤ p' ∧ p' ≤ 8 * s.size)) := by
  have w2 : IntKind.wrap .i64 ((A : Int) + (B : Int)) = ((A + B : Nat) : Int) := by rw [wrap_i64 (by omega) (by omega)]; omega
  have done : ∀ (p f : Nat) (l : List Int), l.length = A + B → bH 200000 (f + 1) ((A : Int), (B : Int), s, (p : Int), 0, bO lens, ((bg lens 15 : Nat) : Int), l, ar lens 15) = some (.inr ((A : Int), s, (p : Int), 0, l)) := by
    intro p f l h
    simp only [bH, gi, ae]
    rw [w2, aV (by omega)]
  intro d
  induction d with
  | zero =>
    intro p f l h1 h2 hf hp
    cases f with
    | zero => omega
    | succ f => exact ⟨_, done p f l (by omega), .inr ⟨p, l, rfl, by omega, Nat.le_refl _, hp⟩⟩
  | succ d ih =>
    intro p f l h1 h2 hf hp
    cases f with
    | zero => omega
    | succ f =>
      by_cases hl : l.length = A + B
      · exact ⟨_, done p f l hl, .inr ⟨p, l, rfl, hl, Nat.le_refl _, hp⟩⟩
      obtain ⟨y, e, p', g1, g3, g4, g5, g6⟩ := ow hc s (by omega) p hp
      simp only [bH, gi, ae]
      rw [w2, aY (by omega), g1, Option.bind_some]
      simp only
      by_cases he : e = 0
      · subst he
        rw [if_neg (by decide), show (if (0 : Int) = 2 then (2 : Int) else 0) = 0 from rfl]
        obtain ⟨v, e, e1, c, p2, k1, k2, k3, k4, k5⟩ := N9 y l (by omega) s hs p' g5
        rw [k1, Option.bind_some]
        simp only
        by_cases he : e = 0
        · obtain ⟨c1, c2⟩ := k5 he
          subst he; subst c1
          have w3 : IntKind.wrap .i64 ((l.length : Int) + (c : Int)) = ((l.length + c : Nat) : Int) := by rw [wrap_i64 (by omega) (by omega)]; omega
          rw [if_neg (by decide), w3]
          by_cases hm : l.length + c > A + B
          · rw [aY (by omega)]
            exact ⟨_, rfl, .inl ⟨_, _, p2, rfl, by decide, by omega, k3⟩⟩
          · have hrep := yx 200000 c k4 (B : Int) (A : Int) v ((bg lens 15 : Nat) : Int) s (p2 : Int) 0 l (by omega) (bO lens) (ar lens 15) c 0 200000 (by omega) (by omega)
            rw [List.replicate_zero, List.append_nil, show ((0 : Nat) : Int) = 0 from rfl] at hrep
            have hlen : (l ++ List.replicate c v).length = l.length + c := by rw [List.length_append, List.length_replicate]
            obtain ⟨r, i1, i2⟩ := ih p2 f (l ++ List.replicate c v) (by omega) (by omega) (by omega) k3
            rw [aV (by omega), hrep, Option.bind_some]
            simp only
            rw [i1]
            refine ⟨r, by cases r <;> rfl, ?_⟩
            rcases i2 with ⟨e, e1, p3, j1, j2, j3, j4⟩ | ⟨p3, l', j1, j2, j3, j4⟩
            · exact .inl ⟨e, e1, p3, j1, j2, by omega, j4⟩
            · exact .inr ⟨p3, l', j1, j2, by omega, j4⟩
        · rw [if_pos (by simpa using he)]
          exact ⟨_, rfl, .inl ⟨_, _, p2, rfl, he, by omega, k3⟩⟩
      · obtain ⟨y1, f1, f2⟩ := vT 200000 e
        rw [if_pos (by simpa using he), f1, Option.bind_some]
        exact ⟨_, rfl, .inl ⟨_, _, p', rfl, f2 he, by omega, g5⟩⟩
set_option maxRecDepth 100000
theorem JJ (s : ByteArray) (hs : s.size ≤ 20000) (n : Nat) (hn : n ≤ 19) : ∀ (d i p f : Nat) (e : Int) (l : List Int), i + d = n → d < f → p ≤ 8 * s.size → l.length = 19 →
    ∃ (p' : Nat) (e' : Int) (l' : List Int), d8 200000 f ((i : Int), (n : Int), n, s, (p : Int), e, cn, l) = some (s, (p' : Int), e', l') ∧ l'.length = 19 ∧ p ≤ p' ∧ p' ≤ 8 * s.size ∧ (e ≠ 0 → e' ≠ 0) := by
  intro d
  induction d with
  | zero =>
    intro i p f e l hi hf hp hl
    cases f with
    | zero => omega
    | succ f =>
      refine ⟨p, e, l, ?_, hl, Nat.le_refl _, hp, fun h => h⟩
      simp only [d8, mE, ae]
      rw [aV (by omega)]
  | succ d ih =>
    intro i p f e l hi hf hp hl
    cases f with
    | zero => omega
    | succ f =>
      have w : IntKind.wrap .i64 ((i : Int) + 1) = ((i + 1 : Nat) : Int) := by rw [wrap_i64 (by omega) (by omega)]; omega
      obtain ⟨o1, o2⟩ := yW i (by omega)
      have hn19 : i < cn.length := by rw [dT]; omega
      obtain ⟨k, hk⟩ := Int.eq_ofNat_of_zero_le o1
      obtain ⟨v, p1, e1, k1, k2, k3, k4, k5, k6, k7⟩ := cF s (by omega) p hp e 3
      obtain ⟨p', e', l', i1, i2, i3, i4, i5⟩ := ih (i + 1) p1 f e1 (l.set k (v : Int)) (by omega) (by omega) k3 (by rw [List.length_set]; exact hl)
      refine ⟨p', e', l', ?_, i2, by omega, i4, fun h => i5 (by rw [k6 h]; exact h)⟩
      simp only [d8, mE, ae]
      rw [aY (by omega), if_pos (ay (by omega)), Int.toNat_natCast, Nat.zero_add, bv hn19, Option.bind_some, hk, k1, Option.bind_some, if_pos (ay (by omega)), Int.toNat_natCast, bv (by omega), Option.bind_some, w, i1]
      rfl
theorem Oa (s : ByteArray) (hs : s.size ≤ 20000) (n : Nat) (hn : n ≤ 19) (p : Nat) (hp : p ≤ 8 * s.size) :
    ∃ r, Gb 200000 ((n : Int), s, (p : Int), 0) = some r ∧
      ((∃ (e e1 : Int) (p' : Nat), r = .inl (e, s, (p' : Int), e1) ∧ e ≠ 0 ∧ p ≤ p' ∧ p' ≤ 8 * s.size) ∨
       (∃ (lens : List Int) (p' : Nat), r = .inr (0, s, (p' : Int), 0, bO lens, ((bg lens 15 : Nat) : Int), ar lens 15) ∧ (chk lens).2 = 0 ∧ p ≤ p' ∧ p' ≤ 8 * s.size)) := by
  obtain ⟨p', e', l', i1, i2, i3, i4, i5⟩ := JJ s hs n hn n 0 p 200000 0 (List.replicate 19 0) (by omega) (by omega) hp (List.length_replicate ..)
  rw [show ((0 : Nat) : Int) = 0 from rfl] at i1
  simp only [Gb, ae]
  rw [qJ, Option.bind_some, if_pos (by rw [decide_eq_true_eq, dT]; omega), Int.toNat_natCast, Nat.sub_zero, i1, Option.bind_some]
  simp only [d9, Option.bind_some]
  by_cases he : e' = 0
  · subst he
    rw [if_neg (by decide), je (by decide), Option.bind_some]
    by_cases hc : (chk l').2 = 0
    · rw [if_pos hc]
      simp only
      rw [yv, Option.bind_some]
      exact ⟨_, rfl, .inr ⟨l', p', rfl, hc, i3, i4⟩⟩
    · rw [if_neg hc]
      simp only
      obtain ⟨y1, f1, f2⟩ := vT 200000 (chk l').2
      rw [f1, Option.bind_some]
      exact ⟨_, rfl, .inl ⟨_, _, p', rfl, f2 hc, i3, i4⟩⟩
  · rw [if_pos (by simpa using he)]
    exact ⟨_, rfl, .inl ⟨_, _, p', rfl, he, i3, i4⟩⟩
theorem Oh (s : ByteArray) (hs : s.size ≤ 20000) (p : Nat) (hp : p ≤ 8 * s.size) :
    ∃ r, Gf 200000 (s, (p : Int), 0) = some r ∧
      ((∃ (e e1 : Int) (p' : Nat), r = .inl (e, s, (p' : Int), e1, [], []) ∧ e ≠ 0 ∧ p ≤ p' ∧ p' ≤ 8 * s.size) ∨
       (∃ (a b p' : Nat) (l : List Int), r = .inr (a, a, b, 0, s, (p' : Int), 0, l) ∧ p ≤ p' ∧ p' ≤ 8 * s.size)) := by
  obtain ⟨v1, p1, e1, a1, a2, a3, a4, a5, a6, a7⟩ := cF s (by omega) p hp 0 5
  obtain ⟨v2, p2, e2, b1, b2, b3, b4, b5, b6, b7⟩ := cF s (by omega) p1 a3 e1 5
  obtain ⟨v3, p3, e3, c1, c2, c3, c4, c5, c6, c7⟩ := cF s (by omega) p2 b3 e2 4
  have a4 : v1 < 32 := a4
  have b4 : v2 < 32 := b4
  have c4 : v3 < 16 := c4
  simp only [Gf, d9, ae]
  rw [a1, Option.bind_some]
  simp only
  rw [b1, Option.bind_some]
  simp only
  rw [c1, Option.bind_some]
  simp only [Option.bind_some]
  by_cases he : e3 = 0
  · subst he
    have w1 : IntKind.wrap .i64 ((v1 : Int) + 257) = ((v1 + 257 : Nat) : Int) := by rw [wrap_i64 (by omega) (by omega)]; omega
    have w2 : IntKind.wrap .i64 ((v2 : Int) + 1) = ((v2 + 1 : Nat) : Int) := by rw [wrap_i64 (by omega) (by omega)]; omega
    have w3 : IntKind.wrap .i64 ((v3 : Int) + 4) = ((v3 + 4 : Nat) : Int) := by rw [wrap_i64 (by omega) (by omega)]; omega
    rw [if_neg (by decide), w1, w2, w3]
    by_cases h1 : v1 + 257 > 286
    · rw [aY (by omega)]
      exact ⟨_, rfl, .inl ⟨_, _, p3, rfl, by decide, by omega, c3⟩⟩
    rw [aV (by omega)]
    by_cases h2 : v2 + 1 > 30
    · rw [aY (by omega)]
      exact ⟨_, rfl, .inl ⟨_, _, p3, rfl, by decide, by omega, c3⟩⟩
    rw [aV (by omega)]
    obtain ⟨r, d1, d2⟩ := Oa s hs (v3 + 4) (by omega) p3 c3
    rw [d1, Option.bind_some]
    rcases d2 with ⟨e, e1, p', rfl, he, q1, q2⟩ | ⟨lens, p', rfl, hc, q1, q2⟩
    · simp only
      rw [if_pos (by simpa using he)]
      exact ⟨_, rfl, .inl ⟨_, _, p', rfl, he, by omega, q2⟩⟩
    · simp only
      rw [if_neg (by decide)]
      obtain ⟨r, g1, g2⟩ := JS hc (v1 + 257) (v2 + 1) (by omega) s hs (v1 + 257 + (v2 + 1)) p' 200000 [] (by omega) (Nat.zero_le _) (by omega) q2
      rw [g1, Option.bind_some]
      rcases g2 with ⟨e, e1, p4, rfl, j2, j3, j4⟩ | ⟨p4, l', rfl, j2, j3, j4⟩
      · exact ⟨_, rfl, .inl ⟨_, _, p4, rfl, j2, by omega, j4⟩⟩
      · simp only
        rw [aY (by omega), aY (by omega), Int.toNat_natCast]
        exact ⟨_, rfl, .inr ⟨_, _, p4, l', rfl, by omega, j4⟩⟩
  · rw [if_pos (by simpa using he)]
    exact ⟨_, rfl, .inl ⟨_, _, p3, rfl, he, by omega, c3⟩⟩
theorem I9 (w : ByteArray) (l : List Tok) (h : (rN w l).2 = 0) : (rN w l).1.size = made l := by
  unfold rN at h ⊢
  have hb := c8 (aQ w)
  cases hx : kX (bytesOf (aQ w)) l with
  | none => rw [hx] at h; exact absurd h (show ¬ (60 : Int) = 0 by decide)
  | some p =>
    have := tX hx
    simp only
    rw [eJ, List.length_drop]
    omega
theorem Ov (k : Int) (w : ByteArray) (hw : w.size ≤ 1000000) (most : Int) (h0 : 0 ≤ most) (hm0 : most ≤ 6000000) (s : ByteArray) (hs : s.size ≤ 2000) (p : Nat) (hp : p ≤ 8 * s.size) :
    ∃ (x : ByteArray) (e e1 : Int) (p' : Nat), wV 200000 (k, w, most, s, (p : Int), 0) = some (x, e, s, (p' : Int), e1) ∧ p ≤ p' ∧ p' ≤ 8 * s.size ∧ (e = 0 → e1 = 0 ∧ (x.size : Int) ≤ most) := by
  -- what is read and made behind the codes
  have key : ∀ (A B : List Int) (p : Nat) (hp : p ≤ 8 * s.size), ∃ (x : ByteArray) (e e1 : Int) (p' : Nat), (Option.bind (wU 200000 (A, B, most, s, (p : Int), 0)) fun y9 =>
      if (y9.1 != (0 : Int)) = true then Option.bind (rQ 200000 y9.1) fun y10 => some ((ByteArray.mk #[], y10, y9.2.1, y9.2.2.1, y9.2.2.2.1)) else
        Option.bind (Dk 200000 (w, y9.2.2.2.2)) fun y11 => some ((y11.1, y11.2, y9.2.1, y9.2.2.1, y9.2.2.2.1))) = some (x, e, s, (p' : Int), e1) ∧ p ≤ p' ∧ p' ≤ 8 * s.size ∧ (e = 0 → e1 = 0 ∧ (x.size : Int) ≤ most) := by
    intro A B p hp
    obtain ⟨e, e1, p', out, g1, g2, g3, g4⟩ := Of A B most h0 (by omega) s (by omega) p hp
    rw [g1, Option.bind_some]
    simp only
    by_cases he : e = 0
    · obtain ⟨z1, z2, z3, z4⟩ := g4 he
      subst he; subst z1
      rw [if_neg (by decide), rD w hw out (by omega) z2 (by omega), Option.bind_some]
      exact ⟨_, _, _, p', rfl, g2, g3, fun h => ⟨rfl, by rw [I9 w out h]; exact z3⟩⟩
    · obtain ⟨y1, f1, f2⟩ := vT 200000 e
      rw [if_pos (by simpa using he), f1, Option.bind_some]
      exact ⟨_, _, _, p', rfl, g2, g3, fun h => absurd h (f2 he)⟩
  simp only [wV, ae]
  rw [r9, Option.bind_some]
  by_cases hk : k = 2
  · rw [if_pos (by simpa using hk)]
    obtain ⟨r, g1, g2⟩ := Oh s (by omega) p hp
    rw [g1, Option.bind_some]
    rcases g2 with ⟨e, e1, p', rfl, he, q1, q2⟩ | ⟨a, b, p', l, rfl, q1, q2⟩
    · simp only
      rw [if_pos (by simpa using he)]
      exact ⟨_, _, _, p', rfl, q1, q2, fun h => absurd h he⟩
    · simp only
      rw [if_neg (by decide)]
      obtain ⟨x, e, e1, p2, i1, i2, i3, i4⟩ := key (List.take a (List.drop 0 l)) (List.take b (List.drop a l)) p' q2
      exact ⟨x, e, e1, p2, i1, by omega, i3, i4⟩
  · rw [if_neg (by simpa using hk)]
    exact key pZ p6 p hp
set_option maxRecDepth 100000
theorem Dn (N : Nat) (n : Int) (s : ByteArray) (hs : s.size ≤ 1000000) (p : Nat) (hp : p ≤ 8 * s.size) :
    (mH N (n, s, (p : Int), 0) = some (true, s, (p : Int), 0) ∧ (p : Int) + n ≤ ((8 * s.size : Nat) : Int)) ∨ mH N (n, s, (p : Int), 0) = some (false, s, (p : Int), 2) := by
  by_cases h : (p : Int) + n ≤ ((8 * s.size : Nat) : Int)
  · exact .inl ⟨Dm N n s hs p h hp, h⟩
  · refine .inr ?_
    simp only [mH, ae]
    rw [if_pos (by decide), d0 N s p 0 (by omega) hp, Option.bind_some, aY (by omega)]
theorem Ol (N : Nat) (n : Int) (s : ByteArray) (p : Int) (e : Int) (h : e ≠ 0) : mH N (n, s, p, e) = some (false, s, p, e) := by
  simp only [mH, ae]
  rw [if_neg (by simpa using h)]
  have : (e == 0) = false := by simpa using h
  rw [this]
theorem Oi (n : Nat) (hn : n ≤ 70000) (s : ByteArray) (hs : s.size ≤ 20000) (p : Nat) (hp : p ≤ 8 * s.size) :
    ∃ (x : ByteArray) (p' : Nat) (e : Int), Gg 200000 ((n : Int), s, (p : Int), 0) = some (x, s, (p' : Int), e) ∧ p ≤ p' ∧ p' ≤ 8 * s.size ∧ (e = 0 → x.size = n) := by
  have m0 : (if (0 : Int) > (n : Int) then (0 : Int) else (n : Int)) = (n : Int) := if_neg (by omega)
  have hl : IntKind.wrap .i64 (((8 * s.size - p : Nat) : Int) + 1) = ((8 * s.size - p + 1 : Nat) : Int) := by rw [wrap_i64 (by omega) (by omega)]; omega
  simp only [Gg, ae]
  rw [m0]
  by_cases h : n > s.size
  · rw [aY (by omega), d0 _ s p 0 (by omega) hp, Option.bind_some, hl]
    rcases Dn 200000 ((8 * s.size - p + 1 : Nat) : Int) s (by omega) p hp with ⟨g, g2⟩ | g
    · omega
    · rw [g, Option.bind_some]
      exact ⟨_, p, _, rfl, Nat.le_refl _, hp, fun h => absurd h (show ¬ (2 : Int) = 0 by decide)⟩
  · have w1 : IntKind.wrap .i64 ((8 : Int) * (n : Int)) = ((8 * n : Nat) : Int) := by rw [wrap_i64 (by omega) (by omega)]; omega
    generalize hg : (8 - p % 8) % 8 = g
    have hgap := lG 200000 s p 0 (by omega)
    rw [hg] at hgap
    have w2 : IntKind.wrap .i64 ((g : Int) + ((8 * n : Nat) : Int)) = ((g + 8 * n : Nat) : Int) := by rw [wrap_i64 (by omega) (by omega)]; omega
    have w3 : IntKind.wrap .i64 ((p : Int) + (g : Int)) = ((p + g : Nat) : Int) := by rw [wrap_i64 (by omega) (by omega)]; omega
    have w4 : IntKind.wrap .i64 (Int.tdiv ((p + g : Nat) : Int) 8) = (((p + g) / 8 : Nat) : Int) := by rw [Int.tdiv_eq_ediv_of_nonneg (by omega), wrap_i64 (by omega) (by omega)]; omega
    have w5 : IntKind.wrap .i64 ((((p + g) / 8 : Nat) : Int) + (n : Int)) = (((p + g) / 8 + n : Nat) : Int) := by rw [wrap_i64 (by omega) (by omega)]; omega
    have w6 : IntKind.wrap .i64 ((8 : Int) * (((p + g) / 8 + n : Nat) : Int)) = ((8 * ((p + g) / 8 + n) : Nat) : Int) := by rw [wrap_i64 (by omega) (by omega)]; omega
    rw [aV (by omega), hgap, Option.bind_some, w1, w2]
    rcases Dn 200000 ((g + 8 * n : Nat) : Int) s (by omega) p hp with ⟨q, q2⟩ | q
    · rw [q, Option.bind_some]
      simp only
      rw [if_neg (by decide), hgap, Option.bind_some, w3, w4, w5, aY (by omega), Int.toNat_natCast, aY (by omega), Int.toNat_natCast, w6]
      refine ⟨_, _, _, rfl, by omega, by omega, fun _ => ?_⟩
      rw [ByteArray.size_extract]
      omega
    · rw [q, Option.bind_some]
      simp only
      rw [if_pos (by decide)]
      have hl2 : OH 200000 (s, (p : Int), 2, ()) = some (((8 * s.size - p : Nat) : Int)) := d0 _ s p 2 (by omega) hp
      rw [hl2, Option.bind_some, Ol _ _ _ _ 2 (by decide), Option.bind_some]
      exact ⟨_, p, _, rfl, Nat.le_refl _, hp, fun h => absurd h (show ¬ (2 : Int) = 0 by decide)⟩
theorem Ow (most : Int) (s : ByteArray) (hs : s.size ≤ 20000) (p : Nat) (hp : p ≤ 8 * s.size) :
    ∃ (x : ByteArray) (e e1 : Int) (p' : Nat), Gi 200000 (most, s, (p : Int), 0) = some (x, e, s, (p' : Int), e1) ∧ p ≤ p' ∧ p' ≤ 8 * s.size ∧ (e = 0 → e1 = 0 ∧ (x.size : Int) ≤ most) := by
  obtain ⟨v0, p0, e0, z1, z2, z3, z4, z5, z6, z7⟩ := cF s (by omega) p hp 0 (((8 - p % 8) % 8 : Nat) : Int)
  obtain ⟨v1, p1, e1, a1, a2, a3, a4, a5, a6, a7⟩ := cF s (by omega) p0 z3 e0 16
  obtain ⟨v2, p2, e2, b1, b2, b3, b4, b5, b6, b7⟩ := cF s (by omega) p1 a3 e1 16
  have a4 : v1 < 65536 := a4
  simp only [Gi, Oj, d9, ae]
  rw [lG _ s p 0 (by omega), Option.bind_some, z1, Option.bind_some, Option.bind_some]
  simp only
  rw [a1, Option.bind_some]
  simp only
  rw [b1, Option.bind_some]
  simp only [Option.bind_some]
  by_cases he : e2 = 0
  · subst he
    rw [if_neg (by decide)]
    split
    · exact ⟨_, _, _, p2, rfl, by omega, b3, fun h => absurd h (by decide)⟩
    · by_cases hm : (v1 : Int) > most
      · rw [aY hm]
        exact ⟨_, _, _, p2, rfl, by omega, b3, fun h => absurd h (by decide)⟩
      · obtain ⟨x, p3, e3, c1, c2, c3, c4⟩ := Oi v1 (by omega) s hs p2 b3
        rw [aV hm, c1, Option.bind_some]
        exact ⟨_, _, _, p3, rfl, by omega, c3, fun h => ⟨h, by rw [c4 h]; omega⟩⟩
  · rw [if_pos (by simpa using he)]
    exact ⟨_, _, _, p2, rfl, by omega, b3, fun h => absurd h he⟩
theorem QL (w : ByteArray) (hw : w.size ≤ 1000000) (most : Int) (h0 : 0 ≤ most) (hm0 : most ≤ 6000000) (s : ByteArray) (hs : s.size ≤ 2000) (p : Nat) (hp : p ≤ 8 * s.size) :
    ∃ (x : ByteArray) (last : Bool) (kind e e1 : Int) (p' : Nat), Kr 200000 (w, most, s, (p : Int), 0) = some (x, last, kind, e, s, (p' : Int), e1) ∧ p ≤ p' ∧ p' ≤ 8 * s.size ∧ (e = 0 → e1 = 0 ∧ (x.size : Int) ≤ most ∧ p < p') := by
  obtain ⟨v1, p1, e1, a1, a2, a3, a4, a5, a6, a7⟩ := cF s (by omega) p hp 0 1
  obtain ⟨v2, p2, e2, b1, b2, b3, b4, b5, b6, b7⟩ := cF s (by omega) p1 a3 e1 2
  simp only [Kr, d9, ae]
  rw [a1, Option.bind_some]
  simp only
  rw [b1, Option.bind_some]
  simp only [Option.bind_some]
  by_cases he : e2 = 0
  · subst he
    have hp2 : p < p2 := by
      have := b5 rfl
      have c2 : ak 2 = 2 := rfl
      omega
    rw [if_neg (by decide)]
    have hcod : ∀ k : Int, ∃ (x : ByteArray) (e e1 : Int) (p' : Nat), wV 200000 (k, w, most, s, (p2 : Int), 0) = some (x, e, s, (p' : Int), e1) ∧ p2 ≤ p' ∧ p' ≤ 8 * s.size ∧ (e = 0 → e1 = 0 ∧ (x.size : Int) ≤ most) := fun k => Ov k w hw most h0 hm0 s hs p2 b3
    by_cases hk0 : (v2 : Int) = 0
    · obtain ⟨x, e, e1', p3, c1, c2, c3, c4⟩ := Ow most s (by omega) p2 b3
      rw [if_pos (by simpa using hk0), c1, Option.bind_some]
      simp only
      by_cases h : e = 0
      · obtain ⟨q1, q2⟩ := c4 h
        rw [if_neg (by simpa using h)]
        exact ⟨_, _, _, _, _, p3, rfl, by omega, c3, fun _ => ⟨q1, q2, by omega⟩⟩
      · rw [if_pos (by simpa using h)]
        exact ⟨_, _, _, _, _, p3, rfl, by omega, c3, fun h2 => absurd h2 h⟩
    rw [if_neg (by simpa using hk0)]
    by_cases hk1 : (v2 : Int) = 1
    · obtain ⟨x, e, e1', p3, c1, c2, c3, c4⟩ := hcod (v2 : Int)
      rw [if_pos (by simpa using hk1), c1, Option.bind_some]
      simp only
      by_cases h : e = 0
      · obtain ⟨q1, q2⟩ := c4 h
        rw [if_neg (by simpa using h)]
        exact ⟨_, _, _, _, _, p3, rfl, by omega, c3, fun _ => ⟨q1, q2, by omega⟩⟩
      · rw [if_pos (by simpa using h)]
        exact ⟨_, _, _, _, _, p3, rfl, by omega, c3, fun h2 => absurd h2 h⟩
    rw [if_neg (by simpa using hk1)]
    by_cases hk2 : (v2 : Int) = 2
    · obtain ⟨x, e, e1', p3, c1, c2, c3, c4⟩ := hcod (v2 : Int)
      rw [if_pos (by simpa using hk2), c1, Option.bind_some]
      simp only
      by_cases h : e = 0
      · obtain ⟨q1, q2⟩ := c4 h
        rw [if_neg (by simpa using h)]
        exact ⟨_, _, _, _, _, p3, rfl, by omega, c3, fun _ => ⟨q1, q2, by omega⟩⟩
      · rw [if_pos (by simpa using h)]
        exact ⟨_, _, _, _, _, p3, rfl, by omega, c3, fun h2 => absurd h2 h⟩
    rw [if_neg (by simpa using hk2)]
    exact ⟨_, _, _, _, _, p2, rfl, by omega, b3, fun h => absurd h (by decide)⟩
  · rw [if_pos (by simpa using he)]
    exact ⟨_, _, _, _, _, p2, rfl, by omega, b3, fun h => absurd h he⟩
theorem N3 (w : ByteArray) (hw : w.size ≤ 40000) (most : Int) (h0 : 0 ≤ most) (hm0 : most ≤ 100000) (s : ByteArray) (hs : s.size ≤ 2000) : ∀ (d p f : Nat) (b : Bool) (out : ByteArray), 8 * s.size ≤ p + d → d < f → p ≤ 8 * s.size → (out.size : Int) ≤ most →
    ∃ r, bw 200000 f (b, out, w, most, s, (p : Int), 0) = some r ∧ ((∃ e : Int, r = .inl (ByteArray.mk #[], e)) ∨ ∃ (b' : Bool) (out' : ByteArray), r = .inr (b', out') ∧ (out'.size : Int) ≤ most) := by
  have done : ∀ (f : Nat) (b : Bool) (out : ByteArray), bw 200000 (f + 1) (b, out, w, most, s, ((8 * s.size : Nat) : Int), 0) = some (.inr (b, out)) := by
    intro f b out
    simp only [bw, mz, ae]
    rw [d0 _ s _ 0 (by omega) (by omega), Option.bind_some, aV (by omega)]
  intro d
  induction d with
  | zero =>
    intro p f b out hd hf hp ho
    cases f with
    | zero => omega
    | succ f =>
      have e : p = 8 * s.size := by omega
      subst e
      exact ⟨_, done f b out, .inr ⟨b, out, rfl, ho⟩⟩
  | succ d ih =>
    intro p f b out hd hf hp ho
    cases f with
    | zero => omega
    | succ f =>
      by_cases hpe : p = 8 * s.size
      · subst hpe
        exact ⟨_, done f b out, .inr ⟨b, out, rfl, ho⟩⟩
      have w1 : IntKind.wrap .i64 (most - (out.size : Int)) = most - (out.size : Int) := wrap_i64 (by omega) (by omega)
      have hwo : (w ++ out).size ≤ 1000000 := by rw [ByteArray.size_append]; omega
      have hts := eh (w ++ out)
      obtain ⟨x, last, kind, e, e1, p', k1, k2, k3, k4⟩ := QL (aQ (w ++ out)) (by omega) (most - (out.size : Int)) (by omega) (by omega) s hs p hp
      simp only [bw, mz, ae]
      rw [d0 _ s p 0 (by omega) hp, Option.bind_some, aY (by omega), aV (by omega), fi _ _ hwo, Option.bind_some, w1, k1, Option.bind_some]
      simp only
      by_cases he : e = 0
      · obtain ⟨z1, z2, z3⟩ := k4 he
        subst he; subst z1
        rw [if_neg (by decide)]
        cases last with
        | true =>
          rw [if_pos rfl]
          exact ⟨_, rfl, .inl ⟨_, rfl⟩⟩
        | false =>
          rw [if_neg (by decide), aV (by omega)]
          have hsz : (out ++ x).size = out.size + x.size := ByteArray.size_append
          by_cases hk : kind = 0
          · obtain ⟨r, i1, i2⟩ := ih p' f (ByteArray.toList x == []) (out ++ x) (by omega) (by omega) k3 (by omega)
            rw [if_pos (by simpa using hk), i1]
            exact ⟨r, by cases r <;> rfl, i2⟩
          · obtain ⟨r, i1, i2⟩ := ih p' f false (out ++ x) (by omega) (by omega) k3 (by omega)
            rw [if_neg (by simpa using hk), i1]
            exact ⟨r, by cases r <;> rfl, i2⟩
      · rw [if_pos (by simpa using he)]
        exact ⟨_, rfl, .inl ⟨_, rfl⟩⟩
theorem HD (w : ByteArray) (hw : w.size ≤ 40000) (most : Int) (h0 : 0 ≤ most) (hm0 : most ≤ 100000) (s : ByteArray) (hs : s.size ≤ 2000) :
    ∃ (x : ByteArray) (e : Int), RI 200000 (w, s, most) = some (x, e) ∧ (x.size : Int) ≤ most := by
  have e0 : (ByteArray.mk #[]).size = 0 := rfl
  obtain ⟨r, i1, i2⟩ := N3 w hw most h0 hm0 s hs (8 * s.size) 0 200000 false (ByteArray.mk #[]) (by omega) (by omega) (by omega) (by rw [e0]; omega)
  rw [show ((0 : Nat) : Int) = 0 from rfl] at i1
  simp only [RI, UO, ae, Option.bind_some]
  rw [i1, Option.bind_some]
  rcases i2 with ⟨e, rfl⟩ | ⟨b', out', rfl, h⟩
  · exact ⟨_, _, rfl, by rw [e0]; omega⟩
  · cases b' with
    | true => exact ⟨_, _, rfl, h⟩
    | false => exact ⟨_, _, rfl, by rw [e0]; omega⟩
set_option maxRecDepth 100000
theorem Jz (s : ByteArray) (h : s.size < 2) : RJ 200000 s ≠ some 0 := by
  simp only [RJ, ae]
  rw [aY (by omega)]
  decide
theorem QJ (s : ByteArray) (hs : s.size ≤ 2000) (b : Bool) (w : ByteArray) (hw : w.size ≤ 40000) (e0 : Int) :
    ∃ (x : ByteArray) (e : Int), UN 200000 (((b, w, ()), e0, ()), s, 5000) = some (x, e) ∧ x.size ≤ 5000 := by
  simp only [UN, ae]
  cases b with
  | true =>
    obtain ⟨x, e, h1, h2⟩ := HD w hw 5000 (by decide) (by decide) s hs
    rw [if_neg (by decide), h1, Option.bind_some]
    exact ⟨x, e, rfl, by omega⟩
  | false =>
    obtain ⟨e, e1, e2⟩ := vN s (by omega)
    rw [if_pos (by decide), e1, Option.bind_some]
    by_cases he : e = 0
    · subst he
      have h2 : 2 ≤ s.size := by
        refine Nat.le_of_not_lt fun h => Jz s (by omega) e2
      obtain ⟨x, e, h1, h3⟩ := HD w hw 5000 (by decide) (by decide) (s.extract 2 s.size) (by rw [ByteArray.size_extract]; omega)
      rw [if_neg (by decide), aY (by omega), h1, Option.bind_some]
      exact ⟨x, e, rfl, by omega⟩
    · rw [if_pos (by simpa using he)]
      exact ⟨_, _, rfl, Nat.zero_le _⟩
theorem HC (s : ByteArray) (hs : s.size ≤ 2000) (b : Bool) (w : ByteArray) (hw : w.size ≤ 40000) :
    ∃ (x : ByteArray) (e : Int), FT 200000 (s, 5000, b, w, 0) = some (x, e, true, aQ (w ++ x), e) := by
  obtain ⟨x, e, h1, h2⟩ := QJ s hs b w hw 0
  have hsz : (w ++ x).size = w.size + x.size := ByteArray.size_append
  simp only [FT, ae]
  rw [if_neg (by decide), h1, Option.bind_some]
  simp only
  rw [aV (by omega), fi _ _ (by omega), Option.bind_some]
  exact ⟨x, e, rfl⟩
theorem QT (N : Nat) (s : ByteArray) (m : Int) (b : Bool) (w : ByteArray) (e : Int) (he : e ≠ 0) : FT N (s, m, b, w, e) = some (ByteArray.mk #[], e, b, w, e) := by
  simp only [FT, ae]
  rw [if_pos (by simpa using he)]
theorem N2 {x : ByteArray} {P : List Tok} (hP : PackOk (ByteArray.mk #[]) x P) (hx : x.size ≤ 600) :
    ∃ r, FT 200000 (D1 ++ er (ef x P), 5000, false, ByteArray.mk #[], 0) = some (x, 0, r) := by
  have hl := (oa x P (by omega)).1
  have hz := lV (ef x P)
  have hs : (D1 ++ er (ef x P)).size = 2 + (er (ef x P)).size := ByteArray.size_append
  have h41 := QV hP (by rw [show (ByteArray.mk #[]).size = 0 from rfl]; omega) (by omega) 5000 (by omega) (by omega)
  have hsz : (ByteArray.mk #[] ++ x).size = x.size := by rw [GX]
  simp only [FT, UN, ae]
  rw [if_neg (by decide), if_pos (by decide), Mi _ (by omega), Option.bind_some, if_neg (by decide), if_pos (by rw [hs]; simp only [decide_eq_true_eq]; omega), Po, h41, Option.bind_some, Option.bind_some]
  simp only
  rw [if_neg (by rw [show (ByteArray.mk #[]).size = 0 from rfl]; simp only [decide_eq_true_eq]; omega), fi _ _ (by omega), Option.bind_some]
  exact ⟨_, rfl⟩
theorem V7 (hw : UU 200000 () = some true) (a b c : ByteArray) : Uz 200000 (a, b, c) = some true := by
  simp only [Uz, vX, ae]
  rw [hw, Option.bind_some, if_neg (by decide)]
  by_cases g1 : a.size > 250
  · rw [aY (by omega)]
  by_cases g2 : b.size > 250
  · rw [aV (by omega), aY (by omega)]
  by_cases g3 : c.size > 600
  · rw [aV (by omega), aV (by omega), aY (by omega)]
  rw [aV (by omega), aV (by omega), aV (by omega)]
  have e0 : (ByteArray.mk #[]).size = 0 := rfl
  obtain ⟨P, hP⟩ := J5 (ByteArray.mk #[]) c (Nat.zero_le _) (by omega)
  have h1 := Db hP (Nat.zero_le _) (by omega) false
  rw [if_neg (by decide)] at h1
  obtain ⟨r, h3⟩ := N2 hP (by omega)
  obtain ⟨x, e, k1⟩ := HC a (by omega) false (ByteArray.mk #[]) (by rw [e0]; omega)
  have hts := eh (ByteArray.mk #[] ++ x)
  have hx1 : (ByteArray.toList c == ByteArray.toList c) = true := by simp
  rw [k1, Option.bind_some]
  simp only
  by_cases he : e = 0
  · subst he
    obtain ⟨x2, e2, k2⟩ := HC b (by omega) true (aQ (ByteArray.mk #[] ++ x)) (by omega)
    rw [k2, Option.bind_some, h1, Option.bind_some]
    simp only
    rw [h3, Option.bind_some]
    simp only
    rw [hx1, if_neg (by decide), if_neg (by decide), if_pos (by decide), if_pos trivial]
    simp only [Ur, Option.bind_some]
    simp
  · rw [QT _ _ _ _ _ _ he, Option.bind_some, h1, Option.bind_some]
    simp only
    rw [h3, Option.bind_some]
    simp only
    rw [hx1, if_neg (by decide), if_neg (by decide), if_neg (by simpa using he), if_pos trivial, if_pos (by rw [jl]; rfl), if_pos (by simp)]
    simp only [Ur, Option.bind_some]
    simp
end Go.Proofs.YteddgkplkjldcaaGreat.Am
