/- Texts deflated and framed, and read again by the document: the Lean function that ZstreamBack comes to answers true at every input. -/
import Derived.Test.YteddgkplkjldcaaGreatPC
import Derived.Test.YteddgkplkjldcaaGreatPA
import Derived.Test.YteddgkplkjldcaaGreatSC
namespace Go.Proofs.YteddgkplkjldcaaGreat.Am
open Go.Am
set_option linter.unusedSimpArgs false
set_option linter.unusedVariables false
theorem fnd_mem {β : Type} (k : Ty) (a : k.den) : ∀ (l : List (k.den × β)) (n : Nat) (b : β), mapFnd k a l = some (n, b) → ∃ e ∈ l, e.2 = b
  | [], n, b, h => by cases h
  | e :: l, n, b, h => by
    unfold mapFnd at h
    cases he : eqL k a e.1 with
    | true =>
      rw [he] at h
      cases h
      exact ⟨e, List.mem_cons_self .., rfl⟩
    | false =>
      rw [he] at h
      simp only [cond_false] at h
      cases hf : mapFnd k a l with
      | none => rw [hf] at h; cases h
      | some p =>
        obtain ⟨m, c⟩ := p
        rw [hf] at h
        cases h
        obtain ⟨e', h1, h2⟩ := fnd_mem k a l m b hf
        exact ⟨e', List.mem_cons_of_mem _ h1, h2⟩
theorem get_mem {β : Type} {k : Ty} {a : k.den} {z : β} {l : List (k.den × β)} (h : mapHas k a l = true) : ∃ e ∈ l, mapGet k a z l = e.2 := by
  unfold mapHas at h
  cases hf : mapFnd k a l with
  | none => rw [hf] at h; cases h
  | some p =>
    obtain ⟨m, c⟩ := p
    obtain ⟨e, h1, h2⟩ := fnd_mem k a l m c hf
    refine ⟨e, h1, ?_⟩
    unfold mapGet
    rw [hf, h2]
theorem put_mem {β : Type} {k : Ty} {a : k.den} {b : β} {l : List (k.den × β)} {e : k.den × β} (h : e ∈ mapPut k a b l) : e ∈ l ∨ e.2 = b := by
  unfold mapPut at h
  split at h
  · rcases List.mem_or_eq_of_mem_set h with h | h
    · exact .inl h
    · rw [h]; exact .inr rfl
  · rcases List.mem_append.1 h with h | h
    · exact .inl h
    · rw [List.mem_singleton.1 h]; exact .inr rfl
structure Inv (at_ : Nat) (M : List (ByteArray × Int)) (A : List Int) : Prop where
  len : A.length = at_
  m : ∀ e ∈ M, 0 ≤ e.2 ∧ e.2 < (at_ : Int)
  a : ∀ i, i < at_ → -1 ≤ A.getD i 0 ∧ A.getD i 0 < (i : Int)
theorem inv_push {i : Nat} {M : List (ByteArray × Int)} {A : List Int} (h : Inv i M A) {v : Int} (h0 : -1 ≤ v) (h1 : v < (i : Int)) : Inv (i + 1) M (A ++ [v]) := by
  refine ⟨by rw [List.length_append, List.length_singleton, h.len], fun e he => ?_, fun j hj => ?_⟩
  · have := h.m e he; omega
  · by_cases e : j < i
    · rw [List.getD, List.getElem?_append_left (by rw [h.len]; exact e)]
      exact h.a j e
    · have : j = i := by omega
      subst this
      rw [List.getD, List.getElem?_append_right (by rw [h.len]; omega), h.len, Nat.sub_self]
      exact ⟨h0, h1⟩
theorem inv_put {i : Nat} {M : List (ByteArray × Int)} {A : List Int} (h : Inv (i + 1) M A) (k : ByteArray) : Inv (i + 1) (mapPut Ty.str k (i : Int) M) A := by
  refine ⟨h.len, fun e he => ?_, h.a⟩
  rcases put_mem he with h1 | h1
  · exact h.m e h1
  · rw [h1]; omega
def keyAt (T : ByteArray) (i : Nat) : ByteArray := T.extract i (i + 3)
def addM (T : ByteArray) (i : Nat) (M : List (ByteArray × Int)) : List (ByteArray × Int) := if i + 3 ≤ T.size then mapPut Ty.str (keyAt T i) (i : Int) M else M
def addA (T : ByteArray) (i : Nat) (M : List (ByteArray × Int)) (A : List Int) : List Int := A ++ [if i + 3 ≤ T.size ∧ mapHas Ty.str (keyAt T i) M = true then mapGet Ty.str (keyAt T i) 0 M else -1]
theorem inv_add {T : ByteArray} {i : Nat} {M : List (ByteArray × Int)} {A : List Int} (h : Inv i M A) : Inv (i + 1) (addM T i M) (addA T i M A) := by
  have hp : Inv (i + 1) M (addA T i M A) := by
    unfold addA
    refine inv_push h ?_ ?_
    · split
      · rename_i hc
        obtain ⟨e, h1, h2⟩ := get_mem (z := 0) hc.2
        rw [h2]
        have := h.m e h1
        omega
      · omega
    · split
      · rename_i hc
        obtain ⟨e, h1, h2⟩ := get_mem (z := 0) hc.2
        rw [h2]
        exact (h.m e h1).2
      · omega
  unfold addM
  split
  · exact inv_put hp _
  · exact hp
theorem F134_add (N : Nat) (T : ByteArray) (hT : T.size ≤ 100000000) {i : Nat} (hi : i ≤ T.size) (M : List (ByteArray × Int)) (A : List Int) (hA : A.length = i) :
    F134 N ((i : Int), T, M, A) = some (T, addM T i M, addA T i M A) := by
  have w : IntKind.wrap .i64 ((i : Int) + 3) = ((i + 3 : Nat) : Int) := by rw [wrap_i64 (by omega) (by omega)]; omega
  simp only [F134, iteP_eq]
  rw [w]
  unfold addM addA
  by_cases h3 : i + 3 ≤ T.size
  · have ek : T.extract (Int.toNat (i : Int)) (Int.toNat ((i + 3 : Nat) : Int)) = keyAt T i := by rw [Int.toNat_natCast, Int.toNat_natCast]; rfl
    rw [ifT (by omega), ifT (by omega), if_pos (by rw [Int.toNat_natCast]; simp only [decide_eq_true_eq]; omega), ek, if_pos h3]
    cases hm : mapHas Ty.str (keyAt T i) M with
    | true =>
      rw [if_pos rfl, if_pos (by rw [decide_eq_true_eq, List.length_singleton]; omega), if_pos ⟨h3, rfl⟩]
    | false =>
      rw [if_neg (by decide), if_pos (by rw [decide_eq_true_eq]; omega), if_neg (fun h => by cases h.2)]
  · rw [ifF (by omega), if_pos (by rw [decide_eq_true_eq]; omega), if_neg h3, if_neg (fun h => h3 h.1)]
def bb (T : ByteArray) (i : Nat) : Int := ((T.data.toList.getD i 0).toNat : Int)
def alN (T : ByteArray) (p q : Nat) : Nat → Nat → Nat
  | 0, n => n
  | d + 1, n => if n < 258 ∧ q + n < T.size ∧ bb T (p + n) = bb T (q + n) then alN T p q d (n + 1) else n
theorem alN_spec (T : ByteArray) (p q : Nat) : ∀ (d n : Nat), n ≤ 258 → q + n ≤ T.size → (∀ k, k < n → bb T (p + k) = bb T (q + k)) →
    n ≤ alN T p q d n ∧ alN T p q d n ≤ 258 ∧ q + alN T p q d n ≤ T.size ∧ ∀ k, k < alN T p q d n → bb T (p + k) = bb T (q + k) := by
  intro d
  induction d with
  | zero => intro n h1 h2 h3; exact ⟨Nat.le_refl _, h1, h2, h3⟩
  | succ d ih =>
    intro n h1 h2 h3
    unfold alN
    by_cases h : n < 258 ∧ q + n < T.size ∧ bb T (p + n) = bb T (q + n)
    · rw [if_pos h]
      obtain ⟨a, b, c, e⟩ := ih (n + 1) (by omega) (by omega) fun k hk => by
        by_cases hkn : k < n
        · exact h3 k hkn
        · rw [show k = n by omega]; exact h.2.2
      exact ⟨by omega, b, c, e⟩
    · rw [if_neg h]
      exact ⟨Nat.le_refl _, h1, h2, h3⟩
def alK (T : ByteArray) (p q : Nat) : Nat := alN T p q 259 0
theorem alK_spec {T : ByteArray} (p : Nat) {q : Nat} (hq : q ≤ T.size) : alK T p q ≤ 258 ∧ q + alK T p q ≤ T.size ∧ ∀ k, k < alK T p q → bb T (p + k) = bb T (q + k) :=
  (alN_spec T p q 259 0 (by omega) (by omega) fun k hk => by omega).2
theorem byteI {T : ByteArray} {i : Nat} (h : i < T.size) : T[i]? = some (T.data.toList.getD i 0) := byte_at T i h
theorem F159_loop (N : Nat) (T : ByteArray) (hT : T.size ≤ 100000000) {p q : Nat} (hpq : p < q) (hqs : q ≤ T.size) (M : List (ByteArray × Int)) (A : List Int) : ∀ (d n f : Nat), n ≤ 258 → d + n = 259 → d < f →
    F159_28 N f ((n : Int), (p : Int), (q : Int), T, M, A) = some (((alN T p q d n : Nat) : Int), T, M, A) := by
  intro d
  induction d with
  | zero => intro n f h1 h2 hf; omega
  | succ d ih =>
    intro n f h1 h2 hf
    cases f with
    | zero => omega
    | succ f =>
      simp only [F159_28, B159_28, iteP_eq]
      unfold alN
      by_cases hn : n < 258
      · rw [ifT (by omega)]
        by_cases hs : q + n < T.size
        · have w1 : IntKind.wrap .i64 ((q : Int) + (n : Int)) = ((q + n : Nat) : Int) := by rw [wrap_i64 (by omega) (by omega)]; omega
          have w2 : IntKind.wrap .i64 ((p : Int) + (n : Int)) = ((p + n : Nat) : Int) := by rw [wrap_i64 (by omega) (by omega)]; omega
          have w3 : IntKind.wrap .i64 ((n : Int) + 1) = ((n + 1 : Nat) : Int) := by rw [wrap_i64 (by omega) (by omega)]; omega
          rw [w1, w2, ifT (by omega), ifT (by omega), Int.toNat_natCast, Int.toNat_natCast, byteI (show p + n < T.size by omega), Option.bind_some, ifT (by omega), byteI hs, Option.bind_some]
          show (if (bb T (p + n) == bb T (q + n)) = true then _ else _) = _
          by_cases he : bb T (p + n) = bb T (q + n)
          · rw [if_pos (by rw [he]; exact beq_self_eq_true _), if_pos ⟨hn, hs, he⟩, w3, ih (n + 1) f (by omega) (by omega) (by omega)]
            rfl
          · rw [if_neg (by simpa using he), if_neg (fun h => he h.2.2)]
        · have w1 : IntKind.wrap .i64 ((q : Int) + (n : Int)) = ((q + n : Nat) : Int) := by rw [wrap_i64 (by omega) (by omega)]; omega
          rw [w1, ifF (by omega), if_neg (fun h => hs h.2.1)]
      · rw [ifF (by omega), if_neg (fun h => hn h.1)]
theorem F159_alike {N : Nat} (hN : 300 ≤ N) (T : ByteArray) (hT : T.size ≤ 100000000) {p q : Nat} (hpq : p < q) (hqs : q ≤ T.size) (M : List (ByteArray × Int)) (A : List Int) :
    F159 N ((p : Int), (q : Int), T, M, A) = some (((alK T p q : Nat) : Int), T, M, A) := by
  have h := F159_loop N T hT hpq hqs M A 259 0 N (by omega) (by omega) (by omega)
  rw [show ((0 : Nat) : Int) = 0 from rfl] at h
  simp only [F159]
  rw [h, Option.bind_some]
  rfl
def PieceAt (T : ByteArray) (q : Nat) (tl td : Int) : Prop := (tl = 0 ∧ td = 0) ∨ ∃ p : Nat, p < q ∧ q - p ≤ 32768 ∧ td = ((q - p : Nat) : Int) ∧ tl = ((alK T p q : Nat) : Int) ∧ 0 < tl
theorem F135_loop {N : Nat} (hN : 300 ≤ N) (T : ByteArray) (hT : T.size ≤ 100000000) {q : Nat} (hqs : q ≤ T.size) (M : List (ByteArray × Int)) (A : List Int) (hI : Inv q M A) (ok : Bool) : ∀ (d n f : Nat) (p tl td : Int), d + n = 64 → d < f → (ok = true → p < (q : Int) ∧ -1 ≤ p) → PieceAt T q tl td →
    ∃ tl' td', F135_250 N f (p, (n : Int), ok, (q : Int), T, 0, 0, 0, 0, tl, td, M, A) = some (T, 0, tl', td', 0, 0, 0, M, A) ∧ PieceAt T q tl' td' ∧ (((min 258 (T.size - q) : Nat) : Int) ≤ tl → tl' = tl ∧ td' = td) := by
  intro d
  induction d with
  | zero =>
    intro n f p tl td h1 hf hp hP
    cases f with
    | zero => omega
    | succ f =>
      refine ⟨tl, td, ?_, hP, fun _ => ⟨rfl, rfl⟩⟩
      simp only [F135_250, B135_250, iteP_eq]
      cases ok with
      | true => rw [if_pos rfl, ifF (by omega)]
      | false => rw [if_neg (by decide)]
  | succ d ih =>
    intro n f p tl td h1 hf hp hP
    cases f with
    | zero => omega
    | succ f =>
      cases ok with
      | false =>
        refine ⟨tl, td, ?_, hP, fun _ => ⟨rfl, rfl⟩⟩
        simp only [F135_250, B135_250, iteP_eq]
        rw [if_neg (by decide)]
      | true =>
        obtain ⟨p1, p2⟩ := hp rfl
        by_cases h0 : p ≥ 0
        · obtain ⟨k, rfl⟩ := Int.eq_ofNat_of_zero_le h0
          have hkq : k < q := by omega
          have w : IntKind.wrap .i64 ((q : Int) - (k : Int)) = ((q - k : Nat) : Int) := by rw [wrap_i64 (by omega) (by omega)]; omega
          have w2 : IntKind.wrap .i64 ((n : Int) + 1) = ((n + 1 : Nat) : Int) := by rw [wrap_i64 (by omega) (by omega)]; omega
          by_cases hw : q - k ≤ 32768
          · have hal := alK_spec k hqs
            have hak : within (k : Int) A.length = true := within_nat (by rw [hI.len]; exact hkq)
            have hag : A[k]? = some (A.getD k 0) := get_int (by rw [hI.len]; exact hkq)
            obtain ⟨a1, a2⟩ := hI.a k hkq
            have hbody : ∀ r, B135_250 N (F135_250 N f) ((k : Int), (n : Int), true, (q : Int), T, 0, 0, 0, 0, tl, td, M, A) = r ↔ (if ((alK T k q : Nat) : Int) > tl then F135_250 N f (A.getD k 0, ((n + 1 : Nat) : Int), true, (q : Int), T, 0, 0, 0, 0, ((alK T k q : Nat) : Int), ((q - k : Nat) : Int), M, A) else F135_250 N f (A.getD k 0, ((n + 1 : Nat) : Int), true, (q : Int), T, 0, 0, 0, 0, tl, td, M, A)) = r := by
              intro r
              simp only [B135_250, F135_1001, iteP_eq]
              rw [if_pos trivial, ifT (by omega), ifT (by omega), w, ifT (by omega), F159_alike hN T hT hkq hqs, Option.bind_some]
              simp only
              by_cases hg : ((alK T k q : Nat) : Int) > tl
              · rw [if_pos (by simpa using hg), if_pos hak, Int.toNat_natCast, hag, Option.bind_some, Option.bind_some, w2, if_pos hg]
                simp only
                rw [Option.bind_fun_some]
              · rw [if_neg (by simpa using hg), if_pos hak, Int.toNat_natCast, hag, Option.bind_some, Option.bind_some, w2, if_neg hg]
                simp only
                rw [Option.bind_fun_some]
            by_cases hg : ((alK T k q : Nat) : Int) > tl
            · have htl : 0 ≤ tl := by
                rcases hP with ⟨e, _⟩ | ⟨_, _, _, _, _, e⟩ <;> omega
              obtain ⟨tl', td', e1, e2, e3⟩ := ih (n + 1) f (A.getD k 0) ((alK T k q : Nat) : Int) ((q - k : Nat) : Int) (by omega) (by omega) (fun _ => ⟨by omega, a1⟩) (.inr ⟨k, hkq, hw, rfl, rfl, by omega⟩)
              refine ⟨tl', td', ?_, e2, fun hmax => ?_⟩
              · rw [F135_250, (hbody _), if_pos hg]; exact e1
              · omega
            · obtain ⟨tl', td', e1, e2, e3⟩ := ih (n + 1) f (A.getD k 0) tl td (by omega) (by omega) (fun _ => ⟨by omega, a1⟩) hP
              refine ⟨tl', td', ?_, e2, e3⟩
              rw [F135_250, (hbody _), if_neg hg]; exact e1
          · refine ⟨tl, td, ?_, hP, fun _ => ⟨rfl, rfl⟩⟩
            simp only [F135_250, B135_250, iteP_eq]
            rw [if_pos trivial, ifT (by omega), ifT (by omega), w, ifF (by omega)]
        · refine ⟨tl, td, ?_, hP, fun _ => ⟨rfl, rfl⟩⟩
          simp only [F135_250, B135_250, iteP_eq]
          rw [if_pos trivial, ifT (by omega), ifF (by omega)]
theorem bytes_get {T : ByteArray} {i : Nat} (h : i < T.size) : (bytesOf T).getD i 0 = bb T i := by
  have hs : T.data.toList.length = T.size := by simp
  rw [bytesOf_eq, List.getD, List.getElem?_map, List.getElem?_eq_getElem (by omega)]
  unfold bb
  rw [List.getD, List.getElem?_eq_getElem (by omega)]
  rfl
theorem bb_range (T : ByteArray) (i : Nat) : 0 ≤ bb T i ∧ bb T i ≤ 255 := by
  unfold bb
  have := (T.data.toList.getD i 0).toNat_lt
  omega
theorem F135_best {N : Nat} (hN : 300 ≤ N) (T : ByteArray) (hT : T.size ≤ 100000000) {q : Nat} (hqs : q ≤ T.size) (M : List (ByteArray × Int)) (A : List Int) (hI : Inv q M A) :
    ∃ tl td, F135 N ((q : Int), T, M, A) = some (0, tl, td, decide (tl ≥ 3), T, M, A) ∧ PieceAt T q tl td := by
  have w : IntKind.wrap .i64 ((q : Int) + 3) = ((q + 3 : Nat) : Int) := by rw [wrap_i64 (by omega) (by omega)]; omega
  simp only [F135, iteP_eq]
  rw [w]
  by_cases h3 : T.size < q + 3
  · rw [ifT (by omega)]
    exact ⟨0, 0, rfl, .inl ⟨rfl, rfl⟩⟩
  · rw [ifF (by omega), ifT (by omega), if_pos (by rw [Int.toNat_natCast]; simp only [decide_eq_true_eq]; omega)]
    rw [Int.toNat_natCast, Int.toNat_natCast]
    obtain ⟨tl, td, e1, e2, _⟩ := F135_loop hN T hT hqs M A hI (mapHas Ty.str (T.extract q (q + 3)) M) 64 0 N (mapGet Ty.str (T.extract q (q + 3)) 0 M) 0 0 (by omega) (by omega) (fun hh => by
      obtain ⟨e, h1, h2⟩ := get_mem (z := 0) hh
      rw [h2]
      have := hI.m e h1
      omega) (.inl ⟨rfl, rfl⟩)
    rw [show ((0 : Nat) : Int) = 0 from rfl] at e1
    rw [e1, Option.bind_some]
    exact ⟨tl, td, rfl, e2⟩
theorem copy_take {B : List Int} {q D : Nat} (hD : 1 ≤ D) (hDq : D ≤ q) : ∀ (k i : Nat), q + i + k ≤ B.length → (∀ n, n < i + k → B.getD (q - D + n) 0 = B.getD (q + n) 0) → copyN D k (B.take (q + i)) = B.take (q + i + k) := by
  intro k
  induction k with
  | zero => intro i _ _; rfl
  | succ k ih =>
    intro i h1 h2
    have hl : (B.take (q + i)).length = q + i := by rw [List.length_take]; omega
    have e1 : (B.take (q + i)).getD (q + i - D) 0 = B.getD (q + i) 0 := by
      rw [List.getD, List.getElem?_take_of_lt (by omega)]
      have := h2 i (by omega)
      rw [show q - D + i = q + i - D by omega] at this
      exact this
    have e2 : B.take (q + i) ++ [B.getD (q + i) 0] = B.take (q + (i + 1)) := by
      rw [show q + (i + 1) = q + i + 1 by omega, List.take_add_one, List.getD, List.getElem?_eq_getElem (show q + i < B.length by omega)]
      rfl
    unfold copyN
    rw [hl, e1, e2, ih (i + 1) (by omega) fun n hn => h2 n (by omega), show q + (i + 1) + k = q + i + (k + 1) by omega]
def Steps (T : ByteArray) (q : Nat) (t : Tok) (k : Nat) : Prop :=
  validT t.1 t.2.1 t.2.2.1 = true ∧ 0 < k ∧ q + k ≤ T.size ∧ madeT t = k ∧ expT ((bytesOf T).take q) t = some ((bytesOf T).take (q + k))
theorem step_byte {T : ByteArray} {q : Nat} (hq : q < T.size) : Steps T q (bb T q, 0, 0, ()) 1 := by
  obtain ⟨b0, b1⟩ := bb_range T q
  have hl := bytesOf_len T
  refine ⟨?_, by omega, by omega, rfl, ?_⟩
  · unfold validT inT
    simp [b0, b1]
  · unfold expT
    rw [if_pos rfl, List.take_add_one, List.getElem?_eq_getElem (by omega)]
    have := bytes_get hq
    rw [List.getD, List.getElem?_eq_getElem (by omega)] at this
    simp only [Option.getD_some] at this
    rw [this]
    rfl
theorem step_piece {T : ByteArray} {q : Nat} {tl td : Int} (hq : q < T.size) (hP : PieceAt T q tl td) (h3 : 3 ≤ tl) : Steps T q (0, tl, td, ()) tl.toNat := by
  have hl := bytesOf_len T
  rcases hP with ⟨e, _⟩ | ⟨p, p1, p2, p3, p4, p5⟩
  · omega
  · obtain ⟨a1, a2, a3⟩ := alK_spec (T := T) p (q := q) (by omega)
    refine ⟨?_, by omega, by omega, ?_, ?_⟩
    · unfold validT inT
      simp only
      rw [if_neg (by omega)]
      simp only [Bool.and_eq_true, decide_eq_true_eq]
      refine ⟨trivial, ⟨?_, ?_⟩, ?_, ?_⟩ <;> omega
    · unfold madeT
      rw [if_neg (show ¬ tl = 0 by omega)]
    · unfold expT
      simp only
      rw [if_neg (by omega), if_neg (by rw [List.length_take]; omega)]
      have hD : td.toNat = q - p := by omega
      have hk : tl.toNat = alK T p q := by omega
      rw [hD, hk]
      have := copy_take (B := bytesOf T) (q := q) (D := q - p) (by omega) (by omega) (alK T p q) 0 (by omega) fun n hn => by
        rw [show q - (q - p) + n = p + n by omega, bytes_get (by omega), bytes_get (by omega)]
        exact a3 n (by omega)
      rw [Nat.add_zero] at this
      rw [this]
theorem F110_adds (N : Nat) (T : ByteArray) (hT : T.size ≤ 100000000) (q k : Nat) (hqk : q + k ≤ T.size) (P : List Tok) : ∀ (d i f : Nat) (M : List (ByteArray × Int)) (A : List Int), i + d = k → d < f → Inv (q + i) M A →
    ∃ M' A', F110_129630 N f (((q + i : Nat) : Int), (i : Int), (k : Int), P, T, M, A) = some (((q + k : Nat) : Int), P, T, M', A') ∧ Inv (q + k) M' A' := by
  intro d
  induction d with
  | zero =>
    intro i f M A hi hf hI
    cases f with
    | zero => omega
    | succ f =>
      have e : i = k := by omega
      subst e
      refine ⟨M, A, ?_, hI⟩
      simp only [F110_129630, B110_129630, iteP_eq]
      rw [ifF (by omega)]
  | succ d ih =>
    intro i f M A hi hf hI
    cases f with
    | zero => omega
    | succ f =>
      have w1 : IntKind.wrap .i64 (((q + i : Nat) : Int) + 1) = ((q + (i + 1) : Nat) : Int) := by rw [wrap_i64 (by omega) (by omega)]; omega
      have w2 : IntKind.wrap .i64 ((i : Int) + 1) = ((i + 1 : Nat) : Int) := by rw [wrap_i64 (by omega) (by omega)]; omega
      obtain ⟨M', A', e1, e2⟩ := ih (i + 1) f (addM T (q + i) M) (addA T (q + i) M A) (by omega) (by omega) (by rw [show q + (i + 1) = q + i + 1 by omega]; exact inv_add hI)
      refine ⟨M', A', ?_, e2⟩
      simp only [F110_129630, B110_129630, iteP_eq]
      rw [ifT (by omega), F134_add N T hT (by omega) M A hI.len, Option.bind_some, w1, w2]
      simp only
      rw [e1]
      rfl
def Packed (T : ByteArray) (from_ q : Nat) (P : List Tok) : Prop := validAll P = true ∧ made P = q - from_ ∧ P.length ≤ q - from_ ∧ expL ((bytesOf T).take from_) P = some ((bytesOf T).take q)
theorem expL_snoc : ∀ (P : List Tok) (o p : List Int) (t : Tok), expL o P = some p → expL o (P ++ [t]) = expT p t
  | [], o, p, t, h => by
    cases h
    show (match expT o t with | some p => expL p [] | none => none) = expT o t
    cases expT o t <;> rfl
  | u :: P, o, p, t, h => by
    unfold expL at h
    show (match expT o u with | some p => expL p (P ++ [t]) | none => none) = expT p t
    cases hu : expT o u with
    | none => rw [hu] at h; cases h
    | some r =>
      rw [hu] at h
      exact expL_snoc P r p t h
theorem made_append (a b : List Tok) : made (a ++ b) = made a + made b := by unfold made; rw [List.map_append, List.sum_append]
theorem packed_step {T : ByteArray} {from_ q k : Nat} {P : List Tok} {t : Tok} (h : Packed T from_ q P) (hf : from_ ≤ q) (hs : Steps T q t k) : Packed T from_ (q + k) (P ++ [t]) := by
  obtain ⟨h1, h2, h3, h4⟩ := h
  obtain ⟨s1, s2, s3, s4, s5⟩ := hs
  refine ⟨?_, ?_, ?_, ?_⟩
  · unfold validAll at h1 ⊢
    rw [List.all_append, h1]
    simp [s1]
  · rw [made_append, h2]
    have : made [t] = madeT t := by unfold made; simp
    rw [this, s4]
    omega
  · rw [List.length_append, List.length_singleton]; omega
  · rw [expL_snoc P _ _ t h4, s5]
theorem F110_main (T : ByteArray) (hT : T.size ≤ 150000) (from_ : Nat) : ∀ (d q f : Nat) (P : List Tok) (M : List (ByteArray × Int)) (A : List Int), T.size ≤ q + d → q ≤ T.size → from_ ≤ q → d < f → Inv q M A → Packed T from_ q P →
    ∃ P', F110_506 200000 f ((q : Int), P, T, M, A) = some P' ∧ Packed T from_ T.size P' := by
  intro d
  induction d with
  | zero =>
    intro q f P M A h1 h2 h3 hf hI hP
    cases f with
    | zero => omega
    | succ f =>
      have e : q = T.size := by omega
      subst e
      refine ⟨P, ?_, hP⟩
      simp only [F110_506, B110_506, iteP_eq]
      rw [if_neg (by simp)]
  | succ d ih =>
    intro q f P M A h1 h2 h3 hf hI hP
    cases f with
    | zero => omega
    | succ f =>
      by_cases hq : q < T.size
      · obtain ⟨tl, td, b1, b2⟩ := F135_best (N := 200000) (by decide) T (by omega) h2 M A hI
        have hPl := hP.2.2.1
        by_cases h3' : 3 ≤ tl
        · have hs := step_piece hq b2 h3'
          have hmx : (if (1 : Int) > tl then (1 : Int) else tl) = ((tl.toNat : Nat) : Int) := by rw [if_neg (by omega)]; omega
          obtain ⟨M', A', e1, e2⟩ := F110_adds 200000 T (by omega) q tl.toNat hs.2.2.1 (P ++ [(0, tl, td, ())]) tl.toNat 0 200000 M A (by omega) (by have := hs.2.2.1; omega) hI
          rw [Nat.add_zero, show ((0 : Nat) : Int) = 0 from rfl] at e1
          obtain ⟨P', g1, g2⟩ := ih (q + tl.toNat) f (P ++ [(0, tl, td, ())]) M' A' (by have := hs.2.1; omega) hs.2.2.1 (by omega) (by omega) e2 (packed_step hP h3 hs)
          refine ⟨P', ?_, g2⟩
          simp only [F110_506, B110_506, iteP_eq]
          rw [ifT (by omega), b1, Option.bind_some]
          simp only
          rw [if_neg (by simpa using h3'), if_pos (by rw [decide_eq_true_eq, List.length_singleton]; omega), hmx, e1, Option.bind_some]
          simp only
          rw [g1]
          rfl
        · have hs := step_byte hq
          have wb : IntKind.wrap .i64 (((T.data.toList.getD q 0).toNat : Nat) : Int) = bb T q := by
            obtain ⟨c0, c1⟩ := bb_range T q
            unfold bb at c0 c1 ⊢
            rw [wrap_i64 (by omega) (by omega)]
          obtain ⟨M', A', e1, e2⟩ := F110_adds 200000 T (by omega) q 1 hs.2.2.1 (P ++ [(bb T q, 0, 0, ())]) 1 0 200000 M A (by omega) (by omega) hI
          rw [Nat.add_zero, show ((0 : Nat) : Int) = 0 from rfl, show ((1 : Nat) : Int) = 1 from rfl] at e1
          obtain ⟨P', g1, g2⟩ := ih (q + 1) f (P ++ [(bb T q, 0, 0, ())]) M' A' (by omega) hs.2.2.1 (by omega) (by omega) e2 (packed_step hP h3 hs)
          refine ⟨P', ?_, g2⟩
          simp only [F110_506, B110_506, iteP_eq]
          rw [ifT (by omega), b1, Option.bind_some]
          simp only
          rw [if_pos (by simpa using h3'), ifT (by omega), Int.toNat_natCast, byteI hq, Option.bind_some, wb, if_pos (by rw [decide_eq_true_eq, List.length_singleton]; omega), e1, Option.bind_some]
          simp only
          rw [g1]
          rfl
      · have e : q = T.size := by omega
        subst e
        refine ⟨P, ?_, hP⟩
        simp only [F110_506, B110_506, iteP_eq]
        rw [if_neg (by simp)]
theorem F88_tail (N : Nat) (w : ByteArray) (hw : w.size ≤ 1000000) : F88 N w = some (tailB w) := by
  have e : IntKind.wrap .i64 ((w.size : Int) - 32768) = (w.size : Int) - 32768 := wrap_i64 (by omega) (by omega)
  have hmx : (if (0 : Int) > (w.size : Int) - 32768 then (0 : Int) else (w.size : Int) - 32768) = ((w.size - 32768 : Nat) : Int) := by split <;> omega
  simp only [F88, iteP_eq]
  rw [e, hmx, ifT (by omega), Int.toNat_natCast]
  unfold tailB
  by_cases h : 32768 < w.size
  · rw [if_pos h]
  · rw [if_neg h, show w.size - 32768 = 0 by omega, ByteArray.extract_zero_size]
theorem F110_ahead (T y : ByteArray) (hT : T.size ≤ 150000) (n : Nat) (hn : n ≤ T.size) : ∀ (d i f : Nat) (M : List (ByteArray × Int)) (A : List Int), i + d = n → d < f → Inv i M A →
    ∃ M' A', F110_122 200000 f ((i : Int), (n : Int), y, T, M, A) = some (y, T, M', A') ∧ Inv n M' A' := by
  intro d
  induction d with
  | zero =>
    intro i f M A hi hf hI
    cases f with
    | zero => omega
    | succ f =>
      have e : i = n := by omega
      subst e
      refine ⟨M, A, ?_, hI⟩
      simp only [F110_122, B110_122, iteP_eq]
      rw [if_neg (by simp)]
  | succ d ih =>
    intro i f M A hi hf hI
    cases f with
    | zero => omega
    | succ f =>
      have w2 : IntKind.wrap .i64 ((i : Int) + 1) = ((i + 1 : Nat) : Int) := by rw [wrap_i64 (by omega) (by omega)]; omega
      obtain ⟨M', A', e1, e2⟩ := ih (i + 1) f (addM T i M) (addA T i M A) (by omega) (by omega) (inv_add hI)
      refine ⟨M', A', ?_, e2⟩
      simp only [F110_122, B110_122, iteP_eq]
      rw [ifT (by omega), F134_add 200000 T (by omega) (by omega) M A hI.len, Option.bind_some, w2]
      simp only
      rw [e1]
      rfl
structure PackOk (w s : ByteArray) (P : List Tok) : Prop where
  run : F110 200000 (w, s) = some P
  valid : validAll P = true
  made : made P = s.size
  len : P.length ≤ s.size
  exp : expL (bytesOf (tailB w)) P = some (bytesOf (tailB w) ++ bytesOf s)
theorem bytesOf_append (a b : ByteArray) : bytesOf (a ++ b) = bytesOf a ++ bytesOf b := by
  rw [bytesOf_eq, bytesOf_eq, bytesOf_eq, ← List.map_append]
  congr 1
theorem F110_pack (w s : ByteArray) (hw : w.size ≤ 1000000) (hs : s.size ≤ 100000) : ∃ P, PackOk w s P := by
  have ht := tailB_size w
  have hT : (tailB w ++ s).size = (tailB w).size + s.size := ByteArray.size_append
  obtain ⟨M, A, e1, e2⟩ := F110_ahead (tailB w ++ s) (tailB w) (by omega) (tailB w).size (by omega) (tailB w).size 0 200000 [] [] (by omega) (by omega) ⟨rfl, fun e he => (by cases he), fun i hi => by omega⟩
  have hb := bytesOf_append (tailB w) s
  have hbl := bytesOf_len (tailB w)
  have hbl2 := bytesOf_len (tailB w ++ s)
  have ht1 : (bytesOf (tailB w ++ s)).take (tailB w).size = bytesOf (tailB w) := by rw [hb, ← hbl, List.take_left]
  obtain ⟨P, g1, g2, g3, g4, g5⟩ := F110_main (tailB w ++ s) (by omega) (tailB w).size s.size (tailB w).size 200000 [] M A (by omega) (by omega) (Nat.le_refl _) (by omega) e2 ⟨rfl, by rw [Nat.sub_self]; rfl, Nat.zero_le _, rfl⟩
  refine ⟨P, ?_, g2, by omega, by omega, ?_⟩
  · rw [show ((0 : Nat) : Int) = 0 from rfl] at e1
    simp only [F110, iteP_eq]
    rw [F88_tail _ w hw, Option.bind_some, ifF (by omega), e1, Option.bind_some]
    simp only
    rw [g1, Option.bind_some]
  · rw [ht1] at g5
    rw [g5, ← hb, List.take_of_length_le (by omega)]
theorem extract_all (s : ByteArray) : s.extract 0 s.size = s := ByteArray.extract_zero_size
theorem F15_one (s : ByteArray) (hs : s.size ≤ 65535) (last : Bool) (m : List Bool) (hm : m.length ≤ 100000000) :
    F15 200000 (s, last, lastF m, nF m, bF m) = some (lastF (storedS m s last), nF (storedS m s last), bF (storedS m s last)) := by
  have hp : (if (65535 : Int) < (s.size : Int) then (65535 : Int) else (s.size : Int)) = (s.size : Int) := if_neg (by omega)
  have hb2 : ((s.size : Int) == (s.size : Int)) = true := beq_self_eq_true _
  have hl : decide ((0 : Int) ≤ (s.size : Int) ∧ (s.size : Int) ≤ (s.size : Int)) = true := by rw [decide_eq_true_eq]; omega
  have hx := xor_piece hs
  have he : (ByteArray.toList (ByteArray.extract s s.size s.size) == []) = true := by
    rw [toList_nil, ByteArray.size_extract, decide_eq_true_eq]; omega
  obtain ⟨y1, y2, y3, a1, a2, a3, y4, a4, a5⟩ := stored_one s hs last m hm
  have h2 : F15_2 200000 200000 (s, last, lastF m, nF m, bF m) = some (lastF (storedS m s last), nF (storedS m s last), bF (storedS m s last)) := by
    show B15_2 200000 (F15_2 200000 199999) (s, last, lastF m, nF m, bF m) = _
    simp only [B15_2, iteP_eq, hp, hx, hb2, hl, he, if_true, Int.toNat_natCast, extract_all]
    cases last with
    | true =>
      simp only [if_true]
      rw [a1, Option.bind_some, a2, Option.bind_some, a3, Option.bind_some, a4, Option.bind_some, a5, Option.bind_some]
    | false =>
      simp only [Bool.false_eq_true, if_false]
      rw [a1, Option.bind_some, a2, Option.bind_some, a3, Option.bind_some, a4, Option.bind_some, a5, Option.bind_some]
  simp only [F15]
  rw [h2, Option.bind_some]
def storedT (a : List Bool) (s : ByteArray) (b : Bool) : List Bool :=
  [b, false, false] ++ (List.replicate (padN (a ++ [b, false, false])) false ++ (putB 16 (s.size : Int) ++ (putB 16 ((65535 - s.size : Nat) : Int) ++ allB s)))
theorem storedS_eq (a : List Bool) (s : ByteArray) (b : Bool) : storedS a s b = a ++ storedT a s b := by
  unfold storedS storedT alignL
  simp only [List.append_assoc]
theorem padN_lt (m : List Bool) : padN m < 8 := by unfold padN; omega
theorem storedT_len (a : List Bool) (s : ByteArray) (b : Bool) : (storedT a s b).length = 35 + padN (a ++ [b, false, false]) + 8 * s.size := by
  have p16 : ∀ v, (putB 16 v).length = 16 := fun v => by rw [putB_length]; rfl
  have := allB_length s
  unfold storedT
  simp only [List.length_append, List.length_replicate, p16, List.length_cons, List.length_nil]
  omega
theorem strF_byte (X : List Bool) (i : Nat) (h : 8 * i < X.length) : ∃ b : UInt8, (strF X)[i]? = some b ∧ b.toNat = val ((X.drop (8 * i)).take 8) := by
  have hlt : val ((X.drop (8 * i)).take 8) < 256 := by
    have h1 := val_lt ((X.drop (8 * i)).take 8)
    have h2 : 2 ^ ((X.drop (8 * i)).take 8).length ≤ 2 ^ 8 := Nat.pow_le_pow_right (by decide) (by rw [List.length_take]; omega)
    omega
  refine ⟨UInt8.ofNat (val ((X.drop (8 * i)).take 8)), ?_, ?_⟩
  · have hsz := strF_size X
    rw [byte_at _ _ (by omega)]
    congr 1
    unfold strF stringOf allF
    simp only
    rw [List.getD, List.getElem?_map, bytesF_get _ _ _ (by omega)]
    rfl
  · rw [UInt8.toNat_ofNat']
    omega
theorem strF_all (s : ByteArray) : strF (allB s) = s := by
  have h1 := allB_length s
  have hs : s.data.toList.length = s.size := by simp
  have h2 : allF (allB s) = s.data.toList.map fun x => (x.toNat : Int) := by
    unfold allF
    rw [show ((allB s).length + 7) / 8 = s.data.toList.length by omega]
    exact bytesF_bitsOf _
  have h3 : ∀ l : List UInt8, (l.map fun x => (x.toNat : Int)).map (fun n => UInt8.ofNat n.toNat) = l := by
    intro l
    rw [List.map_map]
    conv => rhs; rw [← List.map_id l]
    apply List.map_congr_left
    intro x _
    show UInt8.ofNat ((x.toNat : Int).toNat) = x
    rw [Int.toNat_natCast]
    exact UInt8.ofNat_toNat
  unfold strF stringOf
  rw [h2, h3]
theorem stringOf_bytes (s : ByteArray) : stringOf (bytesOf s) = s := by
  have := strF_all s
  have h1 := allB_length s
  have hs : s.data.toList.length = s.size := by simp
  unfold strF at this
  have h2 : allF (allB s) = bytesOf s := by
    rw [bytesOf_eq]
    unfold allF
    rw [show ((allB s).length + 7) / 8 = s.data.toList.length by omega]
    exact bytesF_bitsOf _
  rwa [h2] at this
theorem F133_gap (N : Nat) (L : List Bool) (a : List Bool) (e : Int) (ha : a.length ≤ 1000000000) : F133 N (L, (a.length : Int), e, ()) = some ((padN a : Nat) : Int) := by
  have h1 : Int.tmod (a.length : Int) 8 = ((a.length % 8 : Nat) : Int) := by rw [Int.tmod_eq_emod_of_nonneg (by omega)]; omega
  have w : IntKind.wrap .i64 ((8 : Int) - ((a.length % 8 : Nat) : Int)) = ((8 - a.length % 8 : Nat) : Int) := by rw [wrap_i64 (by omega) (by omega)]; omega
  simp only [F133]
  rw [h1, w, Int.tmod_eq_emod_of_nonneg (by omega)]
  unfold padN
  congr 1
theorem F105_bytes (a g X r : List Bool) (k : Nat) (hg : g.length = padN a) (hX : X.length = 8 * k) (hk : k ≤ 80000) (hL : (a ++ (g ++ (X ++ r))).length ≤ 1000000000) :
    F105 200000 ((k : Int), (a.length : Int), 0, a ++ (g ++ (X ++ r))) = some (strF X, ((a.length + padN a + 8 * k : Nat) : Int), 0, a ++ (g ++ (X ++ r))) := by
  have hlen : (a ++ (g ++ (X ++ r))).length = a.length + padN a + 8 * k + r.length := by simp only [List.length_append, hg, hX]; omega
  have hp := padN_lt a
  have hmx : (if (0 : Int) > (k : Int) then (0 : Int) else (k : Int)) = (k : Int) := if_neg (by omega)
  have w1 : IntKind.wrap .i64 (((a ++ (g ++ (X ++ r))).length : Int) - (a.length : Int)) = ((padN a + 8 * k + r.length : Nat) : Int) := by rw [wrap_i64 (by omega) (by omega)]; omega
  have w2 : IntKind.wrap .i64 (((padN a + 8 * k + r.length : Nat) : Int) - ((padN a : Nat) : Int)) = ((8 * k + r.length : Nat) : Int) := by rw [wrap_i64 (by omega) (by omega)]; omega
  have w3 : IntKind.wrap .i64 (Int.tdiv ((8 * k + r.length : Nat) : Int) 8) = (((8 * k + r.length) / 8 : Nat) : Int) := by
    rw [Int.tdiv_eq_ediv_of_nonneg (by omega), wrap_i64 (by omega) (by omega)]; omega
  have w4 : IntKind.wrap .i64 ((8 : Int) * (k : Int)) = ((8 * k : Nat) : Int) := by rw [wrap_i64 (by omega) (by omega)]; omega
  have w5 : IntKind.wrap .i64 ((a.length : Int) + ((padN a : Nat) : Int)) = ((a.length + padN a : Nat) : Int) := by rw [wrap_i64 (by omega) (by omega)]; omega
  have w6 : IntKind.wrap .i64 (((a.length + padN a : Nat) : Int) + ((8 * k : Nat) : Int)) = ((a.length + padN a + 8 * k : Nat) : Int) := by rw [wrap_i64 (by omega) (by omega)]; omega
  have w7 : IntKind.wrap .i64 (((a.length + padN a + 8 * k : Nat) : Int) - ((8 * k : Nat) : Int)) = ((a.length + padN a : Nat) : Int) := by rw [wrap_i64 (by omega) (by omega)]; omega
  have hcut : List.take (a.length + padN a + 8 * k - (a.length + padN a)) (List.drop (a.length + padN a) (a ++ (g ++ (X ++ r)))) = X := by
    rw [show a.length + padN a + 8 * k - (a.length + padN a) = 8 * k by omega, show a ++ (g ++ (X ++ r)) = (a ++ g) ++ (X ++ r) by simp only [List.append_assoc], show a.length + padN a = (a ++ g).length by rw [List.length_append, hg], List.drop_left, ← hX, List.take_left]
  simp only [F105, iteP_eq]
  rw [if_pos (by rfl), F133_gap _ _ a _ (by omega), Option.bind_some, hmx, w1, w2, w3, ifF (by omega), if_neg (by simp), Option.bind_some, w4, w5, w6, w7, ifT (by omega), if_pos (by simp only [decide_eq_true_eq, Int.toNat_natCast]; omega), Int.toNat_natCast, Int.toNat_natCast, hcut, F20_text X (by omega) (by decide), Option.bind_some]
theorem xor_pieces {n : Nat} (h : n ≤ 65535) : IntKind.wrap .i64 ((BitVec.toNat (BitVec.ofInt 64 (n : Int) ^^^ BitVec.ofInt 64 ((65535 - n : Nat) : Int)) : Nat) : Int) = 65535 := by
  have hx : n ^^^ 65535 = 65535 - n := by
    have h2 : (65535 : Nat) = 2 ^ 16 - 1 := rfl
    apply Nat.eq_of_testBit_eq
    intro i
    rw [Nat.testBit_xor, h2, Nat.testBit_two_pow_sub_one, show 2 ^ 16 - 1 - n = 2 ^ 16 - (n + 1) by omega, Nat.testBit_two_pow_sub_succ (by omega)]
    by_cases hi : i < 16
    · simp [hi]
    · have : n.testBit i = false := Nat.testBit_lt_two_pow (Nat.lt_of_lt_of_le (show n < 2 ^ 16 by omega) (Nat.pow_le_pow_right (by decide) (by omega)))
      simp [hi, this]
  rw [BitVec.ofInt_natCast, BitVec.ofInt_natCast, BitVec.toNat_xor, BitVec.toNat_ofNat, BitVec.toNat_ofNat, Nat.mod_eq_of_lt (by omega), Nat.mod_eq_of_lt (by omega), ← hx, ← Nat.xor_assoc, Nat.xor_self, Nat.zero_xor, wrap_i64 (by omega) (by omega)]
  rfl
theorem two_bytes {n : Nat} (h : n ≤ 65535) {x y : UInt8} (hx : x.toNat = n % 256) (hy : y.toNat = n / 256) : IntKind.wrap .i64 (IntKind.wrap .i64 (x.toNat : Int) + IntKind.wrap .i64 ((256 : Int) * IntKind.wrap .i64 (y.toNat : Int))) = (n : Int) := by
  rw [wrap_i64 (z := (x.toNat : Int)) (by omega) (by omega), wrap_i64 (z := (y.toNat : Int)) (by omega) (by omega), wrap_i64 (z := (256 : Int) * (y.toNat : Int)) (by omega) (by omega), wrap_i64 (by omega) (by omega), hx, hy]
  omega
theorem F29_stored (w : ByteArray) (s : ByteArray) (hs : s.size ≤ 65535) (last : Bool) (most : Int) (hm : (s.size : Int) ≤ most) (a r : List Bool) (hL : (a ++ (storedT a s last ++ r)).length ≤ 1000000000) :
    F29 200000 (w, most, (a.length : Int), 0, a ++ (storedT a s last ++ r)) = some (s, last, 0, 0, ((a.length + (storedT a s last).length : Nat) : Int), 0, a ++ (storedT a s last ++ r)) := by
  generalize hQ : a ++ (storedT a s last ++ r) = Q at *
  have p16 : ∀ v, (putB 16 v).length = 16 := fun v => by rw [putB_length]; rfl
  have hal := allB_length s
  have hTl := storedT_len a s last
  have hlast : ((last.toNat : Int) == 1) = last := by cases last <;> rfl
  have e2 : putB 2 0 = [false, false] := rfl
  have b1 : Q = a ++ ([last] ++ (putB 2 0 ++ (List.replicate (padN (a ++ [last, false, false])) false ++ (putB 16 (s.size : Int) ++ (putB 16 ((65535 - s.size : Nat) : Int) ++ (allB s ++ r)))))) := by
    rw [← hQ, e2]; unfold storedT; simp only [List.append_assoc]; rfl
  have b2 : Q = (a ++ [last]) ++ (putB 2 0 ++ (List.replicate (padN (a ++ [last, false, false])) false ++ (putB 16 (s.size : Int) ++ (putB 16 ((65535 - s.size : Nat) : Int) ++ (allB s ++ r))))) := by rw [b1]; simp only [List.append_assoc]
  have ea : a ++ [last] ++ putB 2 0 = a ++ [last, false, false] := by rw [e2]; simp only [List.append_assoc]; rfl
  have b3 : Q = (a ++ [last, false, false]) ++ (List.replicate (padN (a ++ [last, false, false])) false ++ ((putB 16 (s.size : Int) ++ putB 16 ((65535 - s.size : Nat) : Int)) ++ (allB s ++ r))) := by rw [b1, e2]; simp only [List.append_assoc]; rfl
  have b4 : Q = (alignL (a ++ [last, false, false]) ++ putB 16 (s.size : Int) ++ putB 16 ((65535 - s.size : Nat) : Int)) ++ ([] ++ (allB s ++ r)) := by rw [b3]; unfold alignL; simp only [List.append_assoc, List.nil_append]
  have r1 := rd_last (a := a) (r := putB 2 0 ++ (List.replicate (padN (a ++ [last, false, false])) false ++ (putB 16 (s.size : Int) ++ (putB 16 ((65535 - s.size : Nat) : Int) ++ (allB s ++ r))))) last (by rw [← b1]; exact hL)
  rw [← b1] at r1
  have r2 := rd_put (N := 200000) (by decide) (a ++ [last]) (List.replicate (padN (a ++ [last, false, false])) false ++ (putB 16 (s.size : Int) ++ (putB 16 ((65535 - s.size : Nat) : Int) ++ (allB s ++ r)))) 2 0 (by rw [← b2]; exact hL)
  rw [← b2, show clampN 2 = 2 from rfl, List.length_append, List.length_singleton, show (lowN 2 0 : Int) = 0 from rfl] at r2
  have l3 : (a ++ [last, false, false]).length = a.length + 3 := by rw [List.length_append]; rfl
  have r3 := F105_bytes (a ++ [last, false, false]) (List.replicate (padN (a ++ [last, false, false])) false) (putB 16 (s.size : Int) ++ putB 16 ((65535 - s.size : Nat) : Int)) (allB s ++ r) 4 (List.length_replicate ..) (by rw [List.length_append, p16, p16]) (by decide) (by rw [← b3]; exact hL)
  rw [← b3, l3, show ((4 : Nat) : Int) = 4 from rfl] at r3
  generalize hP : padN (a ++ [last, false, false]) = P at *
  have hall := alignL_length (a ++ [last, false, false])
  have hall2 : (alignL (a ++ [last, false, false])).length = a.length + 3 + P := by unfold alignL; rw [List.length_append, List.length_replicate, l3, hP]
  have l4 : (alignL (a ++ [last, false, false]) ++ putB 16 (s.size : Int) ++ putB 16 ((65535 - s.size : Nat) : Int)).length = a.length + 3 + P + 32 := by rw [List.length_append, List.length_append, p16, p16, hall2]
  have hmod : (a.length + 3 + P) % 8 = 0 := by rw [hall2, l3] at hall; omega
  have hp0 : padN (alignL (a ++ [last, false, false]) ++ putB 16 (s.size : Int) ++ putB 16 ((65535 - s.size : Nat) : Int)) = 0 := by
    unfold padN
    rw [l4]
    omega
  have r4 := F105_bytes (alignL (a ++ [last, false, false]) ++ putB 16 (s.size : Int) ++ putB 16 ((65535 - s.size : Nat) : Int)) [] (allB s) r s.size (by rw [hp0]; rfl) hal (by omega) (by rw [← b4]; exact hL)
  rw [← b4, hp0, l4, strF_all] at r4
  -- the four bytes
  have v1 : val (putB 16 (s.size : Int)) = s.size := by rw [val_putB]; exact (show lowN 16 (s.size : Int) = s.size from lowN_nat (by decide) (by omega))
  have v2 : val (putB 16 ((65535 - s.size : Nat) : Int)) = 65535 - s.size := by rw [val_putB]; exact (show lowN 16 ((65535 - s.size : Nat) : Int) = 65535 - s.size from lowN_nat (by decide) (by omega))
  generalize hx1 : putB 16 (s.size : Int) = x1 at *
  generalize hx2 : putB 16 ((65535 - s.size : Nat) : Int) = x2 at *
  have z1 : x1.length = 16 := by rw [← hx1]; exact p16 _
  have z2 : x2.length = 16 := by rw [← hx2]; exact p16 _
  obtain ⟨c0, d0, f0⟩ := strF_byte (x1 ++ x2) 0 (by rw [List.length_append]; omega)
  obtain ⟨c1, d1, f1⟩ := strF_byte (x1 ++ x2) 1 (by rw [List.length_append]; omega)
  obtain ⟨c2, d2, f2⟩ := strF_byte (x1 ++ x2) 2 (by rw [List.length_append]; omega)
  obtain ⟨c3, d3, f3⟩ := strF_byte (x1 ++ x2) 3 (by rw [List.length_append]; omega)
  have g0 : c0.toNat = s.size % 256 := by
    rw [f0, Nat.mul_zero, List.drop_zero, List.take_append_of_le_length (by omega), ← val_mod x1 8 (by omega), v1]
  have g1 : c1.toNat = s.size / 256 := by
    rw [f1, Nat.mul_one, List.drop_append_of_le_length (by omega), List.take_append_of_le_length (by rw [List.length_drop]; omega), List.take_of_length_le (by rw [List.length_drop]; omega), ← val_div x1 8 (by omega), v1]
  have g2 : c2.toNat = (65535 - s.size) % 256 := by
    rw [f2, show 8 * 2 = x1.length by omega, List.drop_left, ← val_mod x2 8 (by omega), v2]
  have g3 : c3.toNat = (65535 - s.size) / 256 := by
    rw [f3, show 8 * 3 = x1.length + 8 by omega, ← List.drop_drop, List.drop_left, List.take_of_length_le (by rw [List.length_drop]; omega), ← val_div x2 8 (by omega), v2]
  have t1 := two_bytes hs g0 g1
  have t2 := two_bytes (show 65535 - s.size ≤ 65535 by omega) g2 g3
  have w3 : IntKind.wrap .i64 ((s.size : Int) + ((65535 - s.size : Nat) : Int)) = 65535 := by rw [wrap_i64 (by omega) (by omega)]; omega
  have hxx := xor_pieces hs
  simp only [F29, F72, iteP_eq]
  rw [r1, Option.bind_some]
  simp only
  rw [r2, Option.bind_some, hlast]
  simp only
  rw [if_neg (by simp), if_pos (by rfl), show a.length + 1 + 2 = a.length + 3 by omega, r3, Option.bind_some]
  simp only
  rw [if_neg (by simp), d0, Option.bind_some, d1, Option.bind_some, d2, Option.bind_some, d3, Option.bind_some, t1, t2, w3, if_neg (by simp), hxx, if_neg (by simp), ifF (by omega)]
  rw [show a.length + 3 + P + 8 * 4 = a.length + 3 + P + 32 by omega, r4, Option.bind_some, Option.bind_some]
  simp only
  rw [if_neg (by simp), hTl, show a.length + 3 + P + 32 + 0 + 8 * s.size = a.length + (35 + P + 8 * s.size) by omega]
def stN (s : ByteArray) : Nat := 8 * s.size + 40 * (1 + s.size / 65535)
noncomputable def blkB (l : List Tok) (s : ByteArray) (last : Bool) : List Bool :=
  if (codedB l true last).length < (codedB l false last).length then (if (codedB l true last).length < stN s then codedB l true last else storedT [] s last)
  else (if (codedB l false last).length < stN s then codedB l false last else storedT [] s last)
theorem blkB_cases (l : List Tok) (s : ByteArray) (last : Bool) : (∃ own, blkB l s last = codedB l own last ∧ (codedB l own last).length < stN s) ∨ blkB l s last = storedT [] s last := by
  unfold blkB
  split
  · split
    · exact .inl ⟨true, rfl, by assumption⟩
    · exact .inr rfl
  · split
    · exact .inl ⟨false, rfl, by assumption⟩
    · exact .inr rfl
theorem blkB_len (l : List Tok) (s : ByteArray) (hs : s.size < 65535) (last : Bool) : (blkB l s last).length ≤ 8 * s.size + 40 := by
  have hst : (storedT [] s last).length = 40 + 8 * s.size := by
    rw [storedT_len]
    have : padN ([] ++ [last, false, false]) = 5 := rfl
    omega
  have hs0 : stN s = 8 * s.size + 40 := by unfold stN; omega
  rcases blkB_cases l s last with ⟨own, e, h⟩ | e
  · rw [e]; omega
  · rw [e]; omega
theorem F111_put {l : List Tok} (hl : l.length ≤ 10000) (hv : validAll l = true) (s : ByteArray) (hs : s.size < 65535) (last : Bool) :
    F111 200000 (l, s, last, 0, 0, []) = some (lastF (blkB l s last), nF (blkB l s last), bF (blkB l s last)) := by
  have c1 := F26_coded hl hv false last [] (by decide)
  have c2 := F26_coded hl hv true last [] (by decide)
  rw [List.nil_append, show lastF [] = 0 from rfl, show nF [] = 0 from rfl, show bF [] = [] from rfl] at c1 c2
  have n1 := codedB_len hl hv false last
  have n2 := codedB_len hl hv true last
  have hst := F15_one s (by omega) last [] (by decide)
  rw [storedS_eq, List.nil_append, show lastF [] = 0 from rfl, show nF [] = 0 from rfl, show bF [] = [] from rfl] at hst
  have w1 : IntKind.wrap .i64 ((8 : Int) * (s.size : Int)) = ((8 * s.size : Nat) : Int) := by rw [wrap_i64 (by omega) (by omega)]; omega
  have w2 : IntKind.wrap .i64 (Int.tdiv (s.size : Int) 65535) = ((s.size / 65535 : Nat) : Int) := by rw [Int.tdiv_eq_ediv_of_nonneg (by omega), wrap_i64 (by omega) (by omega)]; omega
  have w3 : IntKind.wrap .i64 ((1 : Int) + ((s.size / 65535 : Nat) : Int)) = ((1 + s.size / 65535 : Nat) : Int) := by rw [wrap_i64 (by omega) (by omega)]; omega
  have w4 : IntKind.wrap .i64 ((40 : Int) * ((1 + s.size / 65535 : Nat) : Int)) = ((40 * (1 + s.size / 65535) : Nat) : Int) := by rw [wrap_i64 (by omega) (by omega)]; omega
  have w5 : IntKind.wrap .i64 (((8 * s.size : Nat) : Int) + ((40 * (1 + s.size / 65535) : Nat) : Int)) = ((stN s : Nat) : Int) := by rw [wrap_i64 (by omega) (by omega)]; unfold stN; omega
  simp only [F111, iteP_eq]
  rw [c1, Option.bind_some]
  simp only
  rw [F18_len _ _ (by omega), Option.bind_some, c2, Option.bind_some]
  simp only
  rw [F18_len _ _ (by omega), Option.bind_some, w1, w2, w3, w4, w5]
  unfold blkB
  by_cases h1 : (codedB l true last).length < (codedB l false last).length
  · rw [ifT (by omega), if_pos h1]
    by_cases h2 : (codedB l true last).length < stN s
    · rw [ifT (by omega), if_pos h2]; rfl
    · rw [ifF (by omega), if_neg h2, hst]; rfl
  · rw [ifF (by omega), if_neg h1]
    by_cases h2 : (codedB l false last).length < stN s
    · rw [ifT (by omega), if_pos h2]; rfl
    · rw [ifF (by omega), if_neg h2, hst]; rfl
theorem F75_sum (P : List Tok) (hP : P.length ≤ 10000) (hv : validAll P = true) (x3 : Bool) (x4 : ByteArray) (x5 x7 x8 : Int) (x10 : List Int) : ∀ (d i f : Nat), i + d = P.length → d < f →
    F75_7322 200000 f (((made (P.take i) : Nat) : Int), (i : Int), (P.length : Int), x3, x4, x5, P.length, x7, x8, P, x10) = some (x5, x4, ((made P : Nat) : Int), x3, x7, x8, P, x10) := by
  intro d
  induction d with
  | zero =>
    intro i f hi hf
    cases f with
    | zero => omega
    | succ f =>
      simp only [F75_7322, B75_7322, iteP_eq]
      rw [ifF (by omega), List.take_of_length_le (by omega)]
  | succ d ih =>
    intro i f hi hf
    cases f with
    | zero => omega
    | succ f =>
      have hil : i < P.length := by omega
      have hva := valid_at hv hil
      have hw : IntKind.wrap .i64 ((i : Int) + 1) = ((i + 1 : Nat) : Int) := by rw [wrap_i64 (by omega) (by omega)]; omega
      have hm : (if (1 : Int) > P[i].2.1 then (1 : Int) else P[i].2.1) = ((madeT P[i] : Nat) : Int) := by
        unfold madeT
        rcases validT_spec hva with ⟨e, _⟩ | ⟨e, a, _⟩
        · rw [if_pos e, if_pos (by omega)]; rfl
        · rw [if_neg e, if_neg (by omega)]; omega
      have hvt : validAll (P.take i) = true := by
        unfold validAll at hv ⊢
        rw [List.all_eq_true] at hv ⊢
        exact fun t ht => hv t (List.mem_of_mem_take ht)
      have hle := made_le hvt
      have htl : (P.take i).length = i := by rw [List.length_take]; omega
      have hmt := madeT_le hva
      have hs : made (P.take (i + 1)) = made (P.take i) + madeT P[i] := by
        rw [List.take_add_one, List.getElem?_eq_getElem hil, made_append]
        congr 1
      have hw2 : IntKind.wrap .i64 (((made (P.take i) : Nat) : Int) + ((madeT P[i] : Nat) : Int)) = ((made (P.take (i + 1)) : Nat) : Int) := by rw [hs, wrap_i64 (by omega) (by omega)]; omega
      simp only [F75_7322, B75_7322, iteP_eq]
      rw [ifT (by omega), if_pos (within_nat hil), Int.toNat_natCast, Nat.zero_add, List.getElem?_eq_getElem hil, Option.bind_some, hm, hw, hw2, ih (i + 1) f (by omega) (by omega)]
      rfl
theorem F75_blocks {w s : ByteArray} {P : List Tok} (hP : PackOk w s P) (hs : s.size ≤ 8000) (last : Bool) :
    F75 200000 (w, s, last, 0, 0, []) = some (lastF (blkB P s last), nF (blkB P s last), bF (blkB P s last)) := by
  obtain ⟨p1, p2, p3, p4, p5⟩ := hP
  have hput := F111_put (show P.length ≤ 10000 by omega) p2 s (by omega) last
  have hsum := F75_sum P (by omega) p2 last s (P.length : Int) 0 0 [] P.length 0 200000 (by omega) (by omega)
  rw [List.take_zero, show ((made [] : Nat) : Int) = 0 from rfl, show ((0 : Nat) : Int) = 0 from rfl] at hsum
  have hn : (if (8192 : Int) < (P.length : Int) then (8192 : Int) else (P.length : Int)) = (P.length : Int) := if_neg (by omega)
  have hex : ByteArray.extract s 0 (Int.toNat ((made P : Nat) : Int)) = s := by rw [Int.toNat_natCast, p3, extract_all]
  have htk : List.take (Int.toNat (P.length : Int) - 0) (List.drop 0 P) = P := by rw [Int.toNat_natCast, Nat.sub_zero, List.drop_zero, List.take_length]
  have hbe : ((P.length : Int) == (P.length : Int)) = true := beq_self_eq_true _
  have h14 : F75_14 200000 200000 (true, last, s, 0, 0, P, []) = some (lastF (blkB P s last), nF (blkB P s last), bF (blkB P s last)) := by
    show B75_14 200000 (F75_14n 200000 (199999 + 1)) (true, last, s, 0, 0, P, []) = _
    simp only [B75_14, iteP_eq, hn, Int.toNat_natCast, Nat.sub_zero]
    rw [if_pos trivial, ifT (by omega), hsum, Option.bind_some]
    simp only
    rw [ifT (by omega), ifT (by omega)]
    rw [Int.toNat_natCast, List.drop_zero, List.take_length, p3, Int.toNat_natCast, extract_all, hbe]
    have hend : ∀ (q : ByteArray) (x y : Int) (z : List Int), F75_14n 200000 (199999 + 1) (false, last, q, P.length, P.length - P.length, x, y, P, z) = some (x, y, z) := by
      intro q x y z
      show B75_14n 200000 (F75_14n 200000 199999) _ = _
      generalize F75_14n 200000 199999 = G
      simp only [B75_14n, iteP_eq]
      rw [if_neg (by simp), if_neg (by simp)]
    cases last with
    | true =>
      rw [if_pos rfl, hput, Option.bind_some, ifT (by omega), ifT (by omega), hend]
      rfl
    | false =>
      rw [if_neg (by simp), hput, Option.bind_some, ifT (by omega), ifT (by omega), hend]
      rfl
  simp only [F75]
  rw [p1, Option.bind_some, h14, Option.bind_some]
theorem app_nil (w : ByteArray) : w ++ ByteArray.mk #[] = w := by
  apply ByteArray.ext
  simp
theorem nil_app (w : ByteArray) : ByteArray.mk #[] ++ w = w := by
  apply ByteArray.ext
  simp
theorem expD_of {w s : ByteArray} {P : List Tok} (hP : PackOk w s P) : expD w P = (s, 0) := by
  unfold expD
  rw [hP.exp]
  simp only
  rw [← bytesOf_len (tailB w), List.drop_left, stringOf_bytes]
theorem padN_app {a : List Bool} (ha : a.length % 8 = 0) (x : List Bool) : padN (a ++ x) = padN x := by
  unfold padN
  rw [List.length_append]
  omega
theorem storedT_app {a : List Bool} (ha : a.length % 8 = 0) (s : ByteArray) (b : Bool) : storedT a s b = storedT [] s b := by
  unfold storedT
  rw [padN_app ha, List.nil_append]
theorem F29_blk {w s : ByteArray} {P : List Tok} (hP : PackOk w s P) (hw : w.size ≤ 1000000) (hs : s.size ≤ 8000) (last : Bool) (most : Int) (hm : (s.size : Int) ≤ most) (hm0 : most ≤ 2000000000) (a r : List Bool) (ha : a.length % 8 = 0) (hL : (a ++ (blkB P s last ++ r)).length ≤ 1000000000) :
    ∃ kind, F29 200000 (w, most, (a.length : Int), 0, a ++ (blkB P s last ++ r)) = some (s, last, kind, 0, ((a.length + (blkB P s last).length : Nat) : Int), 0, a ++ (blkB P s last ++ r)) := by
  rcases blkB_cases P s last with ⟨own, e, _⟩ | e
  · rw [e] at hL ⊢
    have h := F29_coded (show P.length ≤ 10000 by have := hP.len; omega) hP.valid own last w hw most (by rw [hP.made]; exact hm) hm0 a r hL
    rw [expD_of hP, if_pos rfl] at h
    exact ⟨_, h⟩
  · rw [e] at hL ⊢
    rw [← storedT_app ha] at hL ⊢
    exact ⟨_, F29_stored w s (by omega) last most hm a r hL⟩
theorem F30_whole {w s : ByteArray} {P : List Tok} (hP : PackOk w s P) (hs : s.size ≤ 8000) : F30 200000 (w, s) = some (strF (blkB P s true)) := by
  have hb := blkB_len P s (by omega) true
  simp only [F30]
  rw [F75_blocks hP hs, Option.bind_some]
  simp only
  rw [F19_string _ _ (by omega), Option.bind_some]
noncomputable def segB (s : ByteArray) (P : List Tok) : List Bool :=
  if s.size = 0 then storedT [] (ByteArray.mk #[]) false else blkB P s false ++ storedT (blkB P s false) (ByteArray.mk #[]) false
theorem segB_len (s : ByteArray) (P : List Tok) (hs : s.size < 65535) : (segB s P).length ≤ 8 * s.size + 82 ∧ (segB s P).length % 8 = 0 := by
  have hb := blkB_len P s hs false
  have e0 : (ByteArray.mk #[]).size = 0 := rfl
  unfold segB
  split
  · have h1 := (stored_len [] (ByteArray.mk #[]) false).2
    have h2 := storedT_len [] (ByteArray.mk #[]) false
    have h3 := padN_lt ([] ++ [false, false, false])
    rw [storedS_eq, List.nil_append] at h1
    omega
  · have h1 := (stored_len (blkB P s false) (ByteArray.mk #[]) false).2
    have h2 := storedT_len (blkB P s false) (ByteArray.mk #[]) false
    have h3 := padN_lt (blkB P s false ++ [false, false, false])
    rw [storedS_eq] at h1
    rw [List.length_append] at h1 ⊢
    omega
theorem F31_segment {w s : ByteArray} {P : List Tok} (hP : PackOk w s P) (hs : s.size ≤ 8000) : F31 200000 (w, s) = some (strF (segB s P)) := by
  have hb := blkB_len P s (by omega) false
  have hl := segB_len s P (by omega)
  simp only [F31, iteP_eq]
  rw [toList_nil]
  by_cases h0 : s.size = 0
  · have hst := F15_one (ByteArray.mk #[]) (by decide) false [] (by decide)
    rw [storedS_eq, List.nil_append, show lastF [] = 0 from rfl, show nF [] = 0 from rfl, show bF [] = [] from rfl] at hst
    have e : segB s P = storedT [] (ByteArray.mk #[]) false := by unfold segB; rw [if_pos h0]
    rw [e] at hl ⊢
    rw [if_neg (by simp [h0]), hst, Option.bind_some]
    simp only
    rw [F19_string _ _ (by omega), Option.bind_some]
  · have hst := F15_one (ByteArray.mk #[]) (by decide) false (blkB P s false) (by omega)
    rw [storedS_eq] at hst
    have e : segB s P = blkB P s false ++ storedT (blkB P s false) (ByteArray.mk #[]) false := by unfold segB; rw [if_neg h0]
    rw [e] at hl ⊢
    rw [if_pos (by simp [h0]), F75_blocks hP hs, Option.bind_some]
    simp only
    rw [hst, Option.bind_some]
    simp only
    rw [F19_string _ _ (by omega), Option.bind_some]
theorem F33_round {w out s : ByteArray} (kind : Int) (most p q : Int) (L : List Bool) (e : Bool) (f : Nat) (hp : p < (L.length : Int)) (hw : w.size ≤ 1000000) (ho : out.size ≤ 1000000) (hs : s.size ≤ 1000000) (hm0 : most ≤ 2000000000) (hm1 : (out.size : Int) ≤ most)
    (h : F29 200000 (w ++ out, most - (out.size : Int), p, 0, L) = some (s, false, kind, 0, q, 0, L)) :
    F33_124 200000 (f + 1) (e, out, w, most, p, 0, L) = F33_124 200000 f (kind == 0 && decide (s.size = 0), out ++ s, w, most, q, 0, L) := by
  have w1 : IntKind.wrap .i64 (most - (out.size : Int)) = most - (out.size : Int) := wrap_i64 (by omega) (by omega)
  simp only [F33_124, B33_124, iteP_eq]
  rw [if_pos (by simpa using hp), ifF (by omega), w1, h, Option.bind_some]
  simp only
  rw [if_neg (by simp), if_neg (by simp), ifF (by omega)]
  by_cases hk : kind = 0
  · subst hk
    rw [if_pos (by rfl), toList_nil]
    show _ = F33_124 200000 f (decide (s.size = 0), out ++ s, w, most, q, 0, L)
    cases F33_124 200000 f (decide (s.size = 0), out ++ s, w, most, q, 0, L) with
    | none => rfl
    | some r => cases r <;> rfl
  · have : (kind == 0) = false := by simpa using hk
    rw [this, if_neg (by decide)]
    show _ = F33_124 200000 f (false, out ++ s, w, most, q, 0, L)
    cases F33_124 200000 f (false, out ++ s, w, most, q, 0, L) with
    | none => rfl
    | some r => cases r <;> rfl
theorem F33_seg {w out s : ByteArray} {P : List Tok} (hP : PackOk (w ++ out) s P) (hw : w.size ≤ 500000) (ho : out.size ≤ 100000) (hs : s.size ≤ 8000) (most : Int) (hm : ((out.size + s.size : Nat) : Int) ≤ most) (hm0 : most ≤ 2000000000) (a r : List Bool) (ha : a.length % 8 = 0) (hL : (a ++ (segB s P ++ r)).length ≤ 1000000000) :
    ∃ k, k ≤ 2 ∧ ∀ f e, F33_124 200000 (f + k) (e, out, w, most, (a.length : Int), 0, a ++ (segB s P ++ r)) = F33_124 200000 f (true, out ++ s, w, most, ((a.length + (segB s P).length : Nat) : Int), 0, a ++ (segB s P ++ r)) := by
  have hwo : (w ++ out).size ≤ 1000000 := by rw [ByteArray.size_append]; omega
  have e0 : (ByteArray.mk #[]).size = 0 := rfl
  by_cases h0 : s.size = 0
  · have hse : s = ByteArray.mk #[] := by
      apply ByteArray.ext
      apply Array.eq_empty_of_size_eq_zero
      exact h0
    have e : segB s P = storedT a (ByteArray.mk #[]) false := by unfold segB; rw [if_pos h0, storedT_app ha]
    rw [e] at hL ⊢
    have hlen := storedT_len a (ByteArray.mk #[]) false
    have h := F29_stored (w ++ out) (ByteArray.mk #[]) (by decide) false (most - (out.size : Int)) (by rw [e0]; omega) a r hL
    refine ⟨1, by decide, fun f e => ?_⟩
    rw [F33_round (w := w) (out := out) 0 most _ _ _ e f (by simp only [List.length_append]; omega) (by omega) (by omega) (by rw [e0]; decide) hm0 (by omega) h, hse]
    rfl
  · have e : segB s P = blkB P s false ++ storedT (blkB P s false) (ByteArray.mk #[]) false := by unfold segB; rw [if_neg h0]
    have est : storedT (blkB P s false) (ByteArray.mk #[]) false = storedT (a ++ blkB P s false) (ByteArray.mk #[]) false := by
      unfold storedT
      rw [List.append_assoc, padN_app ha]
    rw [e, est] at hL ⊢
    generalize hT : storedT (a ++ blkB P s false) (ByteArray.mk #[]) false = T at *
    have b1 : a ++ (blkB P s false ++ T ++ r) = a ++ (blkB P s false ++ (T ++ r)) := by simp only [List.append_assoc]
    have b2 : a ++ (blkB P s false ++ T ++ r) = (a ++ blkB P s false) ++ (T ++ r) := by simp only [List.append_assoc]
    have hTl : 0 < T.length := by rw [← hT, storedT_len]; omega
    obtain ⟨kind, g1⟩ := F29_blk hP hwo hs false (most - (out.size : Int)) (by omega) (by omega) a (T ++ r) ha (by rw [← b1]; exact hL)
    rw [← b1] at g1
    have g2 := F29_stored (w ++ (out ++ s)) (ByteArray.mk #[]) (by decide) false (most - ((out ++ s).size : Int)) (by rw [e0, ByteArray.size_append]; omega) (a ++ blkB P s false) r (by rw [hT, ← b2]; exact hL)
    rw [hT, ← b2, List.length_append] at g2
    refine ⟨2, by decide, fun f e => ?_⟩
    rw [show f + 2 = f + 1 + 1 by omega, F33_round (w := w) (out := out) kind most _ _ _ e (f + 1) (by simp only [List.length_append]; omega) (by omega) (by omega) (by omega) hm0 (by omega) g1]
    rw [F33_round (w := w) (out := out ++ s) 0 most _ _ _ _ f (by simp only [List.length_append]; omega) (by omega) (by rw [ByteArray.size_append]; omega) (by rw [e0]; decide) hm0 (by rw [ByteArray.size_append]; omega) g2, app_nil, List.length_append, Nat.add_assoc]
    rfl
theorem F33_end (f : Nat) (out w : ByteArray) (most : Int) (L : List Bool) : F33_124 200000 (f + 1) (true, out, w, most, (L.length : Int), 0, L) = some (.inr (true, out)) := by
  simp only [F33_124, B33_124, iteP_eq]
  rw [if_neg (by simp)]
theorem F33_one {w s : ByteArray} {P : List Tok} (hP : PackOk w s P) (hw : w.size ≤ 500000) (hs : s.size ≤ 8000) (most : Int) (hm : (s.size : Int) ≤ most) (hm0 : most ≤ 2000000000) : F33 200000 (w, strF (segB s P), most) = some (s, 0) := by
  obtain ⟨l1, l2⟩ := segB_len s P (by omega)
  have hsz := strF_size (segB s P)
  have hal : allB (strF (segB s P)) = [] ++ (segB s P ++ []) := by rw [allB_strF, alignL_id l2, List.append_nil]; rfl
  have hL : ([] ++ (segB s P ++ [])).length ≤ 1000000000 := by simp only [List.nil_append, List.append_nil]; omega
  have hP' : PackOk (w ++ ByteArray.mk #[]) s P := by rw [app_nil]; exact hP
  obtain ⟨k, k1, k2⟩ := F33_seg hP' hw (by decide) hs most (by rw [show (ByteArray.mk #[]).size = 0 from rfl]; omega) hm0 [] [] rfl hL
  have h := k2 (199999 - k + 1) false
  rw [show 199999 - k + 1 + k = 200000 by omega, ← hal, List.length_nil, Nat.zero_add, show ((0 : Nat) : Int) = 0 from rfl, nil_app, show (segB s P).length = (allB (strF (segB s P))).length by rw [hal]; simp, F33_end] at h
  simp only [F33, iteP_eq]
  rw [F22_all _ (by omega) (by decide), Option.bind_some, h, Option.bind_some]
  simp
theorem allB_app (a b : ByteArray) : allB (a ++ b) = allB a ++ allB b := by
  unfold allB
  rw [← bitsOf_append]
  congr 1
structure Same (T : ByteArray) (n : Nat) (b : UInt8) : Prop where
  data : T.data.toList = List.replicate n b
theorem Same.size {T : ByteArray} {n : Nat} {b : UInt8} (h : Same T n b) : T.size = n := by
  have : T.data.toList.length = T.size := by simp
  rw [h.data, List.length_replicate] at this
  exact this.symm
theorem Same.bb {T : ByteArray} {n : Nat} {b : UInt8} (h : Same T n b) {i : Nat} (hi : i < n) : bb T i = (b.toNat : Int) := by
  unfold Am.bb
  rw [h.data, List.getD, List.getElem?_replicate, if_pos hi]
  rfl
theorem Same.key {T : ByteArray} {n : Nat} {b : UInt8} (h : Same T n b) {i : Nat} (hi : i + 3 ≤ n) : keyAt T i = ⟨⟨[b, b, b]⟩⟩ := by
  unfold keyAt
  apply ByteArray.ext
  apply Array.ext'
  have e : (T.extract i (i + 3)).data.toList = (T.data.toList.drop i).take 3 := by
    rw [ByteArray.data_extract, Array.toList_extract, List.extract_eq_take_drop, show i + 3 - i = 3 by omega]
  rw [e, h.data, List.drop_replicate, List.take_replicate, show min 3 (n - i) = 3 by omega]
  rfl
def adl : List UInt8 → Nat → Nat → Nat × Nat
  | [], a, b => (a, b)
  | x :: l, a, b => adl l (a + x.toNat) (b + (a + x.toNat))
theorem adl_mod : ∀ (l : List UInt8) (a a' b b' : Nat), a % 65521 = a' % 65521 → b % 65521 = b' % 65521 → (adl l a b).1 % 65521 = (adl l a' b').1 % 65521 ∧ (adl l a b).2 % 65521 = (adl l a' b').2 % 65521
  | [], a, a', b, b', h1, h2 => ⟨h1, h2⟩
  | x :: l, a, a', b, b', h1, h2 => adl_mod l _ _ _ _ (by omega) (by omega)
theorem adl_append : ∀ (l m : List UInt8) (a b : Nat), adl (l ++ m) a b = adl m (adl l a b).1 (adl l a b).2
  | [], m, a, b => rfl
  | x :: l, m, a, b => adl_append l m _ _
theorem adl_le : ∀ (l : List UInt8) (a b : Nat), (adl l a b).1 ≤ a + 255 * l.length ∧ (adl l a b).2 ≤ b + l.length * (a + 255 * l.length)
  | [], a, b => ⟨by simp [adl], by simp [adl]⟩
  | x :: l, a, b => by
    have hx := x.toNat_lt
    obtain ⟨h1, h2⟩ := adl_le l (a + x.toNat) (b + (a + x.toNat))
    have e : adl (x :: l) a b = adl l (a + x.toNat) (b + (a + x.toNat)) := rfl
    rw [e, List.length_cons]
    refine ⟨by omega, ?_⟩
    have h3 : l.length * (a + x.toNat + 255 * l.length) ≤ l.length * (a + 255 * (l.length + 1)) := Nat.mul_le_mul_left _ (by omega)
    have h4 : (l.length + 1) * (a + 255 * (l.length + 1)) = l.length * (a + 255 * (l.length + 1)) + (a + 255 * (l.length + 1)) := Nat.succ_mul _ _
    omega
def adN (s : ByteArray) : Nat := ((adl s.data.toList 1 0).2 % 65521) * 65536 + (adl s.data.toList 1 0).1 % 65521
theorem adN_lt (s : ByteArray) : adN s < 4294967296 := by unfold adN; omega
theorem tmodN (n : Nat) : Int.tmod (n : Int) 65521 = ((n % 65521 : Nat) : Int) := by rw [Int.tmod_eq_emod_of_nonneg (by omega)]; omega
theorem F84_loop (s : ByteArray) (hs : s.size ≤ 100000) : ∀ (d i f : Nat) (a b : Nat), i + d = s.size → d < f → a % 65521 = (adl (s.data.toList.take i) 1 0).1 % 65521 → b % 65521 = (adl (s.data.toList.take i) 1 0).2 % 65521 → a < 65521 → b < 65521 →
    F84_122 200000 f ((a : Int), (b : Int), (i : Int), s) = some ((((adl s.data.toList 1 0).2 % 65521 : Nat) : Int), (((adl s.data.toList 1 0).1 % 65521 : Nat) : Int)) := by
  have hsl : s.data.toList.length = s.size := by simp
  intro d
  induction d with
  | zero =>
    intro i f a b hi hf ha hb ha2 hb2
    cases f with
    | zero => omega
    | succ f =>
      simp only [F84_122, B84_122, iteP_eq]
      rw [ifF (by omega)]
      rw [List.take_of_length_le (by omega)] at ha hb
      rw [← ha, ← hb, Nat.mod_eq_of_lt ha2, Nat.mod_eq_of_lt hb2]
  | succ d ih =>
    intro i f a b hi hf ha hb ha2 hb2
    cases f with
    | zero => omega
    | succ f =>
      have hx := (s.data.toList.getD i 0).toNat_lt
      have hil : i < s.data.toList.length := by omega
      have et : s.data.toList.take (i + 1) = s.data.toList.take i ++ [s.data.toList.getD i 0] := by
        rw [List.take_add_one, List.getElem?_eq_getElem hil, List.getD, List.getElem?_eq_getElem hil]
        rfl
      have ead : adl (s.data.toList.take (i + 1)) 1 0 = ((adl (s.data.toList.take i) 1 0).1 + (s.data.toList.getD i 0).toNat, (adl (s.data.toList.take i) 1 0).2 + ((adl (s.data.toList.take i) 1 0).1 + (s.data.toList.getD i 0).toNat)) := by
        rw [et, adl_append]; rfl
      have hI := ih (i + 1) f ((a + (s.data.toList.getD i 0).toNat) % 65521) ((b + (a + (s.data.toList.getD i 0).toNat) % 65521) % 65521) (by omega) (by omega) (by rw [ead]; simp only; omega) (by rw [ead]; simp only; omega) (by omega) (by omega)
      have hb0 : s[i]? = some (s.data.toList.getD i 0) := byteI (by omega)
      generalize hv : s.data.toList.getD i 0 = v at *
      have hw : IntKind.wrap .i64 ((i : Int) + 1) = ((i + 1 : Nat) : Int) := by rw [wrap_i64 (by omega) (by omega)]; omega
      have w0 : IntKind.wrap .i64 ((v.toNat : Nat) : Int) = (v.toNat : Int) := wrap_i64 (by omega) (by omega)
      have w1 : IntKind.wrap .i64 ((a : Int) + (v.toNat : Int)) = ((a + v.toNat : Nat) : Int) := by rw [wrap_i64 (by omega) (by omega)]; omega
      have w2 : IntKind.wrap .i64 ((b : Int) + (((a + v.toNat) % 65521 : Nat) : Int)) = ((b + (a + v.toNat) % 65521 : Nat) : Int) := by rw [wrap_i64 (by omega) (by omega)]; omega
      simp only [F84_122, B84_122, iteP_eq]
      rw [ifT (by omega), ifT (by omega), Int.toNat_natCast, hb0, Option.bind_some, w0, w1, tmodN, w2, tmodN, hw, hI]
      rfl
theorem parts_one : IntKind.wrap .i64 ((BitVec.toNat (BitVec.ofInt 64 (1 : Int) &&& BitVec.ofInt 64 (65535 : Int)) : Nat) : Int) = 1 ∧ IntKind.wrap .i64 ((BitVec.toNat (BitVec.ofInt 64 (Int.fdiv (1 : Int) 65536) &&& BitVec.ofInt 64 (65535 : Int)) : Nat) : Int) = 0 := by decide +kernel
theorem F84_more (s : ByteArray) (hs : s.size ≤ 100000) : F84 200000 (1, s) = some ((adN s : Nat) : Int) := by
  have h := F84_loop s hs s.size 0 200000 1 0 (by omega) (by omega) rfl rfl (by decide) (by decide)
  rw [show ((0 : Nat) : Int) = 0 from rfl, show ((1 : Nat) : Int) = 1 from rfl] at h
  simp only [F84, F118, F119]
  rw [Option.bind_some, Option.bind_some, parts_one.1, parts_one.2, h, Option.bind_some]
  simp only
  congr 1
  unfold adN
  rw [wrap_i64 (z := ((((adl s.data.toList 1 0).2 % 65521 : Nat) : Int) * 65536)) (by omega) (by omega), wrap_i64 (by omega) (by omega)]
  omega
theorem F117_inner (s : ByteArray) (hs : s.size ≤ 100000) (n : Nat) (hn : n ≤ s.size) (hn2 : n ≤ 4096) (a0 b0 : Nat) (ha0 : a0 < 65521) (hb0 : b0 < 65521) (x4 : Int) : ∀ (d i f : Nat), i + d = n → d < f →
    F117_3626 200000 f ((((adl (s.data.toList.take i) a0 b0).1 : Nat) : Int), (((adl (s.data.toList.take i) a0 b0).2 : Nat) : Int), (i : Int), (n : Int), x4, s) = some ((((adl (s.data.toList.take n) a0 b0).1 : Nat) : Int), (((adl (s.data.toList.take n) a0 b0).2 : Nat) : Int), s, x4) := by
  have hsl : s.data.toList.length = s.size := by simp
  intro d
  induction d with
  | zero =>
    intro i f hi hf
    cases f with
    | zero => omega
    | succ f =>
      simp only [F117_3626, B117_3626, iteP_eq]
      rw [ifF (by omega), show i = n by omega]
  | succ d ih =>
    intro i f hi hf
    cases f with
    | zero => omega
    | succ f =>
      have hil : i < s.data.toList.length := by omega
      have hx := (s.data.toList.getD i 0).toNat_lt
      have et : s.data.toList.take (i + 1) = s.data.toList.take i ++ [s.data.toList.getD i 0] := by
        rw [List.take_add_one, List.getElem?_eq_getElem hil, List.getD, List.getElem?_eq_getElem hil]
        rfl
      have ead : adl (s.data.toList.take (i + 1)) a0 b0 = ((adl (s.data.toList.take i) a0 b0).1 + (s.data.toList.getD i 0).toNat, (adl (s.data.toList.take i) a0 b0).2 + ((adl (s.data.toList.take i) a0 b0).1 + (s.data.toList.getD i 0).toNat)) := by
        rw [et, adl_append]; rfl
      have hle := adl_le (s.data.toList.take i) a0 b0
      have htl : (s.data.toList.take i).length = i := by rw [List.length_take]; omega
      rw [htl] at hle
      have hmul : i * (a0 + 255 * i) ≤ 4096 * (65521 + 255 * 4096) := Nat.mul_le_mul (by omega) (by omega)
      have hI := ih (i + 1) f (by omega) (by omega)
      rw [ead] at hI
      have hb1 : s[i]? = some (s.data.toList.getD i 0) := byteI (by omega)
      have hw : IntKind.wrap .i64 ((i : Int) + 1) = ((i + 1 : Nat) : Int) := by rw [wrap_i64 (by omega) (by omega)]; omega
      generalize s.data.toList.getD i 0 = v at *
      generalize (adl (s.data.toList.take i) a0 b0).1 = A at *
      generalize (adl (s.data.toList.take i) a0 b0).2 = B at *
      have w0 : IntKind.wrap .i64 ((v.toNat : Nat) : Int) = (v.toNat : Int) := wrap_i64 (by omega) (by omega)
      have w1 : IntKind.wrap .i64 ((A : Int) + (v.toNat : Int)) = ((A + v.toNat : Nat) : Int) := by rw [wrap_i64 (by omega) (by omega)]; omega
      have w2 : IntKind.wrap .i64 ((B : Int) + ((A + v.toNat : Nat) : Int)) = ((B + (A + v.toNat) : Nat) : Int) := by rw [wrap_i64 (by omega) (by omega)]; omega
      simp only [F117_3626, B117_3626, iteP_eq]
      rw [ifT (by omega), ifT (by omega), Int.toNat_natCast, hb1, Option.bind_some, w0, w1, w2, hw, hI]
      rfl
theorem extract_data (s : ByteArray) (n : Nat) : (s.extract n s.size).data.toList = s.data.toList.drop n := by
  have hsl : s.data.toList.length = s.size := by simp
  rw [ByteArray.data_extract, Array.toList_extract, List.extract_eq_take_drop, List.take_of_length_le (by rw [List.length_drop]; omega)]
theorem F117_outer : ∀ (d : Nat) (s : ByteArray) (f a b : Nat), s.size ≤ 4096 * d → s.size ≤ 100000 → d < f → a < 65521 → b < 65521 →
    F117_28 200000 f ((a : Int), (b : Int), s) = some ((((adl s.data.toList a b).2 % 65521 : Nat) : Int), (((adl s.data.toList a b).1 % 65521 : Nat) : Int)) := by
  have done : ∀ (s : ByteArray) (f a b : Nat), s.size = 0 → a < 65521 → b < 65521 → F117_28 200000 (f + 1) ((a : Int), (b : Int), s) = some ((((adl s.data.toList a b).2 % 65521 : Nat) : Int), (((adl s.data.toList a b).1 % 65521 : Nat) : Int)) := by
    intro s f a b h0 ha hb
    have hsl : s.data.toList.length = s.size := by simp
    have e : s.data.toList = [] := List.eq_nil_of_length_eq_zero (by omega)
    rw [e]
    simp only [F117_28, B117_28, iteP_eq, adl]
    rw [ifF (by omega), Nat.mod_eq_of_lt ha, Nat.mod_eq_of_lt hb]
  intro d
  induction d with
  | zero =>
    intro s f a b h1 h2 hf ha hb
    cases f with
    | zero => omega
    | succ f => exact done s f a b (by omega) ha hb
  | succ d ih =>
    intro s f a b h1 h2 hf ha hb
    cases f with
    | zero => omega
    | succ f =>
      by_cases h0 : s.size = 0
      · exact done s f a b h0 ha hb
      · obtain ⟨n, hn⟩ : ∃ n, n = min s.size 4096 := ⟨_, rfl⟩
        have hif : (if (4096 : Int) < (s.size : Int) then (4096 : Int) else (s.size : Int)) = (n : Int) := by split <;> omega
        have hin := F117_inner s h2 n (by omega) (by omega) a b ha hb (n : Int) n 0 200000 (by omega) (by omega)
        rw [List.take_zero, show ((0 : Nat) : Int) = 0 from rfl] at hin
        have hsz : (s.extract n s.size).size = s.size - n := by rw [ByteArray.size_extract]; omega
        have hsplit : adl s.data.toList a b = adl (s.data.toList.drop n) (adl (s.data.toList.take n) a b).1 (adl (s.data.toList.take n) a b).2 := by rw [← adl_append, List.take_append_drop]
        have hI := ih (s.extract n s.size) f ((adl (s.data.toList.take n) a b).1 % 65521) ((adl (s.data.toList.take n) a b).2 % 65521) (by omega) (by omega) (by omega) (Nat.mod_lt _ (by decide)) (Nat.mod_lt _ (by decide))
        rw [extract_data] at hI
        have hm := adl_mod (s.data.toList.drop n) ((adl (s.data.toList.take n) a b).1 % 65521) (adl (s.data.toList.take n) a b).1 ((adl (s.data.toList.take n) a b).2 % 65521) (adl (s.data.toList.take n) a b).2 (Nat.mod_mod _ _) (Nat.mod_mod _ _)
        rw [hm.1, hm.2, ← hsplit] at hI
        simp only [F117_28, B117_28, iteP_eq]
        rw [ifT (by omega), hif]
        show Option.bind (F117_3626 200000 200000 ((((adl [] a b).1 : Nat) : Int), (((adl [] a b).2 : Nat) : Int), 0, (n : Int), (n : Int), s)) _ = _
        rw [hin, Option.bind_some]
        simp only
        rw [ifT (by omega), tmodN, tmodN, Int.toNat_natCast, hI]
        rfl
theorem F82_sum (s : ByteArray) (hs : s.size ≤ 100000) : F82 200000 [s] = some ((adN s : Nat) : Int) := by
  have h := F117_outer 30 s 200000 1 0 (by omega) hs (by omega) (by decide) (by decide)
  rw [show ((0 : Nat) : Int) = 0 from rfl, show ((1 : Nat) : Int) = 1 from rfl] at h
  have h117 : F117 200000 (1, s) = some ((adN s : Nat) : Int) := by
    simp only [F117, F145]
    rw [Option.bind_some, parts_one.1, parts_one.2, h, Option.bind_some]
    simp only
    congr 1
    have ho := or_eq (A := (adl s.data.toList 1 0).1 % 65521) (B := (adl s.data.toList 1 0).2 % 65521) (i := 16) (j := 16) (by omega) (by omega) (by decide)
    have e : ((((adl s.data.toList 1 0).2 % 65521 : Nat) : Int) * 2 ^ min (Int.toNat ((16 : Nat) : Int)) 64) = (((adl s.data.toList 1 0).2 % 65521 : Nat) : Int) * 65536 := rfl
    rw [e] at ho
    rw [BitVec.or_comm, ho]
    unfold adN
    omega
  have hend : ∀ z, F82_58 200000 (199998 + 1) (z, 1, 1, [s]) = some z := by
    intro z
    show B82_58 200000 (F82_58 200000 199998) _ = _
    generalize F82_58 200000 199998 = G
    simp only [B82_58, iteP_eq]
    rw [if_neg (by simp)]
  have hwi : within (0 : Int) [s].length = true := within_nat (i := 0) (by simp)
  have hloop : F82_58 200000 200000 (1, 0, 1, [s]) = some ((adN s : Nat) : Int) := by
    show B82_58 200000 (F82_58 200000 (199998 + 1)) _ = _
    simp only [B82_58, iteP_eq]
    rw [if_pos (by decide), if_pos hwi]
    show Option.bind (some s) _ = _
    rw [Option.bind_some, h117, Option.bind_some, show IntKind.wrap .i64 ((0 : Int) + 1) = 1 from rfl, hend]
    rfl
  simp only [F82, List.length_singleton]
  rw [show ((1 : Nat) : Int) = 1 from rfl, hloop, Option.bind_some]
theorem bytes_string (l : List Int) (h : ∀ x ∈ l, 0 ≤ x ∧ x < 256) : bytesOf (stringOf l) = l := by
  rw [bytesOf_eq]
  unfold stringOf
  show ((l.map fun n => UInt8.ofNat n.toNat).map fun (x : UInt8) => ((x.toNat : Nat) : Int)) = l
  rw [List.map_map]
  conv => rhs; rw [← List.map_id l]
  apply List.map_congr_left
  intro x hx
  obtain ⟨h0, h1⟩ := h x hx
  show (((UInt8.ofNat x.toNat).toNat : Nat) : Int) = x
  rw [UInt8.toNat_ofNat']
  omega
theorem F144_four (a b c d : Int) : F144 200000 (0, 4, [a, b, c, d]) = some [d, c, b, a] := by
  have h3 : ∀ (i j : Int) (l : List Int), ¬ i < j → F144_6 200000 (199997 + 1) (i, j, 0, 4, l) = some l := by
    intro i j l h
    show B144_6 200000 (F144_6 200000 199997) _ = _
    generalize F144_6 200000 199997 = G
    simp only [B144_6, iteP_eq]
    rw [if_neg (by simpa using h)]
  have h2 : F144_6 200000 (199998 + 1) (1, 2, 0, 4, [d, b, c, a]) = some [d, c, b, a] := by
    show B144_6 200000 (F144_6 200000 (199997 + 1)) _ = _
    have hn := h3 2 1 [d, c, b, a] (by decide)
    generalize F144_6 200000 (199997 + 1) = G at *
    simp only [B144_6, iteP_eq]
    have w1 : within (1 : Int) 4 = true := rfl
    have w2 : within (2 : Int) 4 = true := rfl
    rw [if_pos (by decide), if_pos w2]
    show Option.bind (some c) _ = _
    rw [Option.bind_some, if_pos w1]
    show Option.bind (some b) _ = _
    rw [Option.bind_some, if_pos w1]
    show Option.bind (some b) _ = _
    rw [Option.bind_some, if_pos w2]
    show Option.bind (some c) _ = _
    rw [Option.bind_some, show IntKind.wrap .i64 ((1 : Int) + 1) = 2 from rfl, show IntKind.wrap .i64 ((2 : Int) - 1) = 1 from rfl]
    show Option.bind (G (2, 1, 0, 4, [d, c, b, a])) _ = _
    rw [hn]
    rfl
  have h1 : F144_6 200000 (199999 + 1) (0, 3, 0, 4, [a, b, c, d]) = some [d, c, b, a] := by
    show B144_6 200000 (F144_6 200000 (199998 + 1)) _ = _
    generalize F144_6 200000 (199998 + 1) = G at *
    simp only [B144_6, iteP_eq]
    have w1 : within (0 : Int) 4 = true := rfl
    have w2 : within (3 : Int) 4 = true := rfl
    rw [if_pos (by decide), if_pos w2]
    show Option.bind (some d) _ = _
    rw [Option.bind_some, if_pos w1]
    show Option.bind (some a) _ = _
    rw [Option.bind_some, if_pos w1]
    show Option.bind (some a) _ = _
    rw [Option.bind_some, if_pos w2]
    show Option.bind (some d) _ = _
    rw [Option.bind_some, show IntKind.wrap .i64 ((0 : Int) + 1) = 1 from rfl, show IntKind.wrap .i64 ((3 : Int) - 1) = 2 from rfl]
    show Option.bind (G (1, 2, 0, 4, [d, b, c, a])) _ = _
    rw [h2]
    rfl
  simp only [F144]
  rw [show IntKind.wrap .i64 (((4 : Nat) : Int) - 1) = 3 from rfl]
  show Option.bind (F144_6 200000 (199999 + 1) _) _ = _
  rw [h1, Option.bind_some]
def by4 (n k : Nat) : Int := ((n / 256 ^ k % 256 : Nat) : Int)
def put4 (n : Nat) : ByteArray := stringOf [by4 n 3, by4 n 2, by4 n 1, by4 n 0]
theorem put4_size (n : Nat) : (put4 n).size = 4 := by unfold put4; rw [stringOf_size]; rfl
theorem by4_range (n k : Nat) : 0 ≤ by4 n k ∧ by4 n k < 256 := by unfold by4; omega
theorem fdiv_nat (n m : Nat) : Int.fdiv (n : Int) (m : Int) = ((n / m : Nat) : Int) := by
  rw [Int.fdiv_eq_ediv_of_nonneg _ (by omega)]; rfl
theorem put_step (n k : Nat) (hk : k ≤ 3) : IntKind.wrap .u8 (Int.fdiv (n : Int) ((2 : Int) ^ min (Int.toNat (IntKind.wrap .i64 ((8 : Int) * (k : Int)))) 64)) = by4 n k := by
  have w : IntKind.wrap .i64 ((8 : Int) * (k : Int)) = ((8 * k : Nat) : Int) := by rw [wrap_i64 (by omega) (by omega)]; omega
  have e : (2 : Int) ^ min (Int.toNat ((8 * k : Nat) : Int)) 64 = ((256 ^ k : Nat) : Int) := by
    rcases (by omega : k = 0 ∨ k = 1 ∨ k = 2 ∨ k = 3) with rfl | rfl | rfl | rfl <;> rfl
  rw [w, e, fdiv_nat, wrap_u8]
  unfold by4
  omega
theorem put_round (f : Nat) (n k : Nat) (hk : k ≤ 3) (l : List Int) (hl : l.length = 4) :
    F116_122 200000 (f + 1) ((k : Int), 4, (n : Int), l) = F116_122 200000 f (((k + 1 : Nat) : Int), 4, (n : Int), l.set k (by4 n k)) := by
  have w : IntKind.wrap .i64 ((8 : Int) * (k : Int)) = ((8 * k : Nat) : Int) := by rw [wrap_i64 (by omega) (by omega)]; omega
  have w2 : IntKind.wrap .i64 ((k : Int) + 1) = ((k + 1 : Nat) : Int) := by rw [wrap_i64 (by omega) (by omega)]; omega
  have hp := put_step n k hk
  show B116_122 200000 (F116_122 200000 f) _ = _
  generalize F116_122 200000 f = G
  simp only [B116_122, iteP_eq]
  rw [ifT (by omega), if_neg (by rw [w]; simp only [decide_eq_true_eq]; omega), if_pos (within_nat (by omega)), Int.toNat_natCast, get_int (by omega), Option.bind_some, hp, w2, Option.bind_fun_some]
theorem F81_put {n : Nat} (hn : n < 4294967296) : F81 200000 (4, (n : Int)) = some (put4 n, 0) := by
  have hloop : F116_122 200000 200000 (0, 4, (n : Int), [0, 0, 0, 0]) = some [by4 n 0, by4 n 1, by4 n 2, by4 n 3] := by
    have h0 := put_round 199999 n 0 (by decide) [0, 0, 0, 0] rfl
    have h1 := put_round 199998 n 1 (by decide) [by4 n 0, 0, 0, 0] rfl
    have h2 := put_round 199997 n 2 (by decide) [by4 n 0, by4 n 1, 0, 0] rfl
    have h3 := put_round 199996 n 3 (by decide) [by4 n 0, by4 n 1, by4 n 2, 0] rfl
    have hend : F116_122 200000 (199995 + 1) (((4 : Nat) : Int), 4, (n : Int), [by4 n 0, by4 n 1, by4 n 2, by4 n 3]) = some [by4 n 0, by4 n 1, by4 n 2, by4 n 3] := by
      show B116_122 200000 (F116_122 200000 199995) _ = _
      generalize F116_122 200000 199995 = G
      simp only [B116_122, iteP_eq]
      rw [if_neg (by simp)]
    exact h0.trans (h1.trans (h2.trans (h3.trans hend)))
  have hr : ∀ x ∈ [by4 n 0, by4 n 1, by4 n 2, by4 n 3], 0 ≤ x ∧ x < 256 := by
    intro x hx
    simp only [List.mem_cons, List.not_mem_nil, or_false] at hx
    rcases hx with rfl | rfl | rfl | rfl <;> exact by4_range _ _
  have hb := bytes_string _ hr
  have w : IntKind.wrap .i64 ((8 : Int) * 4) = 32 := rfl
  have hsh : Int.fdiv (n : Int) ((2 : Int) ^ min (Int.toNat 32) 64) = 0 := by
    show Int.fdiv (n : Int) ((4294967296 : Nat) : Int) = 0
    rw [fdiv_nat, Nat.div_eq_of_lt hn]
    rfl
  have h116 : F116 200000 (4, (n : Int)) = some (stringOf [by4 n 0, by4 n 1, by4 n 2, by4 n 3], 0) := by
    simp only [F116, F141, iteP_eq]
    rw [if_neg (by decide), if_neg (by decide), Option.bind_some, if_neg (by decide), ifF (by omega), w, if_neg (by decide), hsh, if_neg (by decide), if_pos (by decide)]
    show Option.bind (F116_122 200000 200000 (0, 4, (n : Int), [0, 0, 0, 0])) _ = _
    rw [hloop, Option.bind_some]
  have h115 : F115 200000 (stringOf [by4 n 0, by4 n 1, by4 n 2, by4 n 3]) = some (put4 n) := by
    simp only [F115, iteP_eq]
    rw [if_pos (by rw [stringOf_size]; rfl), hb]
    show Option.bind (F144 200000 (0, 4, [by4 n 0, by4 n 1, by4 n 2, by4 n 3])) _ = _
    rw [F144_four, Option.bind_some]
    rfl
  simp only [F81]
  rw [h116, Option.bind_some]
  simp only
  rw [h115, Option.bind_some]
theorem put4_byte (n : Nat) {k : Nat} (hk : k < 4) : ∃ b : UInt8, (put4 n)[k]? = some b ∧ (b.toNat : Int) = by4 n (3 - k) := by
  have h1 := byte_at (put4 n) k (by rw [put4_size]; exact hk)
  refine ⟨_, h1, ?_⟩
  have : (bytesOf (put4 n)).getD k 0 = bb (put4 n) k := bytes_get (by rw [put4_size]; exact hk)
  have hr : ∀ x ∈ [by4 n 3, by4 n 2, by4 n 1, by4 n 0], 0 ≤ x ∧ x < 256 := by
    intro x hx
    simp only [List.mem_cons, List.not_mem_nil, or_false] at hx
    rcases hx with rfl | rfl | rfl | rfl <;> exact by4_range _ _
  have hb : bytesOf (put4 n) = [by4 n 3, by4 n 2, by4 n 1, by4 n 0] := bytes_string _ hr
  rw [hb] at this
  show bb (put4 n) k = _
  rw [← this]
  rcases (by omega : k = 0 ∨ k = 1 ∨ k = 2 ∨ k = 3) with rfl | rfl | rfl | rfl <;> rfl
theorem F83_round (f : Nat) (n : Nat) {k : Nat} (hk : k < 4) (z : Int) (hz0 : 0 ≤ z) (hz : z < 4294967296) :
    F83_58 200000 (f + 1) (z, (k : Int), put4 n) = F83_58 200000 f (z * 256 + by4 n (3 - k), ((k + 1 : Nat) : Int), put4 n) := by
  obtain ⟨b, h1, h2⟩ := put4_byte n hk
  have hr := by4_range n (3 - k)
  have w2 : IntKind.wrap .i64 ((k : Int) + 1) = ((k + 1 : Nat) : Int) := by rw [wrap_i64 (by omega) (by omega)]; omega
  have w3 : IntKind.wrap .i64 (z * 256) = z * 256 := wrap_i64 (by omega) (by omega)
  have w4 : IntKind.wrap .i64 (by4 n (3 - k)) = by4 n (3 - k) := wrap_i64 (by omega) (by omega)
  have w5 : IntKind.wrap .i64 (z * 256 + by4 n (3 - k)) = z * 256 + by4 n (3 - k) := wrap_i64 (by omega) (by omega)
  show B83_58 200000 (F83_58 200000 f) _ = _
  generalize F83_58 200000 f = G
  simp only [B83_58, iteP_eq]
  rw [if_pos (by rw [put4_size]; simp only [decide_eq_true_eq]; omega), ifT (by omega), Int.toNat_natCast, h1, Option.bind_some, h2, w3, w4, w5, w2, Option.bind_fun_some]
theorem F83_int {n : Nat} (hn : n < 4294967296) : F83 200000 (put4 n) = some (n : Int) := by
  have r0 := by4_range n 0
  have r1 := by4_range n 1
  have r2 := by4_range n 2
  have r3 := by4_range n 3
  have h0 := F83_round 199999 n (k := 0) (by decide) 0 (by decide) (by decide)
  have h1 := F83_round 199998 n (k := 1) (by decide) (0 * 256 + by4 n 3) (by omega) (by omega)
  have h2 := F83_round 199997 n (k := 2) (by decide) ((0 * 256 + by4 n 3) * 256 + by4 n 2) (by omega) (by omega)
  have h3 := F83_round 199996 n (k := 3) (by decide) (((0 * 256 + by4 n 3) * 256 + by4 n 2) * 256 + by4 n 1) (by omega) (by omega)
  have hend : ∀ z, F83_58 200000 (199995 + 1) (z, ((4 : Nat) : Int), put4 n) = some z := by
    intro z
    show B83_58 200000 (F83_58 200000 199995) _ = _
    generalize F83_58 200000 199995 = G
    simp only [B83_58, iteP_eq]
    rw [if_neg (by rw [put4_size]; simp)]
  have hv : (((0 * 256 + by4 n 3) * 256 + by4 n 2) * 256 + by4 n 1) * 256 + by4 n 0 = (n : Int) := by
    unfold by4
    have e1 : 256 ^ 3 = 16777216 := rfl
    have e2 : 256 ^ 2 = 65536 := rfl
    have e3 : 256 ^ 1 = 256 := rfl
    have e4 : 256 ^ 0 = 1 := rfl
    rw [e1, e2, e3, e4]
    omega
  simp only [F83]
  rw [show (0 : Int) = ((0 : Nat) : Int) from rfl] at *
  have hall : F83_58 200000 200000 (((0 : Nat) : Int), ((0 : Nat) : Int), put4 n) = some (n : Int) := h0.trans (h1.trans (h2.trans (h3.trans ((hend _).trans (congrArg some hv)))))
  rw [hall, Option.bind_some]
theorem ba_ext {a b : ByteArray} (h : a.data.toList = b.data.toList) : a = b := by
  apply ByteArray.ext
  apply Array.ext'
  exact h
theorem app_data (a b : ByteArray) : (a ++ b).data.toList = a.data.toList ++ b.data.toList := by
  rw [ByteArray.data_append, Array.toList_append]
theorem cut_data (s : ByteArray) (i j : Nat) : (s.extract i j).data.toList = (s.data.toList.drop i).take (j - i) := by
  rw [ByteArray.data_extract, Array.toList_extract, List.extract_eq_take_drop]
def hdr : ByteArray := ByteArray.mk #[120, 156]
theorem hdr_data : hdr.data.toList = [120, 156] := rfl
theorem hdr_size : hdr.size = 2 := rfl
theorem hdr_cut (X : ByteArray) : (hdr ++ X).extract 2 (hdr ++ X).size = X := by
  apply ba_ext
  rw [extract_data, app_data, hdr_data]
  rfl
theorem hdr_ok (X : ByteArray) : F36 200000 (hdr ++ X) = some 0 := by
  have hs : (hdr ++ X).size = 2 + X.size := ByteArray.size_append
  have h0 : (hdr ++ X)[0]? = some 120 := by rw [byte_at _ _ (by omega), app_data, hdr_data]; rfl
  have h1 : (hdr ++ X)[1]? = some 156 := by rw [byte_at _ _ (by omega), app_data, hdr_data]; rfl
  simp only [F36, iteP_eq]
  rw [ifF (by omega), h0, Option.bind_some, h1, Option.bind_some]
  rfl
theorem pre_cut (A B : ByteArray) : (A ++ B).extract A.size (A ++ B).size = B := by
  have hA : A.data.toList.length = A.size := by simp
  apply ba_ext
  rw [extract_data, app_data, ← hA, List.drop_left]
theorem pre_take (A B : ByteArray) : (A ++ B).extract 0 A.size = A := by
  have hA : A.data.toList.length = A.size := by simp
  apply ba_ext
  rw [cut_data, app_data, List.drop_zero, Nat.sub_zero, ← hA, List.take_left]
theorem app_assoc (A B C : ByteArray) : A ++ B ++ C = A ++ (B ++ C) := by
  apply ba_ext
  simp only [app_data, List.append_assoc]
theorem tail_small {w : ByteArray} (h : w.size ≤ 32768) : tailB w = w := by unfold tailB; rw [if_neg (by omega)]
theorem F37_segment {w s : ByteArray} {P : List Tok} (hP : PackOk w s P) (hw : w.size ≤ 20000) (hs : s.size ≤ 8000) (b : Bool) :
    F37 200000 (s, b, w) = some (if b = true then strF (segB s P) else hdr ++ strF (segB s P), true, w ++ s) := by
  have hl := segB_len s P (by omega)
  have hz := strF_size (segB s P)
  have hsz : (w ++ s).size = w.size + s.size := ByteArray.size_append
  have ht := tail_small (w := w ++ s) (by omega)
  simp only [F37, iteP_eq]
  rw [F31_segment hP hs, Option.bind_some]
  cases b with
  | true =>
    rw [if_neg (by decide), ifF (by omega), F88_tail _ _ (by omega), Option.bind_some, ht]
    rfl
  | false =>
    rw [if_pos (show (!false) = true from rfl), ifF (by omega), ifF (by omega), F88_tail _ _ (by omega), Option.bind_some, ht]
    rfl
theorem F38_segment {w s : ByteArray} {P : List Tok} (hP : PackOk w s P) (hw : w.size ≤ 20000) (hs : s.size ≤ 8000) (b : Bool) :
    F38 200000 (if b = true then strF (segB s P) else hdr ++ strF (segB s P), (s.size : Int), w, b, 0) = some (s, 0, w ++ s, true, 0) := by
  have h33 := F33_one hP (by omega) hs (s.size : Int) (Int.le_refl _) (by omega)
  have hsz : (hdr ++ strF (segB s P)).size = 2 + (strF (segB s P)).size := ByteArray.size_append
  simp only [F38, iteP_eq]
  rw [if_neg (by decide)]
  cases b with
  | true =>
    rw [if_neg (by decide)]
    simp only [if_true]
    rw [h33, Option.bind_some]
    simp only
    rw [ifF (by omega)]
  | false =>
    rw [if_pos (show (!false) = true from rfl)]
    simp only [Bool.false_eq_true, if_false]
    rw [hdr_ok, Option.bind_some, if_neg (by decide), if_pos (by rw [hsz]; simp only [decide_eq_true_eq]; omega), hdr_cut, h33, Option.bind_some]
    simp only
    rw [ifF (by omega)]
theorem F10_loop (l : List ByteArray) (hl : l.length ≤ 6) (tl : ByteArray) : ∀ (d i f : Nat) (w : ByteArray) (b : Bool), i + d = l.length → d < f → w.size ≤ 800 * i →
    ∃ r, F10_2042 200000 f (w, (i : Int), tl, l, true, w, b, 0, b, w) = some r ∧ (r = .inl true ∨ ∃ all, all.size ≤ 4800 ∧ r = .inr (tl, true, all)) := by
  intro d
  induction d with
  | zero =>
    intro i f w b hi hf hw
    cases f with
    | zero => omega
    | succ f =>
      refine ⟨.inr (tl, true, w), ?_, .inr ⟨w, by omega, rfl⟩⟩
      simp only [F10_2042, B10_2042, iteP_eq]
      rw [ifF (by omega)]
  | succ d ih =>
    intro i f w b hi hf hw
    cases f with
    | zero => omega
    | succ f =>
      have hil : i < l.length := by omega
      have hli : l[i]? = some l[i] := List.getElem?_eq_getElem hil
      have hwi := within_nat hil
      have hw2 : IntKind.wrap .i64 ((i : Int) + 1) = ((i + 1 : Nat) : Int) := by rw [wrap_i64 (by omega) (by omega)]; omega
      generalize l[i] = s at *
      by_cases hs : s.size > 800
      · refine ⟨.inl true, ?_, .inl rfl⟩
        simp only [F10_2042, B10_2042, iteP_eq]
        rw [ifT (by omega), if_pos hwi, Int.toNat_natCast, hli, Option.bind_some, ifT (by omega)]
      · obtain ⟨P, hP⟩ := F110_pack w s (by omega) (by omega)
        have h37 := F37_segment hP (by omega) (by omega) b
        have h38 := F38_segment hP (by omega) (by omega) b
        have hsg := segB_len s P (by omega)
        have hz := strF_size (segB s P)
        have hsz : (hdr ++ strF (segB s P)).size = 2 + (strF (segB s P)).size := ByteArray.size_append
        have hX : (if b = true then strF (segB s P) else hdr ++ strF (segB s P)).size ≤ s.size + 22 := by
          cases b with
          | true => simp only [if_true]; omega
          | false => simp only [Bool.false_eq_true, if_false]; omega
        generalize (if b = true then strF (segB s P) else hdr ++ strF (segB s P)) = X at *
        have hcat : (w ++ s).size = w.size + s.size := ByteArray.size_append
        obtain ⟨r, r1, r2⟩ := ih (i + 1) f (w ++ s) true (by omega) (by omega) (by omega)
        refine ⟨r, ?_, r2⟩
        have w1 : IntKind.wrap .i64 (Int.tdiv (s.size : Int) 1000) = ((s.size / 1000 : Nat) : Int) := by rw [Int.tdiv_eq_ediv_of_nonneg (by omega), wrap_i64 (by omega) (by omega)]; omega
        have w3 : IntKind.wrap .i64 ((s.size : Int) + ((s.size / 1000 : Nat) : Int)) = ((s.size + s.size / 1000 : Nat) : Int) := by rw [wrap_i64 (by omega) (by omega)]; omega
        have w4 : IntKind.wrap .i64 (((s.size + s.size / 1000 : Nat) : Int) + 22) = ((s.size + s.size / 1000 + 22 : Nat) : Int) := by rw [wrap_i64 (by omega) (by omega)]; omega
        simp only [F10_2042, B10_2042, iteP_eq]
        rw [ifT (by omega), if_pos hwi, Int.toNat_natCast, hli, Option.bind_some, ifF (by omega), if_pos hwi, Option.bind_some, h37, Option.bind_some, if_pos hwi, Option.bind_some]
        simp only
        rw [h38, Option.bind_some, if_pos hwi, Option.bind_some]
        simp only
        rw [if_neg (by simp), if_neg (by simp), if_pos hwi, Option.bind_some, if_pos hwi, Option.bind_some, w1, w3, w4, ifF (by omega), if_pos hwi, Option.bind_some, ifF (by omega), hw2, r1]
        cases r <;> rfl
theorem F32_more {w s : ByteArray} {P : List Tok} (hP : PackOk w s P) (hw : w.size ≤ 1000000) (hs : s.size ≤ 8000) (most : Int) (hm : (s.size : Int) ≤ most) (hm0 : most ≤ 2000000000) (rest : ByteArray) (hr : rest.size ≤ 10000) :
    F32 200000 (w, strF (blkB P s true) ++ rest, most) = some (s, (((strF (blkB P s true)).size : Nat) : Int), 0) := by
  have hb := blkB_len P s (by omega) true
  have hsz := strF_size (blkB P s true)
  have hpl := padN_lt (blkB P s true)
  have hrl := allB_length rest
  have hcat : (strF (blkB P s true) ++ rest).size = (strF (blkB P s true)).size + rest.size := ByteArray.size_append
  have hL : ([] ++ (blkB P s true ++ (List.replicate (padN (blkB P s true)) false ++ allB rest))).length ≤ 1000000000 := by simp only [List.nil_append, List.length_append, List.length_replicate]; omega
  obtain ⟨kind, h⟩ := F29_blk hP hw hs true most hm hm0 [] (List.replicate (padN (blkB P s true)) false ++ allB rest) rfl hL
  have hal : allB (strF (blkB P s true) ++ rest) = [] ++ (blkB P s true ++ (List.replicate (padN (blkB P s true)) false ++ allB rest)) := by
    rw [allB_app, allB_strF, List.nil_append]
    unfold alignL
    rw [List.append_assoc]
  rw [← hal, List.length_nil, Nat.zero_add, show ((0 : Nat) : Int) = 0 from rfl] at h
  have w1 : IntKind.wrap .i64 (most - ((ByteArray.mk #[]).size : Int)) = most := by
    rw [show (ByteArray.mk #[]).size = 0 from rfl, wrap_i64 (by omega) (by omega)]; omega
  have w2 : IntKind.wrap .i64 ((((blkB P s true).length : Nat) : Int) + 7) = (((blkB P s true).length + 7 : Nat) : Int) := by rw [wrap_i64 (by omega) (by omega)]; omega
  have w3 : IntKind.wrap .i64 (Int.tdiv (((blkB P s true).length + 7 : Nat) : Int) 8) = (((strF (blkB P s true)).size : Nat) : Int) := by
    rw [Int.tdiv_eq_ediv_of_nonneg (by omega), wrap_i64 (by omega) (by omega), hsz]; omega
  have hround : F32_30 200000 (199999 + 1) (w, most, ByteArray.mk #[], 0, 0, allB (strF (blkB P s true) ++ rest)) = some (s, (((strF (blkB P s true)).size : Nat) : Int), 0) := by
    show B32_30 200000 (F32_30 200000 199999) _ = _
    generalize F32_30 200000 199999 = G
    simp only [B32_30, iteP_eq]
    rw [if_neg (by rw [show (ByteArray.mk #[]).size = 0 from rfl]; simp only [decide_eq_true_eq]; omega), app_nil, w1, h, Option.bind_some]
    simp only
    rw [if_neg (by simp), if_neg (by rw [show (ByteArray.mk #[]).size = 0 from rfl]; simp only [decide_eq_true_eq]; omega), if_pos trivial, nil_app, w2, w3]
  simp only [F32]
  rw [F22_all _ (by omega) (by decide), Option.bind_some]
  show Option.bind (F32_30 200000 (199999 + 1) _) _ = _
  rw [hround, Option.bind_some]
theorem F39_frame {s : ByteArray} {P : List Tok} (hP : PackOk (ByteArray.mk #[]) s P) (hs : s.size ≤ 8000) :
    F39 200000 s = some (hdr ++ strF (blkB P s true) ++ put4 (adN s)) := by
  have hb := blkB_len P s (by omega) true
  have hsz := strF_size (blkB P s true)
  have hp := put4_size (adN s)
  have hcat : (hdr ++ strF (blkB P s true)).size = 2 + (strF (blkB P s true)).size := ByteArray.size_append
  simp only [F39, iteP_eq]
  rw [F82_sum s (by omega), Option.bind_some, F81_put (adN_lt s), Option.bind_some, F30_whole hP hs, Option.bind_some, ifF (by omega)]
  show (if decide ((((hdr ++ strF (blkB P s true)).size + (put4 (adN s)).size : Nat) : Int) > 9223372036854775807) = true then none else some (hdr ++ strF (blkB P s true) ++ put4 (adN s))) = _
  rw [ifF (by omega)]
theorem F40_frame {s : ByteArray} {P : List Tok} (hP : PackOk (ByteArray.mk #[]) s P) (hs : s.size ≤ 8000) (tl : ByteArray) (ht : tl.size ≤ 1000) :
    F40 200000 (hdr ++ strF (blkB P s true) ++ put4 (adN s) ++ tl, (s.size : Int)) = some (s, (((strF (blkB P s true)).size + 6 : Nat) : Int), 0) := by
  have hb := blkB_len P s (by omega) true
  have hsz := strF_size (blkB P s true)
  have hp := put4_size (adN s)
  have e1 : hdr ++ strF (blkB P s true) ++ put4 (adN s) ++ tl = hdr ++ (strF (blkB P s true) ++ (put4 (adN s) ++ tl)) := by simp only [app_assoc]
  have e2 : hdr ++ strF (blkB P s true) ++ put4 (adN s) ++ tl = (hdr ++ strF (blkB P s true)) ++ (put4 (adN s) ++ tl) := by simp only [app_assoc]
  have z1 : (put4 (adN s) ++ tl).size = 4 + tl.size := by rw [ByteArray.size_append, hp]
  have z2 : (hdr ++ strF (blkB P s true)).size = 2 + (strF (blkB P s true)).size := ByteArray.size_append
  have z3 : (hdr ++ strF (blkB P s true) ++ put4 (adN s) ++ tl).size = 2 + (strF (blkB P s true)).size + (4 + tl.size) := by rw [e2, ByteArray.size_append, z1, z2]
  have h32 := F32_more hP (Nat.zero_le _) hs (s.size : Int) (Int.le_refl _) (by omega) (put4 (adN s) ++ tl) (by omega)
  have hc1 := hdr_cut (strF (blkB P s true) ++ (put4 (adN s) ++ tl))
  rw [← e1] at hc1
  have hc2 := pre_cut (hdr ++ strF (blkB P s true)) (put4 (adN s) ++ tl)
  rw [← e2, z2] at hc2
  have hc3 := pre_take (put4 (adN s)) tl
  rw [hp] at hc3
  have w1 : IntKind.wrap .i64 ((2 : Int) + (((strF (blkB P s true)).size : Nat) : Int)) = ((2 + (strF (blkB P s true)).size : Nat) : Int) := by rw [wrap_i64 (by omega) (by omega)]; omega
  have w2 : IntKind.wrap .i64 (((2 + (strF (blkB P s true)).size : Nat) : Int) + 4) = (((strF (blkB P s true)).size + 6 : Nat) : Int) := by rw [wrap_i64 (by omega) (by omega)]; omega
  have hok : F36 200000 (hdr ++ strF (blkB P s true) ++ put4 (adN s) ++ tl) = some 0 := by rw [e1]; exact hdr_ok _
  simp only [F40, iteP_eq]
  rw [hok, Option.bind_some, if_neg (by decide), if_pos (by rw [z3]; simp only [decide_eq_true_eq]; omega), hc1, h32, Option.bind_some]
  simp only
  rw [if_neg (by decide), w1, if_pos (by rw [z3]; simp only [decide_eq_true_eq]; omega), Int.toNat_natCast, hc2, if_neg (by rw [z1]; simp only [decide_eq_true_eq]; omega), if_pos (by rw [z1]; simp only [decide_eq_true_eq]; omega), hc3, F83_int (adN_lt s), Option.bind_some, F84_more s (by omega), Option.bind_some, if_neg (by simp), w2]
theorem law10 (hw : F34 200000 () = some true) (l : List ByteArray) (tl : ByteArray) : F10 200000 (l, tl) = some true := by
  simp only [F10, iteP_eq]
  rw [hw, Option.bind_some, if_neg (by decide)]
  by_cases g1 : l.length > 6
  · rw [ifT (by omega)]
  by_cases g2 : tl.size > 250
  · rw [ifF (by omega), ifT (by omega)]
  obtain ⟨r, r1, r2⟩ := F10_loop l (by omega) tl l.length 0 200000 (ByteArray.mk #[]) false (by omega) (by omega) (Nat.zero_le _)
  rw [show ((0 : Nat) : Int) = 0 from rfl] at r1
  rw [ifF (by omega), ifF (by omega), r1, Option.bind_some]
  rcases r2 with rfl | ⟨s, hs, rfl⟩
  · rfl
  · obtain ⟨P, hP⟩ := F110_pack (ByteArray.mk #[]) s (Nat.zero_le _) (by omega)
    have hb := blkB_len P s (by omega) true
    have hsz := strF_size (blkB P s true)
    have hp := put4_size (adN s)
    have hz : (hdr ++ strF (blkB P s true) ++ put4 (adN s)).size = (strF (blkB P s true)).size + 6 := by rw [ByteArray.size_append, ByteArray.size_append, hp, hdr_size]; omega
    have w1 : IntKind.wrap .i64 (Int.tdiv (s.size : Int) 1000) = ((s.size / 1000 : Nat) : Int) := by rw [Int.tdiv_eq_ediv_of_nonneg (by omega), wrap_i64 (by omega) (by omega)]; omega
    have w3 : IntKind.wrap .i64 ((s.size : Int) + ((s.size / 1000 : Nat) : Int)) = ((s.size + s.size / 1000 : Nat) : Int) := by rw [wrap_i64 (by omega) (by omega)]; omega
    have w4 : IntKind.wrap .i64 (((s.size + s.size / 1000 : Nat) : Int) + 26) = ((s.size + s.size / 1000 + 26 : Nat) : Int) := by rw [wrap_i64 (by omega) (by omega)]; omega
    have h39 := F39_frame hP (by omega)
    have h40 := F40_frame hP (by omega) tl (by omega)
    simp only
    rw [h39, Option.bind_some, if_neg (by rw [hz]; simp only [decide_eq_true_eq]; omega), h40, Option.bind_some, w1, w3, w4, hz]
    have q : decide ((((strF (blkB P s true)).size + 6 : Nat) : Int) ≤ ((s.size + s.size / 1000 + 26 : Nat) : Int)) = true := by rw [decide_eq_true_eq]; omega
    rw [q]
    simp
end Go.Proofs.YteddgkplkjldcaaGreat.Am
