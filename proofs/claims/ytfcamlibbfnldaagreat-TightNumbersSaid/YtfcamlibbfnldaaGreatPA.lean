/- Examples are encoded and decoded again; numbers in few bytes are written and read as the document says: the Lean function that TightNumbers comes to answers true at every input. -/
import Derived.Test.YtfcamlibbfnldaaGreatSD
import Derived.Test.YtfcamlibbfnldaaGreatAmC
import Derived.KernelRfl
set_option linter.unusedSimpArgs false
set_option linter.unusedVariables false
set_option linter.unusedSectionVars false
set_option maxRecDepth 100000
namespace Go.Proofs.YtfcamlibbfnldaaGreat.Am
open Go.Am
theorem toList_data (s : ByteArray) : s.toList = s.data.toList := by
  exact ByteArray.toList_eq s
theorem bytesOf_eq (s : ByteArray) : bytesOf s = s.data.toList.map fun x => (x.toNat : Int) := by
  unfold bytesOf; rw [toList_data]
theorem within_nat {i n : Nat} (h : i < n) : within (i : Int) n = true := by unfold within; simp only [decide_eq_true_eq]; omega
theorem string_bytes (s : ByteArray) : stringOf (bytesOf s) = s := by
  rw [bytesOf_eq]
  unfold stringOf
  apply ByteArray.ext
  show ((s.data.toList.map fun (x : UInt8) => ((x.toNat : Nat) : Int)).map fun (n : Int) => UInt8.ofNat n.toNat).toArray = s.data
  rw [List.map_map]
  have : (fun (n : Int) => UInt8.ofNat n.toNat) ∘ (fun (x : UInt8) => ((x.toNat : Nat) : Int)) = id := by
    funext x
    show UInt8.ofNat ((x.toNat : Int).toNat) = x
    rw [Int.toNat_natCast, UInt8.ofNat_toNat]
  rw [this, List.map_id]
theorem fdiv_nat (n m : Nat) : Int.fdiv (n : Int) (m : Int) = ((n / m : Nat) : Int) := by
  rw [Int.fdiv_eq_ediv_of_nonneg _ (by omega)]; rfl
end Go.Proofs.YtfcamlibbfnldaaGreat.Am
set_option maxRecDepth 100000
namespace Go.Proofs.YtfcamlibbfnldaaGreat.Am
open Go.Am
def B (l : List UInt8) : ByteArray := ⟨l.toArray⟩
def ints (l : List UInt8) : List Int := l.map fun x => (x.toNat : Int)
theorem B_data (s : ByteArray) : s = B s.data.toList := by unfold B; rfl
theorem B_size (l : List UInt8) : (B l).size = l.length := by show (List.toArray l).size = _; simp
theorem B_ext (l : List UInt8) (a b : Nat) : (B l).extract a b = B ((l.drop a).take (b - a)) := by
  unfold B
  apply ByteArray.ext
  rw [ByteArray.data_extract]
  apply Array.ext'
  simp
theorem B_app (l k : List UInt8) : B l ++ B k = B (l ++ k) := by
  unfold B
  apply ByteArray.ext
  simp
theorem B_bytes (l : List UInt8) : bytesOf (B l) = ints l := by rw [bytesOf_eq]; unfold B ints; simp
theorem B_toList (l : List UInt8) : (B l).toList = l := by rw [toList_data]; unfold B; simp
theorem B_get (l : List UInt8) (i : Nat) : (B l)[i]? = l[i]? := by
  by_cases h : i < l.length
  · have hs : i < (B l).size := by rw [B_size]; exact h
    have e : (B l)[i]? = some ((B l)[i]) := by simp [hs]
    rw [e, List.getElem?_eq_getElem h]
    rfl
  · have hs : ¬ i < (B l).size := by rw [B_size]; exact h
    rw [List.getElem?_eq_none (by omega)]
    simp [hs]
theorem B_string (l : List UInt8) : stringOf (ints l) = B l := by rw [← B_bytes, string_bytes]
theorem ints_length (l : List UInt8) : (ints l).length = l.length := by unfold ints; simp
theorem w_u8 (x : UInt8) : IntKind.wrap .i64 (x.toNat : Int) = (x.toNat : Int) := by
  have := x.toNat_lt
  exact wrap_i64 (by omega) (by omega)
theorem w_i {n : Int} (h0 : -1000000000000000 ≤ n) (h : n ≤ 1000000000000000) : IntKind.wrap .i64 n = n := wrap_i64 (by omega) (by omega)
theorem F135_ok (l : List UInt8) (k p : Nat) (h : p + k ≤ l.length) (hl : l.length ≤ 200000000000000) : F135 200000 ((k : Int), B l, (p : Int), 0) = some (B ((l.drop p).take k), B l, ((p + k : Nat) : Int), 0) := by
  have w1 : IntKind.wrap .i64 (((B l).size : Int) - (p : Int)) = ((l.length - p : Nat) : Int) := by rw [B_size, w_i (by omega) (by omega)]; omega
  have w2 : IntKind.wrap .i64 ((p : Int) + (k : Int)) = ((p + k : Nat) : Int) := by rw [w_i (by omega) (by omega)]; omega
  have w3 : IntKind.wrap .i64 (((p + k : Nat) : Int) - (k : Int)) = (p : Int) := by rw [w_i (by omega) (by omega)]; omega
  simp only [F135, F86, iteP_eq, Option.bind_some, w1, w2, w3, Int.toNat_natCast]
  rw [ifF (by omega), ifF (by omega), if_neg (by decide), ifT (by rw [B_size]; omega), ifT (by omega), B_ext, show p + k - p = k by omega]
theorem F135_more (l : List UInt8) (k p : Nat) (h : l.length < p + k) (hp : p ≤ l.length) (hl : l.length ≤ 200000000000000) : F135 200000 ((k : Int), B l, (p : Int), 0) = some (B [], B l, (p : Int), 2) := by
  have w1 : IntKind.wrap .i64 (((B l).size : Int) - (p : Int)) = ((l.length - p : Nat) : Int) := by rw [B_size, w_i (by omega) (by omega)]; omega
  simp only [F135, F86, F206, iteP_eq, Option.bind_some, w1]
  rw [ifF (by omega), ifT (by omega), if_pos (by decide), Option.bind_some]
  simp only
  rw [if_pos (by decide)]
  rfl
theorem F231_one (a : Int) : F231 200000 (0, 1, [a]) = some [a] := by
  simp only [F231]
  rw [show IntKind.wrap .i64 (((1 : Nat) : Int) - 1) = 0 from rfl]
  show Option.bind (F231_6 200000 (199999 + 1) _) _ = _
  show Option.bind (B231_6 200000 (F231_6 200000 199999) _) _ = _
  generalize F231_6 200000 199999 = G
  simp only [B231_6, iteP_eq]
  rw [if_neg (by decide), Option.bind_some]
theorem F231_nil : F231 200000 (0, 0, []) = some [] := by
  simp only [F231]
  show Option.bind (F231_6 200000 (199999 + 1) _) _ = _
  show Option.bind (B231_6 200000 (F231_6 200000 199999) _) _ = _
  generalize F231_6 200000 199999 = G
  simp only [B231_6, iteP_eq]
  rw [if_neg (by decide), Option.bind_some]
theorem F165_B (l m : List UInt8) (hl : l.length ≤ 1000) (h : F231 200000 (0, l.length, ints l) = some (ints m)) : F165 200000 (B l) = some (B m) := by
  simp only [F165, iteP_eq]
  rw [ifT (by rw [B_size]; omega), B_bytes, ints_length, h, Option.bind_some, B_string]
def leV : List UInt8 → Nat
  | [] => 0
  | x :: r => x.toNat + 256 * leV r
theorem leV_lt : ∀ (l : List UInt8), leV l < 256 ^ l.length
  | [] => by decide
  | x :: r => by
    have := leV_lt r
    have := x.toNat_lt
    simp only [leV, List.length_cons, Nat.pow_succ]
    omega
theorem leV_snoc : ∀ (l : List UInt8) (x : UInt8), leV (l ++ [x]) = leV l + 256 ^ l.length * x.toNat
  | [], x => by simp [leV]
  | y :: r, x => by
    rw [List.cons_append, leV, leV, leV_snoc r x, List.length_cons, Nat.pow_succ, Nat.mul_add]
    rw [show 256 * (256 ^ r.length * x.toNat) = 256 ^ r.length * 256 * x.toNat by rw [Nat.mul_comm (256 ^ r.length) 256, Nat.mul_assoc]]
    omega
theorem num_loop (l : List UInt8) (hl : l.length ≤ 4) (s : ByteArray) (p e : Int) : ∀ (suf pre : List UInt8) (k : Nat), l = pre ++ suf → suf.length < k →
    F173_122 200000 k (((leV pre : Nat) : Int), ((pre.length : Nat) : Int), ((l.length : Nat) : Int), s, p, e, ints l) = some (((leV l : Nat) : Int), s, p, e)
  | [], pre, k + 1, h, _ => by
    have : pre = l := by rw [h]; simp
    subst this
    show B173_122 200000 (F173_122 200000 k) _ = _
    simp only [B173_122, iteP_eq]
    rw [ifF (by omega)]
  | x :: r, pre, k + 1, h, hk => by
    have hn : l.length = pre.length + r.length + 1 := by rw [h]; simp; omega
    have ih := num_loop l hl s p e r (pre ++ [x]) k (by rw [h]; simp) (by simp at hk; omega)
    rw [show (pre ++ [x]).length = pre.length + 1 by simp] at ih
    show B173_122 200000 (F173_122 200000 k) _ = _
    generalize F173_122 200000 k = G at *
    simp only [B173_122, iteP_eq]
    have hg : (ints l)[pre.length]? = some (x.toNat : Int) := by
      rw [h]; unfold ints; simp
    have hw : IntKind.wrap .i64 ((8 : Int) * ((pre.length : Nat) : Int)) = ((8 * pre.length : Nat) : Int) := by rw [w_i (by omega) (by omega)]; omega
    have hw2 : IntKind.wrap .i64 (((pre.length : Nat) : Int) + 1) = ((pre.length + 1 : Nat) : Int) := by rw [w_i (by omega) (by omega)]; omega
    have ho := or_eq (A := leV pre) (B := x.toNat) (i := 8 * pre.length) (j := 8) (by have := leV_lt pre; rw [show (256 : Nat) = 2 ^ 8 from rfl, ← Nat.pow_mul] at this; exact this) (by have := x.toNat_lt; omega) (by omega)
    rw [ifT (by omega), if_pos (within_nat (by rw [ints_length]; omega)), Int.toNat_natCast, hg, Option.bind_some, hw, ifF (by omega), w_u8, ho, hw2]
    have e2 : leV pre + 2 ^ (8 * pre.length) * x.toNat = leV (pre ++ [x]) := by
      rw [leV_snoc, show (256 : Nat) = 2 ^ 8 from rfl, ← Nat.pow_mul]
    rw [e2, ih, Option.bind_some]
theorem F173_num (l m : List UInt8) (hl : l.length ≤ 4) (hm : m.length = l.length) (k : Int) (s : ByteArray) (p e : Int) (s0 : ByteArray) (p0 e0 : Int) (hw : F230 200000 k = some true) (hB : F135 200000 (k, s0, p0, e0) = some (B l, s, p, e)) (ht : F165 200000 (B l) = some (B m)) :
    F105 200000 (k, s0, p0, e0) = some (((leV m : Nat) : Int), s, p, e) := by
  have hloop := num_loop m (by omega) s p e m [] 200000 rfl (by omega)
  simp only [F105, F173, iteP_eq]
  rw [hw, Option.bind_some]
  simp only [Bool.not_true, Bool.false_eq_true, if_false]
  rw [hB, Option.bind_some]
  simp only
  rw [ht, Option.bind_some, ifT (by rw [B_size]; omega), B_bytes, ints_length]
  show Option.bind (Option.bind (F173_122 200000 200000 (((leV [] : Nat) : Int), ((([] : List UInt8).length : Nat) : Int), ((m.length : Nat) : Int), s, p, e, ints m)) _) _ = _
  rw [hloop, Option.bind_some, Option.bind_some]
theorem turn0 : F165 200000 (B []) = some (B []) := F165_B [] [] (by decide) F231_nil
theorem turn1 (a : UInt8) : F165 200000 (B [a]) = some (B [a]) := F165_B [a] [a] (by simp) (F231_one _)
theorem int1_ok (l : List UInt8) (p : Nat) (x : UInt8) (h : l[p]? = some x) (hl : l.length ≤ 200000000000000) : F105 200000 (1, B l, (p : Int), 0) = some ((x.toNat : Int), B l, ((p + 1 : Nat) : Int), 0) := by
  have hp : p < l.length := by
    rcases Nat.lt_or_ge p l.length with h1 | h1
    · exact h1
    · rw [List.getElem?_eq_none h1] at h; cases h
  have hB := F135_ok l 1 p (by omega) hl
  have e : (l.drop p).take 1 = [x] := by
    rw [List.drop_eq_getElem_cons hp]
    rw [List.getElem?_eq_getElem hp] at h
    cases h
    rfl
  rw [e] at hB
  have := F173_num [x] [x] (by simp) rfl 1 _ _ _ _ _ _ rfl hB (turn1 x)
  rw [this]
  simp [leV]
theorem int1_more (l : List UInt8) (hl : l.length ≤ 200000000000000) : F105 200000 (1, B l, (l.length : Int), 0) = some (0, B l, (l.length : Int), 2) :=
  F173_num [] [] (by simp) rfl 1 _ _ _ _ _ _ rfl (F135_more l 1 l.length (by omega) (Nat.le_refl _) hl) turn0
end Go.Proofs.YtfcamlibbfnldaaGreat.Am
set_option maxRecDepth 100000
namespace Go.Proofs.YtfcamlibbfnldaaGreat.Am
open Go.Am
def coV : List UInt8 → Int × Int × Int
  | [] => (0, 0, 2)
  | [a] => if a.toNat < 128 then ((a.toNat : Int), 1, 0) else (0, 0, 2)
  | [a, b] => if a.toNat < 128 then ((a.toNat : Int), 1, 0) else if b.toNat < 128 then ((a.toNat : Int) - 128 + 128 * (b.toNat : Int), 2, 0) else (0, 0, 2)
  | a :: b :: c :: _ => if a.toNat < 128 then ((a.toNat : Int), 1, 0) else if b.toNat < 128 then ((a.toNat : Int) - 128 + 128 * (b.toNat : Int), 2, 0)
    else ((a.toNat : Int) - 128 + 128 * ((b.toNat : Int) - 128) + 16384 * (c.toNat : Int), 3, 0)
theorem F46_of (l : List UInt8) (hl : l.length ≤ 200000000000000) : F46 200000 (B l) = some (coV l) := by
  simp only [F46, iteP_eq, B_size, B_get]
  match l, hl with
  | [], _ => rfl
  | [a], _ =>
    have := a.toNat_lt
    rw [ifF (by simp), show ([a] : List UInt8)[0]? = some a from rfl, Option.bind_some, w_u8]
    simp only [coV]
    by_cases h : a.toNat < 128
    · rw [ifT (by omega), if_pos h]
    · rw [ifF (by omega), if_neg h, ifT (by simp)]
  | [a, b], _ =>
    have := a.toNat_lt
    have := b.toNat_lt
    rw [ifF (by simp), show ([a, b] : List UInt8)[0]? = some a from rfl, Option.bind_some, w_u8]
    simp only [coV]
    by_cases h : a.toNat < 128
    · rw [ifT (by omega), if_pos h]
    · rw [ifF (by omega), if_neg h, ifF (by simp), show ([a, b] : List UInt8)[1]? = some b from rfl, Option.bind_some, w_u8]
      by_cases h2 : b.toNat < 128
      · rw [ifT (by omega), if_pos h2, w_i (n := (a.toNat : Int) - 128) (by omega) (by omega), w_i (n := 128 * (b.toNat : Int)) (by omega) (by omega), w_i (by omega) (by omega)]
      · rw [ifF (by omega), if_neg h2, ifT (by simp)]
  | a :: b :: c :: r, hl =>
    have := a.toNat_lt
    have := b.toNat_lt
    have := c.toNat_lt
    simp only [List.length_cons] at hl ⊢
    rw [ifF (by omega), show (a :: b :: c :: r)[0]? = some a from rfl, Option.bind_some, w_u8]
    simp only [coV]
    by_cases h : a.toNat < 128
    · rw [ifT (by omega), if_pos h]
    · rw [ifF (by omega), if_neg h, ifF (by omega), show (a :: b :: c :: r)[1]? = some b from rfl, Option.bind_some, w_u8]
      by_cases h2 : b.toNat < 128
      · rw [ifT (by omega), if_pos h2, w_i (n := (a.toNat : Int) - 128) (by omega) (by omega), w_i (n := 128 * (b.toNat : Int)) (by omega) (by omega), w_i (by omega) (by omega)]
      · rw [ifF (by omega), if_neg h2, ifF (by omega), show (a :: b :: c :: r)[2]? = some c from rfl, Option.bind_some, w_u8,
          w_i (n := (a.toNat : Int) - 128) (by omega) (by omega), w_i (n := (b.toNat : Int) - 128) (by omega) (by omega), w_i (n := 128 * ((b.toNat : Int) - 128)) (by omega) (by omega),
          w_i (n := (a.toNat : Int) - 128 + 128 * ((b.toNat : Int) - 128)) (by omega) (by omega), w_i (n := 16384 * (c.toNat : Int)) (by omega) (by omega), w_i (by omega) (by omega)]
theorem c45_next (l : List UInt8) (hl : l.length ≤ 200000000000000) (k n i p : Nat) (x : UInt8) (h : l[p]? = some x) (hi : i < 2) (hx : 128 ≤ x.toNat) (hn : n < 2 ^ (7 * i)) :
    F45_218 200000 (k + 1) ((n : Int), (i : Int), B l, (p : Int), 0) = F45_218 200000 k (((n + 2 ^ (7 * i) * (x.toNat - 128) : Nat) : Int), ((i + 1 : Nat) : Int), B l, ((p + 1 : Nat) : Int), 0) := by
  have := x.toNat_lt
  show B45_218 200000 (F45_218 200000 k) _ = _
  generalize F45_218 200000 k = G
  simp only [B45_218, iteP_eq]
  have ho := or_eq (A := n) (B := x.toNat - 128) (i := 7 * i) (j := 8) hn (by omega) (by omega)
  have w1 : IntKind.wrap .i64 ((7 : Int) * (i : Int)) = ((7 * i : Nat) : Int) := by rw [w_i (by omega) (by omega)]; omega
  have w2 : IntKind.wrap .i64 ((i : Int) + 1) = ((i + 1 : Nat) : Int) := by rw [w_i (by omega) (by omega)]; omega
  have w3 : IntKind.wrap .i64 ((x.toNat : Int) - 128) = ((x.toNat - 128 : Nat) : Int) := by rw [w_i (by omega) (by omega)]; omega
  rw [ifT (by omega), int1_ok l p x h hl, Option.bind_some]
  simp only
  rw [ifT (by omega), ifT (by omega), w1, ifF (by omega), w3, ho, w2, Option.bind_fun_some]
theorem c45_last (l : List UInt8) (hl : l.length ≤ 200000000000000) (k n i p : Nat) (x : UInt8) (h : l[p]? = some x) (hi : i < 3) (hx : x.toNat < 128 ∨ i = 2) (hn : n < 2 ^ (7 * i)) :
    F45_218 200000 (k + 1) ((n : Int), (i : Int), B l, (p : Int), 0) = some (((n + 2 ^ (7 * i) * x.toNat : Nat) : Int), B l, ((p + 1 : Nat) : Int), 0) := by
  have := x.toNat_lt
  show B45_218 200000 (F45_218 200000 k) _ = _
  generalize F45_218 200000 k = G
  simp only [B45_218, iteP_eq]
  have ho := or_eq (A := n) (B := x.toNat) (i := 7 * i) (j := 8) hn (by omega) (by omega)
  have w1 : IntKind.wrap .i64 ((7 : Int) * (i : Int)) = ((7 * i : Nat) : Int) := by rw [w_i (by omega) (by omega)]; omega
  rw [ifT (by omega), int1_ok l p x h hl, Option.bind_some]
  simp only
  rw [w1, ho]
  by_cases h2 : i < 2
  · rw [ifT (by omega), ifF (by omega), ifF (by omega)]
  · rw [ifF (by omega), ifF (by omega)]
theorem c45_more (l : List UInt8) (hl : l.length ≤ 200000000000000) (k n i : Nat) (hi : i < 3) (hn : n < 2 ^ (7 * i)) :
    F45_218 200000 (k + 1) ((n : Int), (i : Int), B l, (l.length : Int), 0) = some ((n : Int), B l, (l.length : Int), 2) := by
  show B45_218 200000 (F45_218 200000 k) _ = _
  generalize F45_218 200000 k = G
  simp only [B45_218, iteP_eq]
  have ho := or_eq (A := n) (B := 0) (i := 7 * i) (j := 8) hn (by omega) (by omega)
  have w1 : IntKind.wrap .i64 ((7 : Int) * (i : Int)) = ((7 * i : Nat) : Int) := by rw [w_i (by omega) (by omega)]; omega
  rw [ifT (by omega), int1_more l hl, Option.bind_some]
  simp only
  rw [w1]
  have e : IntKind.wrap .i64 ((BitVec.toNat (BitVec.ofInt 64 (n : Int) ||| BitVec.ofInt 64 (IntKind.wrap .i64 ((0 : Int) * 2 ^ min (Int.toNat ((7 * i : Nat) : Int)) 64))) : Nat) : Int) = (n : Int) := by
    have := ho
    rw [Nat.mul_zero, Nat.add_zero] at this
    exact this
  rw [e]
  by_cases h2 : i < 2
  · rw [ifT (by omega), ifF (by omega), ifF (by omega)]
  · rw [ifF (by omega), ifF (by omega)]
theorem F45_of (l : List UInt8) (hl : l.length ≤ 200000000000000) : F45 200000 (B l) = some (coV l) := by
  have fin : ∀ (n p : Int) (e : Int), (n, p, e) = coV l ∨ e ≠ 0 ∧ coV l = (0, 0, e) → F45_218 200000 200000 (0, 0, B l, 0, 0) = some (n, B l, p, e) → F45 200000 (B l) = some (coV l) := by
    intro n p e h1 h2
    simp only [F45, F81, F84, F106, iteP_eq, Option.bind_some]
    rw [h2, Option.bind_some]
    simp only
    rcases h1 with h1 | ⟨h0, h1⟩
    · by_cases he : e = 0
      · subst he
        rw [if_neg (by decide), h1]
      · have : coV l = (0, 0, 2) := by
          rw [← h1]
          revert h1
          simp only [coV]
          intro h1
          split at h1 <;> (try split at h1) <;> (try split at h1) <;> simp_all
        rw [← h1] at this
        cases this
        rw [if_pos (by decide), ← h1]
    · rw [if_pos (by simpa using h0), h1]
  have s0 : ∀ k, F45_218 200000 k (0, 0, B l, 0, 0) = F45_218 200000 k (((0 : Nat) : Int), ((0 : Nat) : Int), B l, ((0 : Nat) : Int), 0) := fun _ => rfl
  have nat128 : ∀ x : UInt8, ¬ x.toNat < 128 → 128 ≤ x.toNat := fun x h => by omega
  cases l with
  | nil => exact fin 0 0 2 (.inl rfl) (c45_more [] hl 199999 0 0 (by omega) (by decide))
  | cons a r =>
    have la := a.toNat_lt
    by_cases ha : a.toNat < 128
    · refine fin (a.toNat : Int) 1 0 (.inl ?_) ?_
      · rcases r with _ | ⟨b, _ | ⟨c, r⟩⟩ <;> simp only [coV] <;> rw [if_pos ha]
      · rw [s0, c45_last (a :: r) hl 199999 0 0 0 a rfl (by omega) (.inl ha) (by decide)]
        simp
    · have h1 := c45_next (a :: r) hl 199999 0 0 0 a rfl (by omega) (by omega) (by decide)
      rw [show (0 + 2 ^ (7 * 0) * (a.toNat - 128) : Nat) = a.toNat - 128 by omega, ← s0] at h1
      cases r with
      | nil =>
        refine fin ((a.toNat - 128 : Nat) : Int) 1 2 (.inr ⟨by decide, ?_⟩) ?_
        · simp only [coV]; rw [if_neg ha]
        · exact h1.trans (c45_more [a] hl 199998 (a.toNat - 128) 1 (by omega) (by omega))
      | cons b r =>
        have lb := b.toNat_lt
        by_cases hb : b.toNat < 128
        · refine fin ((a.toNat : Int) - 128 + 128 * (b.toNat : Int)) 2 0 (.inl ?_) ?_
          · rcases r with _ | ⟨c, r⟩ <;> simp only [coV] <;> rw [if_neg ha, if_pos hb]
          · have h2 := c45_last (a :: b :: r) hl 199998 (a.toNat - 128) 1 1 b rfl (by omega) (.inl hb) (by omega)
            have : ((a.toNat - 128 + 2 ^ (7 * 1) * b.toNat : Nat) : Int) = (a.toNat : Int) - 128 + 128 * (b.toNat : Int) := by omega
            rw [this] at h2
            exact h1.trans h2
        · have h2 := c45_next (a :: b :: r) hl 199998 (a.toNat - 128) 1 1 b rfl (by omega) (by omega) (by omega)
          cases r with
          | nil =>
            refine fin ((a.toNat - 128 + 2 ^ (7 * 1) * (b.toNat - 128) : Nat) : Int) 2 2 (.inr ⟨by decide, ?_⟩) ?_
            · simp only [coV]; rw [if_neg ha, if_neg hb]
            · exact (h1.trans h2).trans (c45_more [a, b] hl 199997 _ 2 (by omega) (by omega))
          | cons c r =>
            have lc := c.toNat_lt
            refine fin ((a.toNat : Int) - 128 + 128 * ((b.toNat : Int) - 128) + 16384 * (c.toNat : Int)) 3 0 (.inl ?_) ?_
            · simp only [coV]; rw [if_neg ha, if_neg hb]
            · have h3 := c45_last (a :: b :: c :: r) hl 199997 (a.toNat - 128 + 2 ^ (7 * 1) * (b.toNat - 128)) 2 2 c rfl (by omega) (.inr rfl) (by omega)
              have : ((a.toNat - 128 + 2 ^ (7 * 1) * (b.toNat - 128) + 2 ^ (7 * 2) * c.toNat : Nat) : Int) = (a.toNat : Int) - 128 + 128 * ((b.toNat : Int) - 128) + 16384 * (c.toNat : Int) := by omega
              rw [this] at h3
              exact (h1.trans h2).trans h3
def u8 (n : Nat) : UInt8 := UInt8.ofNat n
theorem u8_toNat {n : Nat} (h : n < 256) : (u8 n).toNat = n := by
  unfold u8
  rw [UInt8.toNat_ofNat']
  omega
def cmp (n : Nat) : List UInt8 := if n < 128 then [u8 n] else if n < 16384 then [u8 (128 + n % 128), u8 (n / 128)] else [u8 (128 + n % 128), u8 (128 + n / 128 % 128), u8 (n / 16384)]
theorem cmp_length (n : Nat) : (cmp n).length ≤ 3 := by unfold cmp; split <;> (try split) <;> simp
theorem coV_cmp {n : Nat} (hn : n ≤ 4194303) (r : List UInt8) : coV (cmp n ++ r) = ((n : Int), ((cmp n).length : Int), 0) := by
  unfold cmp
  by_cases h1 : n < 128
  · rw [if_pos h1]
    rcases r with _ | ⟨b, _ | ⟨c, r⟩⟩ <;> simp only [coV, List.cons_append, List.nil_append, List.length_cons, List.length_nil] <;> rw [u8_toNat (by omega), if_pos h1] <;> rfl
  · rw [if_neg h1]
    by_cases h2 : n < 16384
    · rw [if_pos h2]
      have e : ((128 + n % 128 : Nat) : Int) - 128 + 128 * ((n / 128 : Nat) : Int) = (n : Int) := by omega
      rcases r with _ | ⟨c, r⟩ <;> simp only [coV, List.cons_append, List.nil_append, List.length_cons, List.length_nil] <;> rw [u8_toNat (by omega), u8_toNat (by omega), if_neg (by omega), if_pos (by omega), e] <;> rfl
    · rw [if_neg h2]
      have e : ((128 + n % 128 : Nat) : Int) - 128 + 128 * (((128 + n / 128 % 128 : Nat) : Int) - 128) + 16384 * ((n / 16384 : Nat) : Int) = (n : Int) := by omega
      simp only [coV, List.cons_append, List.nil_append, List.length_cons, List.length_nil]
      rw [u8_toNat (by omega), u8_toNat (by omega), u8_toNat (by omega), if_neg (by omega), if_neg (by omega), e]
      rfl
theorem str_u8 (l : List Nat) (h : ∀ x ∈ l, x < 256) : stringOf (l.map fun x => ((x : Nat) : Int)) = B (l.map u8) := by
  rw [← B_string]
  congr 1
  unfold ints
  rw [List.map_map]
  apply List.map_congr_left
  intro x hx
  show (x : Int) = (((u8 x).toNat : Nat) : Int)
  rw [u8_toNat (h x hx)]
theorem wu8 {n : Nat} : IntKind.wrap .u8 (n : Int) = ((n % 256 : Nat) : Int) := by rw [wrap_u8]; omega
theorem F44_of {n : Nat} (hn : n ≤ 4194303) : F44 200000 (n : Int) = some (B (cmp n), 0) := by
  simp only [F44, iteP_eq]
  rw [ifF (by omega), ifF (by omega)]
  unfold cmp
  have t1 : Int.tmod (n : Int) 128 = ((n % 128 : Nat) : Int) := rfl
  have t2 : Int.tdiv (n : Int) 128 = ((n / 128 : Nat) : Int) := rfl
  have t3 : Int.tdiv (n : Int) 16384 = ((n / 16384 : Nat) : Int) := rfl
  by_cases h1 : n < 128
  · rw [ifT (by omega), if_pos h1, wu8, Nat.mod_eq_of_lt (by omega)]
    rw [show [((n : Nat) : Int)] = [n].map fun x => ((x : Nat) : Int) from rfl, str_u8 _ (by simp; omega)]
    rfl
  · rw [ifF (by omega), if_neg h1]
    have e1 : IntKind.wrap .u8 (IntKind.wrap .i64 ((128 : Int) + Int.tmod (n : Int) 128)) = ((128 + n % 128 : Nat) : Int) := by
      rw [t1, w_i (by omega) (by omega), show (128 : Int) + ((n % 128 : Nat) : Int) = ((128 + n % 128 : Nat) : Int) by omega, wu8, Nat.mod_eq_of_lt (by omega)]
    rw [e1]
    by_cases h2 : n < 16384
    · have e2 : IntKind.wrap .u8 (IntKind.wrap .i64 (Int.tdiv (n : Int) 128)) = ((n / 128 : Nat) : Int) := by
        rw [t2, w_i (by omega) (by omega), wu8, Nat.mod_eq_of_lt (by omega)]
      rw [ifT (by omega), if_pos h2, e2]
      rw [show [((128 + n % 128 : Nat) : Int), ((n / 128 : Nat) : Int)] = [128 + n % 128, n / 128].map fun x => ((x : Nat) : Int) from rfl, str_u8 _ (by simp; omega)]
      rfl
    · have e2 : IntKind.wrap .u8 (IntKind.wrap .i64 ((128 : Int) + Int.tmod (IntKind.wrap .i64 (Int.tdiv (n : Int) 128)) 128)) = ((128 + n / 128 % 128 : Nat) : Int) := by
        rw [t2, w_i (n := ((n / 128 : Nat) : Int)) (by omega) (by omega), show Int.tmod ((n / 128 : Nat) : Int) 128 = ((n / 128 % 128 : Nat) : Int) from rfl, w_i (by omega) (by omega),
          show (128 : Int) + ((n / 128 % 128 : Nat) : Int) = ((128 + n / 128 % 128 : Nat) : Int) by omega, wu8, Nat.mod_eq_of_lt (by omega)]
      have e3 : IntKind.wrap .u8 (IntKind.wrap .i64 (Int.tdiv (n : Int) 16384)) = ((n / 16384 : Nat) : Int) := by
        rw [t3, w_i (by omega) (by omega), wu8, Nat.mod_eq_of_lt (by omega)]
      rw [ifF (by omega), if_neg h2, e2, e3]
      rw [show [((128 + n % 128 : Nat) : Int), ((128 + n / 128 % 128 : Nat) : Int), ((n / 16384 : Nat) : Int)] = [128 + n % 128, 128 + n / 128 % 128, n / 16384].map fun x => ((x : Nat) : Int) from rfl, str_u8 _ (by simp; omega)]
      rfl
theorem or128 : ∀ y : Fin 256, y.val ||| 128 = 128 + y.val % 128 := by decide
theorem or_low (n : Nat) (hn : n ≤ 4194303) : IntKind.wrap .u8 (IntKind.wrap .i64 ((BitVec.toNat (BitVec.ofInt 64 (n : Int) ||| BitVec.ofInt 64 (128 : Int)) : Nat) : Int)) = ((128 + n % 128 : Nat) : Int) := by
  have e : (BitVec.ofInt 64 (n : Int) ||| BitVec.ofInt 64 (128 : Int)).toNat = n ||| 128 := by
    rw [BitVec.toNat_or, BitVec.ofInt_natCast, BitVec.toNat_ofNat, Nat.mod_eq_of_lt (by omega)]
    rfl
  have h1 : n ||| 128 < 2 ^ 23 := Nat.or_lt_two_pow (by omega) (by decide)
  rw [e, w_i (by omega) (by omega), wu8]
  have h2 : (n ||| 128) % 2 ^ 8 = n % 2 ^ 8 ||| 128 % 2 ^ 8 := Nat.or_mod_two_pow
  have h3 := or128 ⟨n % 256, by omega⟩
  have h4 : (n ||| 128) % 256 = 128 + n % 128 := by
    rw [show (256 : Nat) = 2 ^ 8 from rfl, h2]
    have : n % 2 ^ 8 ||| 128 % 2 ^ 8 = n % 256 ||| 128 := rfl
    rw [this]
    simp only at h3
    rw [h3]
    omega
  rw [h4]
theorem F43_of {n : Nat} (hn : n ≤ 4194303) : F43 200000 (n : Int) = some (B (cmp n), 0) := by
  simp only [F43, iteP_eq]
  rw [ifF (by omega), ifF (by omega)]
  have fd : ∀ m : Nat, Int.fdiv (m : Int) 128 = ((m / 128 : Nat) : Int) := fun m => fdiv_nat m 128
  have st : ∀ (k m : Nat) (l : List Int), l.length < 2 → m < 128 → F43_60 200000 (k + 1) ((m : Int), l) = some ((m : Int), l) := by
    intro k m l hl hm
    show B43_60 200000 (F43_60 200000 k) _ = _
    simp only [B43_60, iteP_eq]
    rw [ifT (by omega), ifF (by omega)]
  have st2 : ∀ (k : Nat) (m : Nat) (l : List Int), l.length = 2 → F43_60 200000 (k + 1) ((m : Int), l) = some ((m : Int), l) := by
    intro k m l hl
    show B43_60 200000 (F43_60 200000 k) _ = _
    simp only [B43_60, iteP_eq]
    rw [ifF (by omega)]
  have nx : ∀ (k m : Nat) (l : List Int), l.length < 2 → 128 ≤ m → m ≤ 4194303 → F43_60 200000 (k + 1) ((m : Int), l) = F43_60 200000 k (((m / 128 : Nat) : Int), l ++ [((128 + m % 128 : Nat) : Int)]) := by
    intro k m l hl hm hm2
    show B43_60 200000 (F43_60 200000 k) _ = _
    generalize F43_60 200000 k = G
    simp only [B43_60, iteP_eq]
    rw [ifT (by omega), ifT (by omega), or_low m hm2, fd, ifT (by simp; omega), Option.bind_fun_some]
  have key : ∃ (m : Nat) (l : List Nat), F43_60 200000 200000 ((n : Int), []) = some ((m : Int), l.map fun x => ((x : Nat) : Int)) ∧ l.length ≤ 2 ∧ (l ++ [m % 256]).map u8 = cmp n ∧ ∀ x ∈ l ++ [m % 256], x < 256 := by
    unfold cmp
    by_cases h1 : n < 128
    · exact ⟨n, [], st 199999 n [] (by simp) h1, by simp, by rw [if_pos h1, Nat.mod_eq_of_lt (by omega)]; rfl, by simp; omega⟩
    · rw [if_neg h1]
      by_cases h2 : n < 16384
      · rw [if_pos h2]
        refine ⟨n / 128, [128 + n % 128], ?_, by simp, by rw [Nat.mod_eq_of_lt (a := n / 128) (by omega)]; rfl, by simp; omega⟩
        exact (nx 199999 n [] (by simp) (by omega) hn).trans (st 199998 (n / 128) _ (by simp) (by omega))
      · rw [if_neg h2]
        refine ⟨n / 16384, [128 + n % 128, 128 + n / 128 % 128], ?_, by simp, by rw [Nat.mod_eq_of_lt (a := n / 16384) (by omega)]; rfl, by simp; omega⟩
        have a1 := nx 199999 n [] (by simp) (by omega) hn
        have a2 := nx 199998 (n / 128) ([] ++ [((128 + n % 128 : Nat) : Int)]) (by simp) (by omega) (by omega)
        have a3 := st2 199997 (n / 128 / 128) (([] ++ [((128 + n % 128 : Nat) : Int)]) ++ [((128 + n / 128 % 128 : Nat) : Int)]) (by simp)
        rw [show n / 16384 = n / 128 / 128 by omega]
        exact a1.trans (a2.trans a3)
  obtain ⟨m, l, h1, h2, h3, h4⟩ := key
  rw [h1, Option.bind_some]
  simp only
  rw [ifT (by simp; omega), wu8, show (l.map fun x => ((x : Nat) : Int)) ++ [((m % 256 : Nat) : Int)] = (l ++ [m % 256]).map fun x => ((x : Nat) : Int) by simp, str_u8 _ h4, h3]
theorem F43_out {n : Int} (h : n < 0 ∨ n > 4194303) : F43 200000 n = some (B [], 1) ∧ F44 200000 n = some (B [], 1) := by
  simp only [F43, F44, iteP_eq]
  rcases h with h | h
  · rw [ifT h, ifT h]; exact ⟨rfl, rfl⟩
  · by_cases h0 : n < 0
    · rw [ifT h0, ifT h0]; exact ⟨rfl, rfl⟩
    · rw [ifF h0, ifF h0, ifT h, ifT h]; exact ⟨rfl, rfl⟩
theorem law12 (w : F42 200000 () = some true) (n : Int) (s : ByteArray) (hs : s.size ≤ 140737488355328) : F12 200000 (n, s) = some true := by
  rw [B_data s] at hs ⊢
  generalize s.data.toList = l at *
  rw [B_size] at hs
  simp only [F12, iteP_eq]
  rw [w, Option.bind_some, F45_of l (by omega), F46_of l (by omega)]
  simp only [Bool.not_true, Bool.false_eq_true, if_false, Option.bind_some]
  by_cases h : n < 0 ∨ n > 4194303
  · rw [(F43_out h).1, (F43_out h).2]
    simp only [Option.bind_some, bne_self_eq_false, Bool.false_eq_true, if_false, beq_self_eq_true, Bool.not_true]
    have : F12_511 200000 (1, n, B l, true, B []) = some true := by
      simp only [F12_511, iteP_eq]
      rw [if_pos (by decide), if_pos trivial, B_toList]
      rfl
    rw [this, Option.bind_some]
  · obtain ⟨m, rfl⟩ := Int.eq_ofNat_of_zero_le (show 0 ≤ n by omega)
    have hm : m ≤ 4194303 := by omega
    have hc := cmp_length m
    rw [F43_of hm, F44_of hm]
    simp only [Option.bind_some, bne_self_eq_false, Bool.false_eq_true, if_false, beq_self_eq_true, Bool.not_true]
    have : F12_511 200000 (0, (m : Int), B l, true, B (cmp m)) = some true := by
      simp only [F12_511, iteP_eq]
      rw [if_neg (by decide), ifF (by rw [B_size, B_size]; omega), B_app, F45_of _ (by rw [List.length_append]; omega), coV_cmp hm, Option.bind_some, B_size]
      simp
    rw [this, Option.bind_some]
end Go.Proofs.YtfcamlibbfnldaaGreat.Am
set_option maxRecDepth 100000
namespace Go.Proofs.YtfcamlibbfnldaaGreat.Am
open Go.Am
theorem works42a : F104 200000 (32, 24, false, true, 255, 255, 255, 16, 8, 0, 2, 1, [1, 2], 3) = some (ByteArray.mk #[163, 69, 137, 80, 78, 71, 13, 10, 26, 10, 0, 0, 0, 13, 73, 72, 68, 82, 0, 0, 0, 2, 0, 0, 0, 1, 8, 2, 0, 0, 0, 123, 64, 232, 221, 0, 0, 0, 12, 73, 68, 65, 84, 120, 156, 99, 100, 96, 0, 33, 0, 0, 19, 0, 4, 133, 190, 178, 85, 0, 0, 0, 0, 73, 69, 78, 68, 174, 66, 96, 130], 0) := by kernel_rfl
theorem works42b : F103 200000 (32, 24, false, true, 255, 255, 255, 16, 8, 0, 2, 1, ByteArray.mk #[163, 69, 137, 80, 78, 71, 13, 10, 26, 10, 0, 0, 0, 13, 73, 72, 68, 82, 0, 0, 0, 2, 0, 0, 0, 1, 8, 2, 0, 0, 0, 123, 64, 232, 221, 0, 0, 0, 12, 73, 68, 65, 84, 120, 156, 99, 100, 96, 0, 33, 0, 0, 19, 0, 4, 133, 190, 178, 85, 0, 0, 0, 0, 73, 69, 78, 68, 174, 66, 96, 130]) = some (3, 71, 0, [1, 2]) := by kernel_rfl
theorem works42c : F103 200000 (32, 24, false, true, 255, 255, 255, 16, 8, 0, 1, 1, ByteArray.mk #[133, 1, 2, 3, 120]) = some (5, 4, 0, [66051]) := by kernel_rfl
theorem works42d : F43 200000 300 = some (ByteArray.mk #[172, 2], 0) := by kernel_rfl
theorem works42 : F42 200000 () = some true := by
  simp only [F42]
  rw [works42d, Option.bind_some, show F102 200000 () = some (32, 24, false, true, 255, 255, 255, 16, 8, 0) from rfl, Option.bind_some]
  simp only
  rw [works42c, Option.bind_some]
  simp only
  rw [show F31 200000 ([66051], [66051]) = some true from by kernel_rfl, Option.bind_some, works42a, Option.bind_some]
  simp only
  rw [works42b, Option.bind_some]
  simp only
  rw [show F31 200000 ([1, 2], [1, 2]) = some true from by kernel_rfl, Option.bind_some]
  kernel_rfl
end Go.Proofs.YtfcamlibbfnldaaGreat.Am
