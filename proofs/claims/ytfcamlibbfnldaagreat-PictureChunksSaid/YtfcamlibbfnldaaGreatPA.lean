/- A picture is encoded and decoded again; chunks are made and read as the document says: the Lean function that PictureChunks comes to answers true at every input. -/
import Derived.Test.YtfcamlibbfnldaaGreatSD
import Derived.Test.YtfcamlibbfnldaaGreatAmC
import Derived.KernelRfl
set_option linter.unusedSimpArgs false
set_option linter.unusedVariables false
set_option linter.unusedSectionVars false
set_option maxRecDepth 100000
namespace Go.Proofs.YtfcamlibbfnldaaGreat.Am
open Go.Am
theorem toList_data (s : ByteArray) : s.toList = s.data.toList := by
  exact ByteArray.toList_eq s
theorem bytesOf_eq (s : ByteArray) : bytesOf s = s.data.toList.map fun x => (x.toNat : Int) := by
  unfold bytesOf; rw [toList_data]
theorem within_nat {i n : Nat} (h : i < n) : within (i : Int) n = true := by unfold within; simp only [decide_eq_true_eq]; omega
theorem get_int {L : List Int} {i : Nat} (h : i < L.length) : L[i]? = some (L.getD i 0) := by rw [List.getD, List.getElem?_eq_getElem h]; rfl
theorem string_bytes (s : ByteArray) : stringOf (bytesOf s) = s := by
  rw [bytesOf_eq]
  unfold stringOf
  apply ByteArray.ext
  show ((s.data.toList.map fun (x : UInt8) => ((x.toNat : Nat) : Int)).map fun (n : Int) => UInt8.ofNat n.toNat).toArray = s.data
  rw [List.map_map]
  have : (fun (n : Int) => UInt8.ofNat n.toNat) ∘ (fun (x : UInt8) => ((x.toNat : Nat) : Int)) = id := by
    funext x
    show UInt8.ofNat ((x.toNat : Int).toNat) = x
    rw [Int.toNat_natCast, UInt8.ofNat_toNat]
  rw [this, List.map_id]
theorem stringOf_append (xs ys : List Int) : stringOf xs ++ stringOf ys = stringOf (xs ++ ys) := by
  unfold stringOf
  apply ByteArray.ext
  simp
theorem stringOf_size (xs : List Int) : (stringOf xs).size = xs.length := by
  unfold stringOf
  show (List.toArray _).size = _
  simp
theorem bytes_string (l : List Int) (h : ∀ x ∈ l, 0 ≤ x ∧ x < 256) : bytesOf (stringOf l) = l := by
  rw [bytesOf_eq]
  unfold stringOf
  show ((l.map fun n => UInt8.ofNat n.toNat).map fun (x : UInt8) => ((x.toNat : Nat) : Int)) = l
  rw [List.map_map]
  conv => rhs; rw [← List.map_id l]
  apply List.map_congr_left
  intro x hx
  obtain ⟨h0, h1⟩ := h x hx
  show (((UInt8.ofNat x.toNat).toNat : Nat) : Int) = x
  rw [UInt8.toNat_ofNat']
  omega
theorem F231_four (a b c d : Int) : F231 200000 (0, 4, [a, b, c, d]) = some [d, c, b, a] := by
  have h3 : ∀ (i j : Int) (l : List Int), ¬ i < j → F231_6 200000 (199997 + 1) (i, j, 0, 4, l) = some l := by
    intro i j l h
    show B231_6 200000 (F231_6 200000 199997) _ = _
    generalize F231_6 200000 199997 = G
    simp only [B231_6, iteP_eq]
    rw [if_neg (by simpa using h)]
  have h2 : F231_6 200000 (199998 + 1) (1, 2, 0, 4, [d, b, c, a]) = some [d, c, b, a] := by
    show B231_6 200000 (F231_6 200000 (199997 + 1)) _ = _
    have hn := h3 2 1 [d, c, b, a] (by decide)
    generalize F231_6 200000 (199997 + 1) = G at *
    simp only [B231_6, iteP_eq]
    have w1 : within (1 : Int) 4 = true := rfl
    have w2 : within (2 : Int) 4 = true := rfl
    rw [if_pos (by decide), if_pos w2]
    show Option.bind (some c) _ = _
    rw [Option.bind_some, if_pos w1]
    show Option.bind (some b) _ = _
    rw [Option.bind_some, if_pos w1]
    show Option.bind (some b) _ = _
    rw [Option.bind_some, if_pos w2]
    show Option.bind (some c) _ = _
    rw [Option.bind_some, show IntKind.wrap .i64 ((1 : Int) + 1) = 2 from rfl, show IntKind.wrap .i64 ((2 : Int) - 1) = 1 from rfl]
    show Option.bind (G (2, 1, 0, 4, [d, c, b, a])) _ = _
    rw [hn]
    rfl
  have h1 : F231_6 200000 (199999 + 1) (0, 3, 0, 4, [a, b, c, d]) = some [d, c, b, a] := by
    show B231_6 200000 (F231_6 200000 (199998 + 1)) _ = _
    generalize F231_6 200000 (199998 + 1) = G at *
    simp only [B231_6, iteP_eq]
    have w1 : within (0 : Int) 4 = true := rfl
    have w2 : within (3 : Int) 4 = true := rfl
    rw [if_pos (by decide), if_pos w2]
    show Option.bind (some d) _ = _
    rw [Option.bind_some, if_pos w1]
    show Option.bind (some a) _ = _
    rw [Option.bind_some, if_pos w1]
    show Option.bind (some a) _ = _
    rw [Option.bind_some, if_pos w2]
    show Option.bind (some d) _ = _
    rw [Option.bind_some, show IntKind.wrap .i64 ((0 : Int) + 1) = 1 from rfl, show IntKind.wrap .i64 ((3 : Int) - 1) = 2 from rfl]
    show Option.bind (G (1, 2, 0, 4, [d, b, c, a])) _ = _
    rw [h2]
    rfl
  simp only [F231]
  rw [show IntKind.wrap .i64 (((4 : Nat) : Int) - 1) = 3 from rfl]
  show Option.bind (F231_6 200000 (199999 + 1) _) _ = _
  rw [h1, Option.bind_some]
def by4 (n k : Nat) : Int := ((n / 256 ^ k % 256 : Nat) : Int)
def put4 (n : Nat) : ByteArray := stringOf [by4 n 3, by4 n 2, by4 n 1, by4 n 0]
theorem put4_size (n : Nat) : (put4 n).size = 4 := by unfold put4; rw [stringOf_size]; rfl
theorem by4_range (n k : Nat) : 0 ≤ by4 n k ∧ by4 n k < 256 := by unfold by4; omega
theorem fdiv_nat (n m : Nat) : Int.fdiv (n : Int) (m : Int) = ((n / m : Nat) : Int) := by
  rw [Int.fdiv_eq_ediv_of_nonneg _ (by omega)]; rfl
theorem put_step (n k : Nat) (hk : k ≤ 3) : IntKind.wrap .u8 (Int.fdiv (n : Int) ((2 : Int) ^ min (Int.toNat (IntKind.wrap .i64 ((8 : Int) * (k : Int)))) 64)) = by4 n k := by
  have w : IntKind.wrap .i64 ((8 : Int) * (k : Int)) = ((8 * k : Nat) : Int) := by rw [wrap_i64 (by omega) (by omega)]; omega
  have e : (2 : Int) ^ min (Int.toNat ((8 * k : Nat) : Int)) 64 = ((256 ^ k : Nat) : Int) := by
    rcases (by omega : k = 0 ∨ k = 1 ∨ k = 2 ∨ k = 3) with rfl | rfl | rfl | rfl <;> rfl
  rw [w, e, fdiv_nat, wrap_u8]
  unfold by4
  omega
theorem put_round (f : Nat) (n k : Nat) (hk : k ≤ 3) (l : List Int) (hl : l.length = 4) :
    F164_122 200000 (f + 1) ((k : Int), 4, (n : Int), l) = F164_122 200000 f (((k + 1 : Nat) : Int), 4, (n : Int), l.set k (by4 n k)) := by
  have w : IntKind.wrap .i64 ((8 : Int) * (k : Int)) = ((8 * k : Nat) : Int) := by rw [wrap_i64 (by omega) (by omega)]; omega
  have w2 : IntKind.wrap .i64 ((k : Int) + 1) = ((k + 1 : Nat) : Int) := by rw [wrap_i64 (by omega) (by omega)]; omega
  have hp := put_step n k hk
  show B164_122 200000 (F164_122 200000 f) _ = _
  generalize F164_122 200000 f = G
  simp only [B164_122, iteP_eq]
  rw [ifT (by omega), if_neg (by rw [w]; simp only [decide_eq_true_eq]; omega), if_pos (within_nat (by omega)), Int.toNat_natCast, get_int (by omega), Option.bind_some, hp, w2, Option.bind_fun_some]
theorem F100_put {n : Nat} (hn : n < 4294967296) : F100 200000 (4, (n : Int)) = some (put4 n, 0) := by
  have hloop : F164_122 200000 200000 (0, 4, (n : Int), [0, 0, 0, 0]) = some [by4 n 0, by4 n 1, by4 n 2, by4 n 3] := by
    have h0 := put_round 199999 n 0 (by decide) [0, 0, 0, 0] rfl
    have h1 := put_round 199998 n 1 (by decide) [by4 n 0, 0, 0, 0] rfl
    have h2 := put_round 199997 n 2 (by decide) [by4 n 0, by4 n 1, 0, 0] rfl
    have h3 := put_round 199996 n 3 (by decide) [by4 n 0, by4 n 1, by4 n 2, 0] rfl
    have hend : F164_122 200000 (199995 + 1) (((4 : Nat) : Int), 4, (n : Int), [by4 n 0, by4 n 1, by4 n 2, by4 n 3]) = some [by4 n 0, by4 n 1, by4 n 2, by4 n 3] := by
      show B164_122 200000 (F164_122 200000 199995) _ = _
      generalize F164_122 200000 199995 = G
      simp only [B164_122, iteP_eq]
      rw [if_neg (by simp)]
    exact h0.trans (h1.trans (h2.trans (h3.trans hend)))
  have hr : ∀ x ∈ [by4 n 0, by4 n 1, by4 n 2, by4 n 3], 0 ≤ x ∧ x < 256 := by
    intro x hx
    simp only [List.mem_cons, List.not_mem_nil, or_false] at hx
    rcases hx with rfl | rfl | rfl | rfl <;> exact by4_range _ _
  have hb := bytes_string _ hr
  have w : IntKind.wrap .i64 ((8 : Int) * 4) = 32 := rfl
  have hsh : Int.fdiv (n : Int) ((2 : Int) ^ min (Int.toNat 32) 64) = 0 := by
    show Int.fdiv (n : Int) ((4294967296 : Nat) : Int) = 0
    rw [fdiv_nat, Nat.div_eq_of_lt hn]
    rfl
  have hlit : F164 200000 (4, (n : Int)) = some (stringOf [by4 n 0, by4 n 1, by4 n 2, by4 n 3], 0) := by
    simp only [F164, F230, iteP_eq]
    rw [if_neg (by decide), if_neg (by decide), Option.bind_some, if_neg (by decide), ifF (by omega), w, if_neg (by decide), hsh, if_neg (by decide), if_pos (by decide)]
    show Option.bind (F164_122 200000 200000 (0, 4, (n : Int), [0, 0, 0, 0])) _ = _
    rw [hloop, Option.bind_some]
  have htur : F165 200000 (stringOf [by4 n 0, by4 n 1, by4 n 2, by4 n 3]) = some (put4 n) := by
    simp only [F165, iteP_eq]
    rw [if_pos (by rw [stringOf_size]; rfl), hb]
    show Option.bind (F231 200000 (0, 4, [by4 n 0, by4 n 1, by4 n 2, by4 n 3])) _ = _
    rw [F231_four, Option.bind_some]
    rfl
  simp only [F100]
  rw [hlit, Option.bind_some]
  simp only
  rw [htur, Option.bind_some]
end Go.Proofs.YtfcamlibbfnldaaGreat.Am
set_option maxRecDepth 100000
namespace Go.Proofs.YtfcamlibbfnldaaGreat.Am
open Go.Am
def B (l : List UInt8) : ByteArray := ⟨l.toArray⟩
def ints (l : List UInt8) : List Int := l.map fun x => (x.toNat : Int)
theorem B_data (s : ByteArray) : s = B s.data.toList := by unfold B; rfl
theorem B_size (l : List UInt8) : (B l).size = l.length := by show (List.toArray l).size = _; simp
theorem B_ext (l : List UInt8) (a b : Nat) : (B l).extract a b = B ((l.drop a).take (b - a)) := by
  unfold B
  apply ByteArray.ext
  rw [ByteArray.data_extract]
  apply Array.ext'
  simp
theorem B_app (l k : List UInt8) : B l ++ B k = B (l ++ k) := by
  unfold B
  apply ByteArray.ext
  simp
theorem B_bytes (l : List UInt8) : bytesOf (B l) = ints l := by rw [bytesOf_eq]; unfold B ints; simp
theorem B_toList (l : List UInt8) : (B l).toList = l := by rw [toList_data]; unfold B; simp
theorem B_get (l : List UInt8) (i : Nat) : (B l)[i]? = l[i]? := by
  by_cases h : i < l.length
  · have hs : i < (B l).size := by rw [B_size]; exact h
    have e : (B l)[i]? = some ((B l)[i]) := by simp [hs]
    rw [e, List.getElem?_eq_getElem h]
    rfl
  · have hs : ¬ i < (B l).size := by rw [B_size]; exact h
    rw [List.getElem?_eq_none (by omega)]
    simp [hs]
theorem B_string (l : List UInt8) : stringOf (ints l) = B l := by rw [← B_bytes, string_bytes]
theorem ints_length (l : List UInt8) : (ints l).length = l.length := by unfold ints; simp
theorem w_u8 (x : UInt8) : IntKind.wrap .i64 (x.toNat : Int) = (x.toNat : Int) := by
  have := x.toNat_lt
  exact wrap_i64 (by omega) (by omega)
theorem w_i {n : Int} (h0 : -1000000000000000 ≤ n) (h : n ≤ 1000000000000000) : IntKind.wrap .i64 n = n := wrap_i64 (by omega) (by omega)
theorem F135_ok (l : List UInt8) (k p : Nat) (h : p + k ≤ l.length) (hl : l.length ≤ 200000000000000) : F135 200000 ((k : Int), B l, (p : Int), 0) = some (B ((l.drop p).take k), B l, ((p + k : Nat) : Int), 0) := by
  have w1 : IntKind.wrap .i64 (((B l).size : Int) - (p : Int)) = ((l.length - p : Nat) : Int) := by rw [B_size, w_i (by omega) (by omega)]; omega
  have w2 : IntKind.wrap .i64 ((p : Int) + (k : Int)) = ((p + k : Nat) : Int) := by rw [w_i (by omega) (by omega)]; omega
  have w3 : IntKind.wrap .i64 (((p + k : Nat) : Int) - (k : Int)) = (p : Int) := by rw [w_i (by omega) (by omega)]; omega
  simp only [F135, F86, iteP_eq, Option.bind_some, w1, w2, w3, Int.toNat_natCast]
  rw [ifF (by omega), ifF (by omega), if_neg (by decide), ifT (by rw [B_size]; omega), ifT (by omega), B_ext, show p + k - p = k by omega]
theorem F135_more (l : List UInt8) (k p : Nat) (h : l.length < p + k) (hp : p ≤ l.length) (hl : l.length ≤ 200000000000000) : F135 200000 ((k : Int), B l, (p : Int), 0) = some (B [], B l, (p : Int), 2) := by
  have w1 : IntKind.wrap .i64 (((B l).size : Int) - (p : Int)) = ((l.length - p : Nat) : Int) := by rw [B_size, w_i (by omega) (by omega)]; omega
  simp only [F135, F86, F206, iteP_eq, Option.bind_some, w1]
  rw [ifF (by omega), ifT (by omega), if_pos (by decide), Option.bind_some]
  simp only
  rw [if_pos (by decide)]
  rfl
theorem F135_err (l : List UInt8) (k p : Nat) (hp : p ≤ l.length) (hl : l.length ≤ 200000000000000) : F135 200000 ((k : Int), B l, (p : Int), 2) = some (B [], B l, (p : Int), 2) := by
  have w1 : IntKind.wrap .i64 (((B l).size : Int) - (p : Int)) = ((l.length - p : Nat) : Int) := by rw [B_size, w_i (by omega) (by omega)]; omega
  simp only [F135, F86, F206, iteP_eq, Option.bind_some, w1]
  rw [ifF (by omega)]
  by_cases h : l.length < p + k
  · rw [ifT (by omega), if_neg (by decide), Option.bind_some]
    simp only
    rw [if_pos (by decide)]
    rfl
  · rw [ifF (by omega), if_pos (by decide)]
    rfl
theorem F231_nil : F231 200000 (0, 0, []) = some [] := by
  simp only [F231]
  show Option.bind (F231_6 200000 (199999 + 1) _) _ = _
  show Option.bind (B231_6 200000 (F231_6 200000 199999) _) _ = _
  generalize F231_6 200000 199999 = G
  simp only [B231_6, iteP_eq]
  rw [if_neg (by decide), Option.bind_some]
theorem F165_B (l m : List UInt8) (hl : l.length ≤ 1000) (h : F231 200000 (0, l.length, ints l) = some (ints m)) : F165 200000 (B l) = some (B m) := by
  simp only [F165, iteP_eq]
  rw [ifT (by rw [B_size]; omega), B_bytes, ints_length, h, Option.bind_some, B_string]
def leV : List UInt8 → Nat
  | [] => 0
  | x :: r => x.toNat + 256 * leV r
theorem leV_lt : ∀ (l : List UInt8), leV l < 256 ^ l.length
  | [] => by decide
  | x :: r => by
    have := leV_lt r
    have := x.toNat_lt
    simp only [leV, List.length_cons, Nat.pow_succ]
    omega
theorem leV_snoc : ∀ (l : List UInt8) (x : UInt8), leV (l ++ [x]) = leV l + 256 ^ l.length * x.toNat
  | [], x => by simp [leV]
  | y :: r, x => by
    rw [List.cons_append, leV, leV, leV_snoc r x, List.length_cons, Nat.pow_succ, Nat.mul_add]
    rw [show 256 * (256 ^ r.length * x.toNat) = 256 ^ r.length * 256 * x.toNat by rw [Nat.mul_comm (256 ^ r.length) 256, Nat.mul_assoc]]
    omega
theorem num_loop (l : List UInt8) (hl : l.length ≤ 4) (s : ByteArray) (p e : Int) : ∀ (suf pre : List UInt8) (k : Nat), l = pre ++ suf → suf.length < k →
    F173_122 200000 k (((leV pre : Nat) : Int), ((pre.length : Nat) : Int), ((l.length : Nat) : Int), s, p, e, ints l) = some (((leV l : Nat) : Int), s, p, e)
  | [], pre, k + 1, h, _ => by
    have : pre = l := by rw [h]; simp
    subst this
    show B173_122 200000 (F173_122 200000 k) _ = _
    simp only [B173_122, iteP_eq]
    rw [ifF (by omega)]
  | x :: r, pre, k + 1, h, hk => by
    have hn : l.length = pre.length + r.length + 1 := by rw [h]; simp; omega
    have ih := num_loop l hl s p e r (pre ++ [x]) k (by rw [h]; simp) (by simp at hk; omega)
    rw [show (pre ++ [x]).length = pre.length + 1 by simp] at ih
    show B173_122 200000 (F173_122 200000 k) _ = _
    generalize F173_122 200000 k = G at *
    simp only [B173_122, iteP_eq]
    have hg : (ints l)[pre.length]? = some (x.toNat : Int) := by
      rw [h]; unfold ints; simp
    have hw : IntKind.wrap .i64 ((8 : Int) * ((pre.length : Nat) : Int)) = ((8 * pre.length : Nat) : Int) := by rw [w_i (by omega) (by omega)]; omega
    have hw2 : IntKind.wrap .i64 (((pre.length : Nat) : Int) + 1) = ((pre.length + 1 : Nat) : Int) := by rw [w_i (by omega) (by omega)]; omega
    have ho := or_eq (A := leV pre) (B := x.toNat) (i := 8 * pre.length) (j := 8) (by have := leV_lt pre; rw [show (256 : Nat) = 2 ^ 8 from rfl, ← Nat.pow_mul] at this; exact this) (by have := x.toNat_lt; omega) (by omega)
    rw [ifT (by omega), if_pos (within_nat (by rw [ints_length]; omega)), Int.toNat_natCast, hg, Option.bind_some, hw, ifF (by omega), w_u8, ho, hw2]
    have e2 : leV pre + 2 ^ (8 * pre.length) * x.toNat = leV (pre ++ [x]) := by
      rw [leV_snoc, show (256 : Nat) = 2 ^ 8 from rfl, ← Nat.pow_mul]
    rw [e2, ih, Option.bind_some]
theorem F173_num (l m : List UInt8) (hl : l.length ≤ 4) (hm : m.length = l.length) (k : Int) (s : ByteArray) (p e : Int) (s0 : ByteArray) (p0 e0 : Int) (hw : F230 200000 k = some true) (hB : F135 200000 (k, s0, p0, e0) = some (B l, s, p, e)) (ht : F165 200000 (B l) = some (B m)) :
    F105 200000 (k, s0, p0, e0) = some (((leV m : Nat) : Int), s, p, e) := by
  have hloop := num_loop m (by omega) s p e m [] 200000 rfl (by omega)
  simp only [F105, F173, iteP_eq]
  rw [hw, Option.bind_some]
  simp only [Bool.not_true, Bool.false_eq_true, if_false]
  rw [hB, Option.bind_some]
  simp only
  rw [ht, Option.bind_some, ifT (by rw [B_size]; omega), B_bytes, ints_length]
  show Option.bind (Option.bind (F173_122 200000 200000 (((leV [] : Nat) : Int), ((([] : List UInt8).length : Nat) : Int), ((m.length : Nat) : Int), s, p, e, ints m)) _) _ = _
  rw [hloop, Option.bind_some, Option.bind_some]
theorem turn0 : F165 200000 (B []) = some (B []) := F165_B [] [] (by decide) F231_nil
theorem turn4 (a b c d : UInt8) : F165 200000 (B [a, b, c, d]) = some (B [d, c, b, a]) := F165_B _ _ (by simp) (F231_four _ _ _ _)
theorem int4_more (l : List UInt8) (p : Nat) (hp : p ≤ l.length) (h : l.length < p + 4) (hl : l.length ≤ 200000000000000) : F105 200000 (4, B l, (p : Int), 0) = some (0, B l, (p : Int), 2) :=
  F173_num [] [] (by simp) rfl 4 _ _ _ _ _ _ rfl (F135_more l 4 p (by omega) hp hl) turn0
theorem int4_err (l : List UInt8) (p : Nat) (hp : p ≤ l.length) (hl : l.length ≤ 200000000000000) : F105 200000 (4, B l, (p : Int), 2) = some (0, B l, (p : Int), 2) :=
  F173_num [] [] (by simp) rfl 4 _ _ _ _ _ _ rfl (F135_err l 4 p hp hl) turn0
def beV (l : List UInt8) : Nat := leV l.reverse
theorem four_of {l : List UInt8} (h : l.length = 4) : ∃ a b c d, l = [a, b, c, d] := by
  match l, h with
  | [a, b, c, d], _ => exact ⟨a, b, c, d, rfl⟩
theorem int4_ok (l : List UInt8) (p : Nat) (h : p + 4 ≤ l.length) (hl : l.length ≤ 200000000000000) : F105 200000 (4, B l, (p : Int), 0) = some (((beV ((l.drop p).take 4) : Nat) : Int), B l, ((p + 4 : Nat) : Int), 0) := by
  have hB := F135_ok l 4 p (by omega) hl
  obtain ⟨a, b, c, d, e⟩ := four_of (l := (l.drop p).take 4) (by rw [List.length_take, List.length_drop]; omega)
  rw [e] at hB ⊢
  exact F173_num [a, b, c, d] [d, c, b, a] (by simp) rfl 4 _ _ _ _ _ _ rfl hB (turn4 a b c d)
theorem beV_lt {l : List UInt8} (h : l.length ≤ 4) : beV l < 4294967296 := by
  have := leV_lt l.reverse
  rw [List.length_reverse] at this
  have h2 : 256 ^ l.length ≤ 256 ^ 4 := Nat.pow_le_pow_right (by decide) h
  unfold beV
  have : (256 : Nat) ^ 4 = 4294967296 := by decide
  omega
end Go.Proofs.YtfcamlibbfnldaaGreat.Am
set_option maxRecDepth 100000
namespace Go.Proofs.YtfcamlibbfnldaaGreat.Am
open Go.Am
noncomputable def tabL : List Int := (F118 200000 ()).getD []
theorem make_tab : F118 200000 () = some tabL := by kernel_rfl
theorem tab_len : tabL.length = 256 := by kernel_rfl
noncomputable def chkT (i : Nat) : Bool := match F187 200000 (i : Int) with
  | some v => decide (v = tabL.getD i 0) && (decide (0 ≤ v) && decide (v < 4294967296))
  | none => false
theorem tab_all : (List.range 256).all chkT = true := by kernel_rfl
end Go.Proofs.YtfcamlibbfnldaaGreat.Am
set_option maxRecDepth 100000
namespace Go.Proofs.YtfcamlibbfnldaaGreat.Am
open Go.Am
theorem beV_snoc (l : List UInt8) (x : UInt8) : beV (l ++ [x]) = x.toNat + 256 * beV l := by unfold beV; simp [leV]
theorem F56_loop (l : List UInt8) (hl : l.length ≤ 4) : ∀ (suf pre : List UInt8) (k : Nat), l = pre ++ suf → suf.length < k →
    F56_58 200000 k (((beV pre : Nat) : Int), ((pre.length : Nat) : Int), B l) = some ((beV l : Nat) : Int)
  | [], pre, k + 1, h, _ => by
    have : pre = l := by rw [h]; simp
    subst this
    show B56_58 200000 (F56_58 200000 k) _ = _
    simp only [B56_58, iteP_eq]
    rw [ifF (by rw [B_size]; omega)]
  | x :: r, pre, k + 1, h, hk => by
    have hn : l.length = pre.length + r.length + 1 := by rw [h]; simp; omega
    have ih := F56_loop l hl r (pre ++ [x]) k (by rw [h]; simp) (by simp at hk; omega)
    rw [show (pre ++ [x]).length = pre.length + 1 by simp, beV_snoc] at ih
    show B56_58 200000 (F56_58 200000 k) _ = _
    generalize F56_58 200000 k = G at *
    simp only [B56_58, iteP_eq]
    have hg : l[pre.length]? = some x := by rw [h]; simp
    have hb := beV_lt (l := pre) (by omega)
    have := x.toNat_lt
    rw [ifT (by rw [B_size]; omega), ifT (by omega), Int.toNat_natCast, B_get, hg, Option.bind_some, w_u8, w_i (n := ((beV pre : Nat) : Int) * 256) (by omega) (by omega), w_i (by omega) (by omega), w_i (by omega) (by omega)]
    rw [show ((beV pre : Nat) : Int) * 256 + (x.toNat : Int) = ((x.toNat + 256 * beV pre : Nat) : Int) by omega, show ((pre.length : Nat) : Int) + 1 = ((pre.length + 1 : Nat) : Int) by omega, ih, Option.bind_some]
theorem F56_be (l : List UInt8) (hl : l.length ≤ 4) : F56 200000 (B l) = some ((beV l : Nat) : Int) := by
  simp only [F56]
  have := F56_loop l hl l [] 200000 rfl (by omega)
  show Option.bind (F56_58 200000 200000 (((beV [] : Nat) : Int), ((([] : List UInt8).length : Nat) : Int), B l)) _ = _
  rw [this, Option.bind_some]
theorem F60_round (k : Nat) (L : List Int) (hL : L.length ≤ 4) (m i : Nat) (hi : i < 4) (hm : m < 4294967296) :
    F60_122 200000 (k + 1) (stringOf L, (m : Int), (i : Int), 4) = F60_122 200000 k (stringOf (((m % 256 : Nat) : Int) :: L), ((m / 256 : Nat) : Int), ((i + 1 : Nat) : Int), 4) := by
  show B60_122 200000 (F60_122 200000 k) _ = _
  generalize F60_122 200000 k = G
  simp only [B60_122, iteP_eq]
  have t1 : Int.tmod (m : Int) 256 = ((m % 256 : Nat) : Int) := rfl
  have t2 : Int.tdiv (m : Int) 256 = ((m / 256 : Nat) : Int) := rfl
  have e : IntKind.wrap .u8 (Int.tmod (m : Int) 256) = ((m % 256 : Nat) : Int) := by rw [t1, wrap_u8]; omega
  rw [ifT (by omega), e, ifF (by rw [stringOf_size, stringOf_size]; simp; omega), t2, w_i (n := ((m / 256 : Nat) : Int)) (by omega) (by omega), w_i (by omega) (by omega), stringOf_append, Option.bind_fun_some]
  rfl
theorem F60_put {n : Nat} (hn : n < 4294967296) : F60 200000 (4, (n : Int)) = some (put4 n, 0) := by
  simp only [F60, F120, F121, iteP_eq]
  rw [if_neg (by decide), if_neg (by decide), Option.bind_some, if_neg (by decide), ifF (by omega), if_neg (by decide), if_neg (by decide), Option.bind_some, ifF (by omega)]
  have h0 := F60_round 199999 [] (by simp) n 0 (by omega) hn
  have h1 := F60_round 199998 [((n % 256 : Nat) : Int)] (by simp) (n / 256) 1 (by omega) (by omega)
  have h2 := F60_round 199997 [((n / 256 % 256 : Nat) : Int), ((n % 256 : Nat) : Int)] (by simp) (n / 256 / 256) 2 (by omega) (by omega)
  have h3 := F60_round 199996 [((n / 256 / 256 % 256 : Nat) : Int), ((n / 256 % 256 : Nat) : Int), ((n % 256 : Nat) : Int)] (by simp) (n / 256 / 256 / 256) 3 (by omega) (by omega)
  have h4 : ∀ s m, F60_122 200000 (199995 + 1) (s, m, ((4 : Nat) : Int), 4) = some s := by
    intro s m
    show B60_122 200000 (F60_122 200000 199995) _ = _
    simp only [B60_122, iteP_eq]
    rw [if_neg (by decide)]
  have hall : F60_122 200000 200000 (ByteArray.mk #[], (n : Int), 0, 4) = some (put4 n) := by
    refine (show F60_122 200000 200000 (ByteArray.mk #[], (n : Int), 0, 4) = F60_122 200000 (199999 + 1) (stringOf [], (n : Int), ((0 : Nat) : Int), 4) from rfl).trans (h0.trans (h1.trans (h2.trans (h3.trans ((h4 _ _).trans ?_)))))
    unfold put4 by4
    have e1 : n / 256 ^ 3 = n / 256 / 256 / 256 := by rw [Nat.div_div_eq_div_mul, Nat.div_div_eq_div_mul]
    have e2 : n / 256 ^ 2 = n / 256 / 256 := by rw [Nat.div_div_eq_div_mul]
    have e3 : n / 256 ^ 1 = n / 256 := by rw [Nat.pow_one]
    have e4 : n / 256 ^ 0 = n := by rw [Nat.pow_zero, Nat.div_one]
    rw [e1, e2, e3, e4]
  rw [hall, Option.bind_some]
theorem F58_put {n : Nat} (hn : n < 4294967296) : F58 200000 (n : Int) = some (put4 n) := by
  simp only [F58]
  rw [F100_put hn, Option.bind_some]
def idx (c : Int) (y : UInt8) : Int := IntKind.wrap .i64 ((BitVec.toNat (BitVec.ofInt 64 (IntKind.wrap .i64 ((BitVec.toNat (BitVec.ofInt 64 c ^^^ BitVec.ofInt 64 (IntKind.wrap .i64 (y.toNat : Int))) : Nat) : Int)) &&& BitVec.ofInt 64 255) : Nat) : Int)
theorem idx_lt (c : Int) (y : UInt8) : ∃ k : Nat, idx c y = (k : Int) ∧ k < 256 := by
  unfold idx
  generalize IntKind.wrap .i64 ((BitVec.toNat (BitVec.ofInt 64 c ^^^ BitVec.ofInt 64 (IntKind.wrap .i64 (y.toNat : Int))) : Nat) : Int) = z
  have h : (BitVec.ofInt 64 z &&& BitVec.ofInt 64 255).toNat ≤ 255 := by
    rw [BitVec.toNat_and]
    exact Nat.le_trans Nat.and_le_right (by decide)
  exact ⟨_, w_i (by omega) (by omega), by omega⟩
noncomputable def crcN (c : Int) (y : UInt8) : Int := IntKind.wrap .i64 ((BitVec.toNat (BitVec.ofInt 64 (tabL.getD (idx c y).toNat 0) ^^^ BitVec.ofInt 64 (Int.fdiv c 256)) : Nat) : Int)
theorem chk_at {i : Nat} (hi : i < 256) : F187 200000 (i : Int) = some (tabL.getD i 0) ∧ 0 ≤ tabL.getD i 0 ∧ tabL.getD i 0 < 4294967296 := by
  have h := List.all_eq_true.1 tab_all i (List.mem_range.2 hi)
  unfold chkT at h
  cases hf : F187 200000 (i : Int) with
  | none => rw [hf] at h; cases h
  | some v =>
    rw [hf] at h
    simp only [Bool.and_eq_true, decide_eq_true_eq] at h
    rw [← h.1]
    exact ⟨rfl, h.2⟩
theorem F117_loop (l : List UInt8) (hl : l.length ≤ 100000) : ∀ (suf pre : List UInt8) (k : Nat) (c : Int), l = pre ++ suf → suf.length < k →
    F117_58 200000 k (c, ((pre.length : Nat) : Int), B l) = some (suf.foldl crcN c)
  | [], pre, k + 1, c, h, _ => by
    have : l.length = pre.length := by rw [h]; simp
    show B117_58 200000 (F117_58 200000 k) _ = _
    simp only [B117_58, iteP_eq]
    rw [ifF (by rw [B_size]; omega)]
    rfl
  | x :: r, pre, k + 1, c, h, hk => by
    have hn : l.length = pre.length + r.length + 1 := by rw [h]; simp; omega
    have ih := fun c => F117_loop l hl r (pre ++ [x]) k c (by rw [h]; simp) (by simp at hk; omega)
    rw [show (pre ++ [x]).length = pre.length + 1 by simp] at ih
    show B117_58 200000 (F117_58 200000 k) _ = _
    generalize F117_58 200000 k = G at *
    simp only [B117_58, iteP_eq]
    have hg : l[pre.length]? = some x := by rw [h]; simp
    obtain ⟨q, hq, hq2⟩ := idx_lt c x
    rw [ifT (by rw [B_size]; omega), ifT (by omega), Int.toNat_natCast, B_get, hg, Option.bind_some]
    have e : F187 200000 (idx c x) = some (tabL.getD (idx c x).toNat 0) := by rw [hq, Int.toNat_natCast]; exact (chk_at hq2).1
    unfold idx at e
    rw [e, Option.bind_some, w_i (n := ((pre.length : Nat) : Int) + 1) (by omega) (by omega), show ((pre.length : Nat) : Int) + 1 = ((pre.length + 1 : Nat) : Int) by omega, ih, Option.bind_some]
    rfl
def ff : Int := 4294967295
theorem mask_ff : IntKind.wrap .i64 ((BitVec.toNat (BitVec.ofInt 64 4294967295 &&& BitVec.ofInt 64 4294967295) : Nat) : Int) = ff := by decide
noncomputable def sumV (l : List UInt8) : Int := IntKind.wrap .i64 ((BitVec.toNat (BitVec.ofInt 64 (l.foldl crcN ff) ^^^ BitVec.ofInt 64 4294967295) : Nat) : Int)
theorem F57_sum (l : List UInt8) (hl : l.length ≤ 100000) : F57 200000 (B l) = some (sumV l) := by
  have h := F117_loop l hl l [] 200000 ff rfl (by omega)
  simp only [F57, F117]
  rw [mask_ff]
  show Option.bind (Option.bind (F117_58 200000 200000 (ff, ((([] : List UInt8).length : Nat) : Int), B l)) _) _ = _
  rw [h, Option.bind_some, Option.bind_some]
  rfl
theorem nat_of {c : Int} (h : 0 ≤ c) : ∃ n : Nat, c = (n : Int) := Int.eq_ofNat_of_zero_le h
theorem xor_range {a b : Int} (ha : 0 ≤ a ∧ a < 4294967296) (hb : 0 ≤ b ∧ b < 4294967296) :
    0 ≤ IntKind.wrap .i64 ((BitVec.toNat (BitVec.ofInt 64 a ^^^ BitVec.ofInt 64 b) : Nat) : Int) ∧ IntKind.wrap .i64 ((BitVec.toNat (BitVec.ofInt 64 a ^^^ BitVec.ofInt 64 b) : Nat) : Int) < 4294967296 := by
  obtain ⟨n, rfl⟩ := nat_of ha.1
  obtain ⟨m, rfl⟩ := nat_of hb.1
  have e : (BitVec.ofInt 64 (n : Int) ^^^ BitVec.ofInt 64 (m : Int)).toNat = n ^^^ m := by
    rw [BitVec.toNat_xor, BitVec.ofInt_natCast, BitVec.ofInt_natCast, BitVec.toNat_ofNat, BitVec.toNat_ofNat, Nat.mod_eq_of_lt (by omega), Nat.mod_eq_of_lt (by omega)]
  have h : n ^^^ m < 2 ^ 32 := Nat.xor_lt_two_pow (by omega) (by omega)
  rw [e, w_i (by omega) (by omega)]
  omega
theorem crcN_range {c : Int} (h : 0 ≤ c ∧ c < 4294967296) (y : UInt8) : 0 ≤ crcN c y ∧ crcN c y < 4294967296 := by
  unfold crcN
  obtain ⟨q, hq, hq2⟩ := idx_lt c y
  rw [hq, Int.toNat_natCast]
  obtain ⟨n, rfl⟩ := nat_of h.1
  refine xor_range (chk_at hq2).2 ?_
  rw [show Int.fdiv (n : Int) 256 = ((n / 256 : Nat) : Int) from fdiv_nat n 256]
  omega
theorem fold_range : ∀ (l : List UInt8) {c : Int}, 0 ≤ c ∧ c < 4294967296 → 0 ≤ l.foldl crcN c ∧ l.foldl crcN c < 4294967296
  | [], c, h => h
  | x :: r, c, h => fold_range r (crcN_range h x)
theorem ff_range : 0 ≤ ff ∧ ff < 4294967296 := by decide
theorem sumV_range (l : List UInt8) : 0 ≤ sumV l ∧ sumV l < 4294967296 := xor_range (fold_range l ff_range) (by decide)
theorem mask {c : Int} (h : 0 ≤ c ∧ c < 4294967296) : IntKind.wrap .i64 ((BitVec.toNat (BitVec.ofInt 64 c &&& BitVec.ofInt 64 4294967295) : Nat) : Int) = c := by
  obtain ⟨n, rfl⟩ := nat_of h.1
  have e : (BitVec.ofInt 64 (n : Int) &&& BitVec.ofInt 64 4294967295).toNat = n := by
    rw [BitVec.toNat_and, BitVec.ofInt_natCast, BitVec.toNat_ofNat, Nat.mod_eq_of_lt (by omega)]
    rw [show (BitVec.ofInt 64 4294967295).toNat = 2 ^ 32 - 1 from rfl, Nat.and_two_pow_sub_one_eq_mod, Nat.mod_eq_of_lt (by omega)]
  rw [e, w_i (by omega) (by omega)]
theorem F189_loop (l : List UInt8) (hl : l.length ≤ 100000) : ∀ (suf pre : List UInt8) (k : Nat) (c : Int), l = pre ++ suf → suf.length < k →
    F189_122b 200000 k (c, ((pre.length : Nat) : Int), ((l.length : Nat) : Int), tabL, B l) = some (suf.foldl crcN c)
  | [], pre, k + 1, c, h, _ => by
    have : l.length = pre.length := by rw [h]; simp
    show B189_122b 200000 (F189_122b 200000 k) _ = _
    simp only [B189_122b, iteP_eq]
    rw [ifF (by omega)]
    rfl
  | x :: r, pre, k + 1, c, h, hk => by
    have hn : l.length = pre.length + r.length + 1 := by rw [h]; simp; omega
    have ih := fun c => F189_loop l hl r (pre ++ [x]) k c (by rw [h]; simp) (by simp at hk; omega)
    rw [show (pre ++ [x]).length = pre.length + 1 by simp] at ih
    show B189_122b 200000 (F189_122b 200000 k) _ = _
    generalize F189_122b 200000 k = G at *
    simp only [B189_122b, iteP_eq]
    have hg : l[pre.length]? = some x := by rw [h]; simp
    obtain ⟨q, hq, hq2⟩ := idx_lt c x
    have e : within (idx c x) tabL.length = true := by rw [hq, tab_len]; exact within_nat hq2
    have e2 : tabL[(idx c x).toNat]? = some (tabL.getD (idx c x).toNat 0) := by rw [hq, Int.toNat_natCast]; exact get_int (by rw [tab_len]; exact hq2)
    unfold idx at e e2
    rw [ifT (by omega), ifT (by omega), Int.toNat_natCast, B_get, hg, Option.bind_some, if_pos e, e2, Option.bind_some, w_i (n := ((pre.length : Nat) : Int) + 1) (by omega) (by omega), show ((pre.length : Nat) : Int) + 1 = ((pre.length + 1 : Nat) : Int) by omega, ih, Option.bind_some]
    rfl
theorem F189_more (l : List UInt8) (hl : l.length ≤ 100000) {c : Int} (h : 0 ≤ c ∧ c < 4294967296) : F189 200000 (tabL, c, B l) = some (l.foldl crcN c) := by
  have hh := F189_loop l hl l [] 200000 c rfl (by omega)
  simp only [F189, iteP_eq]
  rw [if_neg (by rw [tab_len]; decide), mask h, B_size]
  show Option.bind (F189_122b 200000 200000 (c, ((([] : List UInt8).length : Nat) : Int), ((l.length : Nat) : Int), tabL, B l)) _ = _
  rw [hh, Option.bind_some]
theorem F59_sum (a b : List UInt8) (ha : a.length ≤ 100000) (hb : b.length ≤ 100000) : F59 200000 (B a, B b) = some (sumV (a ++ b)) := by
  simp only [F59, F119]
  rw [make_tab, Option.bind_some]
  have h3 : ∀ c : Int, F119_58 200000 (199997 + 1) (c, 2, 2, [B a, B b], tabL) = some c := by
    intro c
    show B119_58 200000 (F119_58 200000 199997) _ = _
    simp only [B119_58, iteP_eq]
    rw [if_neg (by decide)]
  have h2 : ∀ c : Int, 0 ≤ c ∧ c < 4294967296 → F119_58 200000 (199998 + 1) (c, 1, 2, [B a, B b], tabL) = some (b.foldl crcN c) := by
    intro c hc
    show B119_58 200000 (F119_58 200000 (199997 + 1)) _ = _
    generalize F119_58 200000 (199997 + 1) = G at *
    simp only [B119_58, iteP_eq]
    rw [if_pos (by decide), if_pos (by rfl)]
    show Option.bind (some (B b)) _ = _
    rw [Option.bind_some, F189_more b hb hc, Option.bind_some]
    show Option.bind (G (_, 2, 2, [B a, B b], tabL)) _ = _
    rw [h3, Option.bind_some]
  have h1 : F119_58 200000 (199999 + 1) (ff, 0, 2, [B a, B b], tabL) = some ((a ++ b).foldl crcN ff) := by
    show B119_58 200000 (F119_58 200000 (199998 + 1)) _ = _
    generalize F119_58 200000 (199998 + 1) = G at *
    simp only [B119_58, iteP_eq]
    rw [if_pos (by decide), if_pos (by rfl)]
    show Option.bind (some (B a)) _ = _
    rw [Option.bind_some, F189_more a ha ff_range, Option.bind_some]
    show Option.bind (G (_, 1, 2, [B a, B b], tabL)) _ = _
    rw [h2 _ (fold_range a ff_range), Option.bind_some, List.foldl_append]
  show Option.bind (Option.bind (F119_58 200000 (199999 + 1) (ff, 0, 2, [B a, B b], tabL)) _) _ = _
  rw [h1, Option.bind_some, Option.bind_some]
  rfl
theorem chunk_same (kind data : List UInt8) (hd : data.length ≤ 1000) : ∃ r, F18 200000 (B kind, B data) = some r ∧ F19 200000 (B kind, B data) = some r := by
  simp only [F18, F19, iteP_eq, B_size]
  by_cases hk : kind.length = 4
  · obtain ⟨s, hs⟩ := nat_of (sumV_range (kind ++ data)).1
    have hs2 := (sumV_range (kind ++ data)).2
    rw [hs] at hs2
    have e : ((kind.length : Int) != 4) = false := by rw [hk]; rfl
    have p1 : ∀ {x y : ByteArray}, (x ++ y).size = x.size + y.size := fun {x y} => ByteArray.size_append
    have p2 := put4_size data.length
    have p3 := put4_size s
    rw [e]
    simp only [Bool.false_eq_true, if_false]
    rw [F58_put (by omega), Option.bind_some, F60_put (by omega), Option.bind_some, F59_sum _ _ (by omega) (by omega), B_app, F57_sum _ (by rw [List.length_append]; omega)]
    simp only [Option.bind_some, p1, p2, B_size]
    rw [hs, F58_put (by omega), F60_put (by omega)]
    simp only [Option.bind_some, p1, p2, p3, B_size]
    refine ⟨put4 data.length ++ B kind ++ B data ++ put4 s, ?_, ?_⟩
    · rw [ifF (by omega), ifF (by omega), ifF (by omega)]
    · rw [ifF (by omega), ifF (by omega), ifF (by omega), ifF (by omega)]
  · have e : ((kind.length : Int) != 4) = true := by
      simp only [bne_iff_ne, ne_eq]
      omega
    rw [e]
    exact ⟨_, rfl, rfl⟩
end Go.Proofs.YtfcamlibbfnldaaGreat.Am
set_option maxRecDepth 100000
namespace Go.Proofs.YtfcamlibbfnldaaGreat.Am
open Go.Am
def sig : List UInt8 := [137, 80, 78, 71, 13, 10, 26, 10]
def iend : List UInt8 := [73, 69, 78, 68]
noncomputable def stp (m : List UInt8) : Int ⊕ (List UInt8 × List UInt8 × List UInt8) :=
  if m.length < 4 then .inl 2 else
  if beV (m.take 4) > 2147483647 then .inl 4 else
  if m.length < 12 + beV (m.take 4) then .inl 2 else
  if ((beV ((m.drop (8 + beV (m.take 4))).take 4) : Nat) : Int) = sumV ((m.drop 4).take (4 + beV (m.take 4))) then .inr ((m.drop 4).take 4, (m.drop 8).take (beV (m.take 4)), m.drop (12 + beV (m.take 4))) else .inl 101
noncomputable def prs : Nat → List UInt8 → List (List UInt8 × List UInt8) → Int × List (List UInt8 × List UInt8) × List UInt8
  | 0, _, _ => (5, [], [])
  | k + 1, m, acc => match stp m with
    | .inl e => (e, [], [])
    | .inr (kind, data, rest) => if (kind == iend) = true then (0, acc ++ [(kind, data)], rest) else prs k rest (acc ++ [(kind, data)])
theorem stp_err {m : List UInt8} {e : Int} (h : stp m = .inl e) : e ≠ 0 := by
  unfold stp at h
  split at h
  · cases h; decide
  · split at h
    · cases h; decide
    · split at h
      · cases h; decide
      · split at h
        · cases h
        · cases h; decide
theorem stp_rest {m kind data rest : List UInt8} (h : stp m = .inr (kind, data, rest)) : ∃ n, rest = m.drop (12 + n) ∧ 12 + n ≤ m.length := by
  unfold stp at h
  split at h
  · cases h
  · split at h
    · cases h
    · split at h
      · cases h
      · split at h
        · cases h; exact ⟨_, rfl, by omega⟩
        · cases h
theorem drop_drop' (l : List UInt8) (a b : Nat) : (l.drop a).drop b = l.drop (a + b) := by rw [List.drop_drop]
theorem F115_next (l : List UInt8) (hl : l.length ≤ 1000) (p : Nat) (hp : p ≤ l.length) : match stp (l.drop p) with
    | .inl e => ∃ q e', F115 200000 (B l, (p : Int), 0) = some (B [], B [], e, B l, q, e')
    | .inr (kind, data, rest) => ∃ q : Nat, F115 200000 (B l, (p : Int), 0) = some (B kind, B data, 0, B l, (q : Int), 0) ∧ q ≤ l.length ∧ rest = l.drop q := by
  unfold stp
  simp only [List.length_drop]
  by_cases h4 : l.length - p < 4
  · rw [if_pos h4]
    simp only [F115, F84, iteP_eq, Option.bind_some]
    rw [int4_more l p hp (by omega) (by omega), Option.bind_some]
    simp only
    rw [ifF (by omega), show (4 : Int) = ((4 : Nat) : Int) from rfl, F135_err l 4 p hp (by omega), Option.bind_some]
    simp only
    rw [show (0 : Int) = ((0 : Nat) : Int) from rfl, F135_err l 0 p hp (by omega), Option.bind_some]
    simp only
    rw [show ((4 : Nat) : Int) = 4 from rfl, int4_err l p hp (by omega), Option.bind_some]
    simp only
    rw [if_pos (by decide)]
    exact ⟨_, _, rfl⟩
  · rw [if_neg h4]
    generalize hn : beV ((l.drop p).take 4) = n
    have hi := int4_ok l p (by omega) (by omega)
    rw [hn] at hi
    by_cases hbig : n > 2147483647
    · rw [if_pos hbig]
      simp only [F115, F84, iteP_eq, Option.bind_some]
      rw [hi, Option.bind_some]
      simp only
      rw [ifT (by omega)]
      exact ⟨_, _, rfl⟩
    · rw [if_neg hbig]
      have hn32 : n < 4294967296 := by omega
      by_cases hm : l.length - p < 12 + n
      · rw [if_pos hm]
        have key : ∃ x y z w : ByteArray, ∃ q1 q2 q3 : Nat, ∃ v : Int, ∃ e2 e3 : Int,
            F135 200000 (4, B l, ((p + 4 : Nat) : Int), 0) = some (x, B l, (q1 : Int), e2) ∧ F135 200000 ((n : Int), B l, (q1 : Int), e2) = some (y, B l, (q2 : Int), e3) ∧ F105 200000 (4, B l, (q2 : Int), e3) = some (v, B l, (q3 : Int), 2) := by
          by_cases h8 : l.length < p + 8
          · have a1 := F135_more l 4 (p + 4) (by omega) (by omega) (by omega)
            have a2 := F135_err l n (p + 4) (by omega) (by omega)
            have a3 := int4_err l (p + 4) (by omega) (by omega)
            exact ⟨_, _, B [], B [], _, _, _, _, _, _, a1, a2, a3⟩
          · have a1 := F135_ok l 4 (p + 4) (by omega) (by omega)
            by_cases h8n : l.length < p + 8 + n
            · have a2 := F135_more l n (p + 4 + 4) (by omega) (by omega) (by omega)
              have a3 := int4_err l (p + 4 + 4) (by omega) (by omega)
              exact ⟨_, _, B [], B [], _, _, _, _, _, _, a1, a2, a3⟩
            · have a2 := F135_ok l n (p + 4 + 4) (by omega) (by omega)
              have a3 := int4_more l (p + 4 + 4 + n) (by omega) (by omega) (by omega)
              exact ⟨_, _, B [], B [], _, _, _, _, _, _, a1, a2, a3⟩
        obtain ⟨x, y, z, w, q1, q2, q3, v, e2, e3, a1, a2, a3⟩ := key
        simp only [F115, F84, iteP_eq, Option.bind_some]
        rw [hi, Option.bind_some]
        simp only
        rw [ifF (by omega), a1, Option.bind_some]
        simp only
        rw [a2, Option.bind_some]
        simp only
        rw [a3, Option.bind_some]
        simp only
        rw [if_pos (by decide)]
        exact ⟨_, _, rfl⟩
      · rw [if_neg hm]
        have a1 := F135_ok l 4 (p + 4) (by omega) (by omega)
        have a2 := F135_ok l n (p + 4 + 4) (by omega) (by omega)
        have a3 := int4_ok l (p + 4 + 4 + n) (by omega) (by omega)
        have e1 : (List.drop 4 (List.drop p l)).take 4 = (l.drop (p + 4)).take 4 := by rw [drop_drop']
        have e2 : (List.drop 8 (List.drop p l)).take n = (l.drop (p + 4 + 4)).take n := by rw [drop_drop']
        have e3 : (List.drop 4 (List.drop p l)).take (4 + n) = (l.drop (p + 4)).take 4 ++ (l.drop (p + 4 + 4)).take n := by
          rw [drop_drop', List.take_add, drop_drop']
        have e4 : (List.drop (8 + n) (List.drop p l)).take 4 = (l.drop (p + 4 + 4 + n)).take 4 := by rw [drop_drop', show p + (8 + n) = p + 4 + 4 + n by omega]
        rw [e1, e2, e3, e4]
        have hF : F115 200000 (B l, (p : Int), 0) = if (((beV ((l.drop (p + 4 + 4 + n)).take 4) : Nat) : Int) != sumV ((l.drop (p + 4)).take 4 ++ (l.drop (p + 4 + 4)).take n)) = true then some (B [], B [], 101, B l, ((p + 4 + 4 + n + 4 : Nat) : Int), 0)
            else some (B ((l.drop (p + 4)).take 4), B ((l.drop (p + 4 + 4)).take n), 0, B l, ((p + 4 + 4 + n + 4 : Nat) : Int), 0) := by
          simp only [F115, F84, iteP_eq, Option.bind_some]
          rw [hi, Option.bind_some]
          simp only
          rw [ifF (by omega), show (4 : Int) = ((4 : Nat) : Int) from rfl, a1, Option.bind_some]
          simp only
          rw [a2, Option.bind_some]
          simp only
          rw [show ((4 : Nat) : Int) = 4 from rfl, a3, Option.bind_some]
          simp only
          rw [if_neg (by decide), F59_sum _ _ (by rw [List.length_take]; omega) (by rw [List.length_take, List.length_drop]; omega), Option.bind_some]
          rfl
        by_cases hs : ((beV ((l.drop (p + 4 + 4 + n)).take 4) : Nat) : Int) = sumV ((l.drop (p + 4)).take 4 ++ (l.drop (p + 4 + 4)).take n)
        · rw [if_pos hs]
          refine ⟨p + 4 + 4 + n + 4, hF.trans ?_, by omega, by rw [drop_drop', show p + (12 + n) = p + 4 + 4 + n + 4 by omega]⟩
          rw [if_neg (by simpa using hs)]
        · rw [if_neg hs]
          refine ⟨((p + 4 + 4 + n + 4 : Nat) : Int), 0, hF.trans ?_⟩
          rw [if_pos (by simpa using hs)]
def bb (x : List UInt8 × List UInt8) : ByteArray × ByteArray × Unit := (B x.1, B x.2, ())
theorem F55_loop (l : List UInt8) (hl : l.length ≤ 1000) : ∀ (j : Nat) (acc : List (List UInt8 × List UInt8)) (p k : Nat), p ≤ l.length → (l.drop p).length < j → j < k → acc.length + j ≤ 2000 →
    ((prs j (l.drop p) acc).1 ≠ 0 → F55_250 200000 k (false, B l, (p : Int), 0, acc.map bb) = some (.inl ((prs j (l.drop p) acc).1, []))) ∧
    ((prs j (l.drop p) acc).1 = 0 → ∃ q : Nat, q ≤ l.length ∧ (prs j (l.drop p) acc).2.2 = l.drop q ∧ F55_250 200000 k (false, B l, (p : Int), 0, acc.map bb) = some (.inr (B l, (q : Int), 0, (prs j (l.drop p) acc).2.1.map bb)))
  | j + 1, acc, p, k + 1, hp, hj, hk, ha => by
    have hnext := F115_next l hl p hp
    have hstep : ∀ r, F55_250 200000 (k + 1) (false, B l, (p : Int), 0, acc.map bb) = r ↔ B55_250 200000 (F55_250 200000 k) (false, B l, (p : Int), 0, acc.map bb) = r := fun _ => Iff.rfl
    unfold prs
    cases h : stp (l.drop p) with
    | inl e =>
      rw [h] at hnext
      obtain ⟨q, e', hn⟩ := hnext
      have he := stp_err h
      refine ⟨fun _ => ?_, fun h0 => absurd h0 he⟩
      rw [hstep]
      simp only [B55_250, iteP_eq]
      rw [if_pos (by decide), hn, Option.bind_some]
      simp only
      rw [if_pos (by simpa using he)]
    | inr t =>
      obtain ⟨kind, data, rest⟩ := t
      rw [h] at hnext
      obtain ⟨q, hn, hq, hr⟩ := hnext
      obtain ⟨n, hr1, hr2⟩ := stp_rest h
      have happ : acc.map bb ++ [(B kind, B data, ())] = (acc ++ [(kind, data)]).map bb := by simp [bb]
      have hgo : F55_250 200000 (k + 1) (false, B l, (p : Int), 0, acc.map bb) = F55_250 200000 k (kind == iend, B l, (q : Int), 0, (acc ++ [(kind, data)]).map bb) := by
        rw [hstep]
        simp only [B55_250, iteP_eq]
        rw [if_pos (by decide), hn, Option.bind_some]
        simp only
        rw [if_neg (by decide), ifT (by simp; omega), B_toList, happ]
        show Option.bind (F55_250 200000 k (kind == iend, _)) _ = _
        generalize F55_250 200000 k (kind == iend, B l, (q : Int), 0, (acc ++ [(kind, data)]).map bb) = o
        cases o with
        | none => rfl
        | some r => cases r <;> rfl
      simp only
      rw [hgo]
      cases he : kind == iend with
      | true =>
        refine ⟨fun h0 => absurd rfl h0, fun _ => ⟨q, hq, hr, ?_⟩⟩
        obtain ⟨k', rfl⟩ : ∃ k', k = k' + 1 := ⟨k - 1, by omega⟩
        show B55_250 200000 (F55_250 200000 k') _ = _
        simp only [B55_250, iteP_eq]
        rw [if_neg (by decide)]
        rfl
      | false =>
        simp only [Bool.false_eq_true, if_false]
        have hlen : (l.drop p).length = l.length - p := by rw [List.length_drop]
        have := F55_loop l hl j (acc ++ [(kind, data)]) q k hq (by
          rw [← hr, hr1, List.length_drop]; omega) (by omega) (by rw [List.length_append]; simp; omega)
        rw [← hr] at this
        exact this
theorem F17_loop : ∀ (j : Nat) (m : List UInt8) (acc : List (List UInt8 × List UInt8)) (k : Nat), m.length ≤ 1000 → m.length < j → j ≤ k → acc.length + j ≤ 2000 →
    F17_1020 200000 k (B m, acc.map (fun x => B x.1), acc.map (fun x => B x.2)) = some (if (prs j m acc).1 ≠ 0 then .inl ((prs j m acc).1, [], []) else .inr (B (prs j m acc).2.2, (prs j m acc).2.1.map (fun x => B x.2), (prs j m acc).2.1.map (fun x => B x.1)))
  | j + 1, m, acc, k + 1, hm, hj, hk, ha => by
    show B17_1020 200000 (F17_1020 200000 k) _ = _
    have ih := F17_loop j
    unfold prs stp
    by_cases h4 : m.length < 4
    · rw [if_pos h4]
      simp only [B17_1020, iteP_eq]
      rw [ifT (by rw [B_size]; omega)]
      rfl
    · rw [if_neg h4]
      generalize hn : beV (m.take 4) = n
      have hint : F56 200000 ((B m).extract 0 4) = some (n : Int) := by
        rw [B_ext, List.drop_zero, F56_be _ (by rw [List.length_take]; omega), hn]
      by_cases hbig : n > 2147483647
      · rw [if_pos hbig]
        simp only [B17_1020, iteP_eq]
        rw [ifF (by rw [B_size]; omega), ifT (by rw [B_size]; omega), hint, Option.bind_some, ifT (by omega)]
        rfl
      · rw [if_neg hbig]
        have w1 : IntKind.wrap .i64 (((B m).size : Int) - 12) = (m.length : Int) - 12 := by rw [B_size, w_i (by omega) (by omega)]
        have w2 : IntKind.wrap .i64 ((12 : Int) + (n : Int)) = ((12 + n : Nat) : Int) := by rw [w_i (by omega) (by omega)]; omega
        have w3 : IntKind.wrap .i64 ((8 : Int) + (n : Int)) = ((8 + n : Nat) : Int) := by rw [w_i (by omega) (by omega)]; omega
        by_cases hl : m.length < 12 + n
        · rw [if_pos hl]
          simp only [B17_1020, iteP_eq]
          rw [ifF (by rw [B_size]; omega), ifT (by rw [B_size]; omega), hint, Option.bind_some, ifF (by omega), w1, ifT (by omega)]
          rfl
        · rw [if_neg hl]
          have hchk : F56 200000 ((B m).extract (8 + n) (12 + n)) = some ((beV ((m.drop (8 + n)).take 4) : Nat) : Int) := by
            rw [B_ext, show 12 + n - (8 + n) = 4 by omega, F56_be _ (by rw [List.length_take]; omega)]
          have hsum : F57 200000 ((B m).extract 4 (8 + n)) = some (sumV ((m.drop 4).take (4 + n))) := by
            rw [B_ext, show 8 + n - 4 = 4 + n by omega, F57_sum _ (by rw [List.length_take, List.length_drop]; omega)]
          simp only [B17_1020, iteP_eq]
          rw [ifF (by rw [B_size]; omega), ifT (by rw [B_size]; omega), hint, Option.bind_some, ifF (by omega), w1, ifF (by omega), w2, w3, Int.toNat_natCast, Int.toNat_natCast,
            ifT (by rw [B_size]; omega), ifT (by omega), hchk, Option.bind_some, ifT (by rw [B_size]; omega), ifT (by omega), hsum, Option.bind_some]
          by_cases hs : ((beV ((m.drop (8 + n)).take 4) : Nat) : Int) = sumV ((m.drop 4).take (4 + n))
          · rw [if_pos hs, if_neg (by simpa using hs)]
            rw [ifT (by rw [B_size]; omega), ifT (by simp; omega), ifT (by rw [B_size]; omega), ifT (by omega), ifT (by simp; omega), ifT (by rw [B_size]; omega)]
            simp only [B_ext, B_toList, B_size]
            rw [show 8 - 4 = 4 from rfl, show 8 + n - 8 = n by omega]
            have er : (m.drop (12 + n)).take (m.length - (12 + n)) = m.drop (12 + n) := by rw [List.take_of_length_le]; rw [List.length_drop]; omega
            rw [er]
            have hk1 : acc.map (fun x => B x.1) ++ [B ((m.drop 4).take 4)] = (acc ++ [((m.drop 4).take 4, (m.drop 8).take n)]).map (fun x => B x.1) := by simp
            have hk2 : acc.map (fun x => B x.2) ++ [B ((m.drop 8).take n)] = (acc ++ [((m.drop 4).take 4, (m.drop 8).take n)]).map (fun x => B x.2) := by simp
            rw [hk1, hk2]
            show (if ((m.drop 4).take 4 == iend) = true then _ else _) = _
            cases he : (m.drop 4).take 4 == iend with
            | true => rfl
            | false =>
              simp only [Bool.false_eq_true, if_false]
              rw [ih (m.drop (12 + n)) _ k (by rw [List.length_drop]; omega) (by rw [List.length_drop]; omega) (by omega) (by rw [List.length_append]; simp; omega), Option.bind_some]
              generalize prs j (m.drop (12 + n)) (acc ++ [((m.drop 4).take 4, (m.drop 8).take n)]) = t
              rcases Decidable.em (t.1 ≠ 0) with ht | ht
              · rw [if_pos ht]
              · rw [if_neg ht]
          · rw [if_neg hs, if_pos (by simpa using hs)]
            rfl
theorem F16_loop (e : Int) (L : List (List UInt8 × List UInt8)) (hL : L.length ≤ 5000) : ∀ (suf pre : List (List UInt8 × List UInt8)) (k : Nat), L = pre ++ suf → suf.length < k →
    F16_122 200000 k (((pre.length : Nat) : Int), ((L.length : Nat) : Int), e, pre.map (fun x => B x.1), pre.map (fun x => B x.2), L.map bb) = some (e, L.map (fun x => B x.1), L.map (fun x => B x.2))
  | [], pre, k + 1, h, _ => by
    have : pre = L := by rw [h]; simp
    subst this
    show B16_122 200000 (F16_122 200000 k) _ = _
    simp only [B16_122, iteP_eq]
    rw [ifF (by omega)]
  | x :: r, pre, k + 1, h, hk => by
    have hn : L.length = pre.length + r.length + 1 := by rw [h]; simp; omega
    have ih := F16_loop e L hL r (pre ++ [x]) k (by rw [h]; simp) (by simp at hk; omega)
    rw [show (pre ++ [x]).length = pre.length + 1 by simp, List.map_append, List.map_append] at ih
    show B16_122 200000 (F16_122 200000 k) _ = _
    generalize F16_122 200000 k = G at *
    simp only [B16_122, iteP_eq]
    have hg : (L.map bb)[pre.length]? = some (bb x) := by rw [h]; simp
    rw [ifT (by omega), if_pos (within_nat (by rw [List.length_map]; omega)), Int.toNat_natCast, hg, Option.bind_some, ifT (by simp; omega), ifT (by simp; omega), w_i (by omega) (by omega), show ((pre.length : Nat) : Int) + 1 = ((pre.length + 1 : Nat) : Int) by omega]
    show Option.bind (G (((pre.length + 1 : Nat) : Int), ((L.length : Nat) : Int), e, pre.map (fun x => B x.1) ++ [B x.1], pre.map (fun x => B x.2) ++ [B x.2], L.map bb)) _ = _
    rw [show [B x.1] = [x].map (fun x => B x.1) from rfl, show [B x.2] = [x].map (fun x => B x.2) from rfl, ih, Option.bind_some]
theorem sig_pre (l : List UInt8) : F114 200000 (B l, B sig) = some (decide (8 ≤ l.length) && (l.take 8 == sig)) := by
  simp only [F114, F186, iteP_eq, B_size, B_ext, B_toList]
  by_cases h : 8 ≤ l.length
  · rw [ifT (show (l.length : Int) ≥ (sig.length : Int) by show (l.length : Int) ≥ 8; omega), ifT (show (0 : Int) ≤ (sig.length : Int) ∧ (sig.length : Int) ≤ (l.length : Int) from ⟨by decide, by show (8 : Int) ≤ l.length; omega⟩), decide_eq_true h]
    rfl
  · rw [ifF (show ¬ (l.length : Int) ≥ (sig.length : Int) by show ¬ (l.length : Int) ≥ 8; omega), decide_eq_false h]
    rfl
theorem pre_sig (l : List UInt8) : F114 200000 (B sig, B l) = some (decide (l.length ≤ 8) && (sig.take l.length == l)) := by
  simp only [F114, F186, iteP_eq, B_size, B_ext, B_toList]
  by_cases h : l.length ≤ 8
  · rw [ifT (show (sig.length : Int) ≥ (l.length : Int) by show (8 : Int) ≥ l.length; omega), ifT (show (0 : Int) ≤ (l.length : Int) ∧ (l.length : Int) ≤ (sig.length : Int) from ⟨by omega, by show (l.length : Int) ≤ 8; omega⟩), decide_eq_true h, Int.toNat_natCast]
    rfl
  · rw [ifF (show ¬ (sig.length : Int) ≥ (l.length : Int) by show ¬ (8 : Int) ≥ l.length; omega), decide_eq_false h]
    rfl
noncomputable def whole (l : List UInt8) : Int × List (List UInt8 × List UInt8) :=
  if l.length < 8 then (if sig.take l.length = l then (2, []) else (100, []))
  else if l.take 8 = sig then (if (prs 1500 (l.drop 8) []).1 ≠ 0 then ((prs 1500 (l.drop 8) []).1, []) else if (prs 1500 (l.drop 8) []).2.2 = [] then (0, (prs 1500 (l.drop 8) []).2.1) else (3, []))
  else (100, [])
theorem sig_eq : ByteArray.mk #[137, 80, 78, 71, 13, 10, 26, 10] = B sig := rfl
theorem F55_whole (l : List UInt8) (hl : l.length ≤ 400) : F55 200000 (B l) = some ((whole l).1, (whole l).2.map bb) := by
  simp only [F55, iteP_eq]
  rw [sig_eq, sig_pre, Option.bind_some, pre_sig, Option.bind_some]
  unfold whole
  by_cases h8 : l.length < 8
  · rw [if_pos h8, decide_eq_false (by omega : ¬ 8 ≤ l.length), decide_eq_true (by omega : l.length ≤ 8)]
    simp only [Bool.false_and, Bool.not_false, if_true, Bool.true_and]
    by_cases hs : sig.take l.length = l
    · rw [if_pos hs, if_pos (by simpa using hs)]
      rfl
    · rw [if_neg hs, if_neg (by simpa using hs)]
      rfl
  · rw [if_neg h8, decide_eq_true (by omega : 8 ≤ l.length)]
    simp only [Bool.true_and]
    by_cases hs : l.take 8 = sig
    · rw [if_pos hs, if_neg (by simp [hs]), ifT (by rw [B_size]; omega)]
      have e81 : F81 200000 ((B l).extract 8 (B l).size) = some (B (l.drop 8), 0, 0) := by
        rw [B_ext, B_size, List.take_of_length_le (by rw [List.length_drop]; omega)]
        rfl
      rw [e81, Option.bind_some]
      simp only
      have hd : (l.drop 8).length = l.length - 8 := by rw [List.length_drop]
      have hloop := F55_loop (l.drop 8) (by omega) 1500 [] 0 200000 (by omega) (by rw [List.drop_zero]; omega) (by omega) (by simp)
      rw [List.drop_zero] at hloop
      generalize prs 1500 (l.drop 8) [] = t at *
      by_cases ht : t.1 = 0
      · obtain ⟨q, hq, hr, hrun⟩ := hloop.2 ht
        rw [if_neg (by simpa using ht)]
        show Option.bind (F55_250 200000 200000 (false, B (l.drop 8), ((0 : Nat) : Int), 0, ([] : List (List UInt8 × List UInt8)).map bb)) _ = _
        rw [hrun, Option.bind_some]
        simp only [F116, F86, iteP_eq, Option.bind_some]
        rw [if_pos (by decide), B_size, w_i (by omega) (by omega)]
        by_cases hrest : t.2.2 = []
        · have : (l.drop 8).length ≤ q := by
            rw [hr] at hrest
            exact List.drop_eq_nil_iff.1 hrest
          rw [if_pos hrest, ifF (by omega), Option.bind_some, if_neg (by decide)]
        · have : ¬ (l.drop 8).length ≤ q := fun h => hrest (by rw [hr]; exact List.drop_eq_nil_iff.2 h)
          rw [if_neg hrest, ifT (by omega), Option.bind_some, if_pos (by decide)]
          rfl
      · rw [if_pos ht]
        show Option.bind (F55_250 200000 200000 (false, B (l.drop 8), ((0 : Nat) : Int), 0, ([] : List (List UInt8 × List UInt8)).map bb)) _ = _
        rw [hloop.1 ht, Option.bind_some]
        rfl
    · rw [if_neg hs, if_pos (by simpa using hs)]
      have : (decide (l.length ≤ 8) && (sig.take l.length == l)) = false := by
        cases hd : decide (l.length ≤ 8) with
        | false => rfl
        | true =>
          have h9 : l.length = 8 := by simp at hd; omega
          rw [Bool.true_and, h9]
          have e2 : l.take 8 = l := List.take_of_length_le (by omega)
          rw [e2] at hs
          simp only [beq_eq_false_iff_ne, ne_eq]
          intro e
          exact hs e.symm
      rw [this, if_neg (by decide)]
      rfl
theorem F17_whole (l : List UInt8) (hl : l.length ≤ 400) : F17 200000 (B l) = some ((whole l).1, (whole l).2.map (fun x => B x.1), (whole l).2.map (fun x => B x.2)) := by
  unfold whole
  simp only [F17, iteP_eq, B_size]
  rw [sig_eq]
  by_cases h8 : l.length < 8
  · have e : (if (8 : Int) < (l.length : Int) then (8 : Int) else (l.length : Int)) = (l.length : Int) := if_neg (by omega)
    rw [e, if_pos h8, ifT (by omega), ifT (by omega), B_ext, B_ext, B_toList, B_toList, Int.toNat_natCast]
    simp only [List.drop_zero, Nat.sub_zero, List.take_length]
    by_cases hs : sig.take l.length = l
    · rw [if_pos hs, if_neg (by simp [hs]), ifT (by omega)]
      rfl
    · rw [if_neg hs, if_pos (by simp; intro h; exact hs h.symm)]
      rfl
  · have e : (if (8 : Int) < (l.length : Int) then (8 : Int) else (l.length : Int)) = 8 := by split <;> omega
    rw [e, if_neg h8, ifT (by omega), ifT (by omega), B_ext, B_ext, B_toList, B_toList]
    rw [show Int.toNat 8 = 8 from rfl, show (sig.drop 0).take (8 - 0) = sig from rfl]
    simp only [List.drop_zero, Nat.sub_zero]
    by_cases hs : l.take 8 = sig
    · rw [if_pos hs, if_neg (by simp [hs]), if_neg (by decide), ifT (by omega)]
      have hd : (l.drop 8).length = l.length - 8 := by rw [List.length_drop]
      have hloop := F17_loop 1500 (l.drop 8) [] 200000 (by omega) (by omega) (by omega) (by simp)
      rw [B_ext, List.take_of_length_le (by rw [List.length_drop]; omega)]
      show Option.bind (F17_1020 200000 200000 (B (l.drop 8), ([] : List (List UInt8 × List UInt8)).map (fun x => B x.1), ([] : List (List UInt8 × List UInt8)).map (fun x => B x.2))) _ = _
      rw [hloop, Option.bind_some]
      generalize prs 1500 (l.drop 8) [] = t at *
      by_cases ht : t.1 = 0
      · rw [if_neg (by simpa using ht), if_neg (by simpa using ht)]
        simp only
        rw [B_toList]
        by_cases hrest : t.2.2 = []
        · rw [if_pos hrest, if_neg (by simp [hrest])]
        · rw [if_neg hrest, if_pos (by simpa using hrest)]
          rfl
      · rw [if_pos ht, if_pos ht]
        rfl
    · rw [if_neg hs, if_pos (by simpa using hs)]
      rfl
theorem F16_whole (l : List UInt8) (hl : l.length ≤ 400) (hw : (whole l).2.length ≤ 5000) : F16 200000 (B l) = some ((whole l).1, (whole l).2.map (fun x => B x.1), (whole l).2.map (fun x => B x.2)) := by
  have h := F16_loop (whole l).1 (whole l).2 hw (whole l).2 [] 200000 rfl (by omega)
  simp only [F16]
  rw [F55_whole l hl, Option.bind_some]
  simp only
  rw [List.length_map]
  show Option.bind (F16_122 200000 200000 (((([] : List (List UInt8 × List UInt8)).length : Nat) : Int), (((whole l).2.length : Nat) : Int), (whole l).1, [], [], (whole l).2.map bb)) _ = _
  rw [show ([] : List ByteArray) = ([] : List (List UInt8 × List UInt8)).map (fun x => B x.1) from rfl] at *
  exact (congrArg (fun o => Option.bind o _) h).trans rfl
theorem prs_len : ∀ (j : Nat) (m : List UInt8) (acc : List (List UInt8 × List UInt8)), (prs j m acc).2.1.length ≤ acc.length + j
  | 0, m, acc => by unfold prs; simp
  | j + 1, m, acc => by
    unfold prs
    cases stp m with
    | inl e => simp
    | inr t =>
      obtain ⟨kind, data, rest⟩ := t
      simp only
      split
      · simp
      · have := prs_len j rest (acc ++ [(kind, data)])
        rw [List.length_append] at this
        simp at this
        omega
theorem whole_len (l : List UInt8) : (whole l).2.length ≤ 5000 := by
  have := prs_len 1500 (l.drop 8) []
  unfold whole
  split
  · split <;> simp
  · split
    · split
      · simp
      · split
        · simp at this ⊢; omega
        · simp
    · simp
theorem F3_loop (d k : ByteArray) (K D : List ByteArray) (hK : K.length ≤ 5000) (hD : D.length = K.length) : ∀ (j i f : Nat), i + j = K.length → j < f →
    F3_2042 200000 f (d, k, true, (i : Int), K, K, D, D) = some (.inr (true, k, d))
  | 0, i, f + 1, h, _ => by
    show B3_2042 200000 (F3_2042 200000 f) _ = _
    simp only [B3_2042, iteP_eq]
    rw [ifF (by omega)]
  | j + 1, i, f + 1, h, hf => by
    have ih := F3_loop d k K D hK hD j (i + 1) f (by omega) (by omega)
    show B3_2042 200000 (F3_2042 200000 f) _ = _
    generalize F3_2042 200000 f = G at *
    simp only [B3_2042, iteP_eq]
    have hg : ∀ {L : List ByteArray}, i < L.length → L[i]? = some (L.getD i (B [])) := fun {L} h => by rw [List.getD, List.getElem?_eq_getElem h]; rfl
    rw [ifT (by omega), if_pos (within_nat (by omega)), Int.toNat_natCast, hg (by omega), Option.bind_some, Option.bind_some]
    simp only [beq_self_eq_true, Bool.not_true, Bool.false_eq_true, if_false]
    rw [if_pos (within_nat (by omega)), if_pos (within_nat (by omega)), hg (L := D) (by omega), Option.bind_some, if_pos (within_nat (by omega)), Option.bind_some]
    simp only [beq_self_eq_true, Bool.not_true, Bool.false_eq_true, if_false]
    rw [w_i (by omega) (by omega), show (i : Int) + 1 = ((i + 1 : Nat) : Int) by omega, ih]
    rfl
theorem law3 (w : F15 200000 () = some true) (kind data s : ByteArray) : F3 200000 (kind, data, s) = some true := by
  simp only [F3, iteP_eq]
  rw [w, Option.bind_some]
  simp only [Bool.not_true, Bool.false_eq_true, if_false]
  by_cases hd : data.size ≤ 400
  · rw [ifF (by omega)]
    by_cases hs : s.size ≤ 400
    · rw [ifF (by omega)]
      rw [B_data s] at hs ⊢
      rw [B_data data] at hd ⊢
      rw [B_data kind]
      generalize s.data.toList = l at *
      generalize data.data.toList = dl at *
      generalize kind.data.toList = kl at *
      rw [B_size] at hs hd
      obtain ⟨r, h1, h2⟩ := chunk_same kl dl (by omega)
      have hw := whole_len l
      have hloop := F3_loop (B dl) (B kl) ((whole l).2.map (fun x => B x.1)) ((whole l).2.map (fun x => B x.2)) (by rw [List.length_map]; exact hw) (by simp) (whole l).2.length 0 200000 (by simp) (by omega)
      have key : F3_31 200000 (B l, true, B kl, B dl) = some true := by
        simp only [F3_31, iteP_eq]
        rw [F16_whole l hs hw, Option.bind_some, F17_whole l hs, Option.bind_some]
        simp only [bne_self_eq_false, Bool.false_eq_true, if_false]
        show Option.bind (F3_2042 200000 200000 (B dl, B kl, true, ((0 : Nat) : Int), _, _, _, _)) _ = _
        rw [hloop, Option.bind_some]
        simp only [if_true]
        rw [h1, Option.bind_some, h2, Option.bind_some]
        simp
      rw [key, Option.bind_some]
    · rw [ifT (by omega)]
  · rw [ifT (by omega)]
end Go.Proofs.YtfcamlibbfnldaaGreat.Am
set_option maxRecDepth 100000
namespace Go.Proofs.YtfcamlibbfnldaaGreat.Am
open Go.Am
theorem works15a : F20 200000 (2, 1, [255, 65280], [], 5) = some (ByteArray.mk #[137, 80, 78, 71, 13, 10, 26, 10, 0, 0, 0, 13, 73, 72, 68, 82, 0, 0, 0, 2, 0, 0, 0, 1, 8, 2, 0, 0, 0, 123, 64, 232, 221, 0, 0, 0, 5, 73, 68, 65, 84, 120, 156, 99, 96, 96, 16, 102, 211, 93, 0, 0, 0, 5, 73, 68, 65, 84, 248, 15, 132, 0, 6, 99, 244, 68, 106, 0, 0, 0, 3, 73, 68, 65, 84, 1, 1, 255, 204, 17, 250, 89, 0, 0, 0, 0, 73, 69, 78, 68, 174, 66, 96, 130], 0) := by kernel_rfl
theorem works15b : F54 200000 (ByteArray.mk #[137, 80, 78, 71, 13, 10, 26, 10, 0, 0, 0, 13, 73, 72, 68, 82, 0, 0, 0, 2, 0, 0, 0, 1, 8, 2, 0, 0, 0, 123, 64, 232, 221, 0, 0, 0, 5, 73, 68, 65, 84, 120, 156, 99, 96, 96, 16, 102, 211, 93, 0, 0, 0, 5, 73, 68, 65, 84, 248, 15, 132, 0, 6, 99, 244, 68, 106, 0, 0, 0, 3, 73, 68, 65, 84, 1, 1, 255, 204, 17, 250, 89, 0, 0, 0, 0, 73, 69, 78, 68, 174, 66, 96, 130], 2) = some (2, 1, 0, [255, 65280], []) := by kernel_rfl
theorem works15c : F54 200000 (ByteArray.mk #[137, 80, 78, 71, 13, 10, 26, 10, 0, 0, 0, 13, 73, 72, 68, 82, 0, 0, 0, 2, 0, 0, 0, 1, 8, 2, 0, 0, 0, 123, 64, 232, 221, 0, 0, 0, 5, 73, 68, 65, 84, 120, 156, 99, 96, 96, 16, 102, 211, 93, 0, 0, 0, 5, 73, 68, 65, 84, 248, 15, 132, 0, 6, 99, 244, 68, 106, 0, 0, 0, 3, 73, 68, 65, 84, 1, 1, 255, 204, 17, 250, 89, 0, 0, 0, 0, 73, 69, 78, 68, 174, 66, 96, 130], 1) = some (0, 0, 4, [], []) := by kernel_rfl
theorem works15d : F18 200000 (ByteArray.mk #[73, 69, 78, 68], ByteArray.mk #[]) = some (ByteArray.mk #[0, 0, 0, 0, 73, 69, 78, 68, 174, 66, 96, 130]) := by kernel_rfl
theorem works15e : F25 200000 (2, 1, [255, 65280], [], 2, 1, [255, 65280], []) = some true := by kernel_rfl
theorem works15f : F24 200000 (2, 1, [255, 65280], []) = some true := by kernel_rfl
theorem works15 : F15 200000 () = some true := by
  simp only [F15]
  rw [works15a, Option.bind_some]
  simp only
  rw [works15b, Option.bind_some]
  simp only
  rw [works15c, Option.bind_some]
  simp only
  rw [works15e, Option.bind_some, works15d, Option.bind_some, works15f, Option.bind_some]
  kernel_rfl
end Go.Proofs.YtfcamlibbfnldaaGreat.Am
