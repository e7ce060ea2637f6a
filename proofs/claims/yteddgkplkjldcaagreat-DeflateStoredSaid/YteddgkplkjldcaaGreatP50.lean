/- The Lean function that DeflateStored comes to answers true at every input. -/
import Derived.Test.YteddgkplkjldcaaGreatSE
import Derived.Test.YteddgkplkjldcaaGreatAmC
namespace Go.Proofs.YteddgkplkjldcaaGreat.Am
open Go.Am
theorem works13a : F15 100000 (ByteArray.mk #[97, 98], true, 0, 0, []) = some (0, 0, [1, 2, 0, 253, 255, 97, 98]) := by kernel_rfl
theorem works13b : F30 100000 (ByteArray.mk #[], ByteArray.mk #[97, 98, 99]) = some (ByteArray.mk #[75, 76, 74, 6, 0]) := by kernel_rfl
theorem works13c : F32 100000 (ByteArray.mk #[], ByteArray.mk #[75, 76, 74, 6, 0], 9) = some (ByteArray.mk #[97, 98, 99], 5, 0) := by kernel_rfl
theorem works13d : F31 100000 (ByteArray.mk #[99], ByteArray.mk #[97, 98, 99]) = some (ByteArray.mk #[74, 76, 74, 6, 0, 0, 0, 255, 255]) := by kernel_rfl
theorem works13e : F33 100000 (ByteArray.mk #[99], ByteArray.mk #[74, 76, 74, 6, 0, 0, 0, 255, 255], 9) = some (ByteArray.mk #[97, 98, 99], 0) := by kernel_rfl
theorem works13 : F13 100000 () = some true := by
  simp only [F13]
  rw [works13a, Option.bind_some, works13b, Option.bind_some, works13c, Option.bind_some, works13d, Option.bind_some, works13e, Option.bind_some]
  kernel_rfl
end Go.Proofs.YteddgkplkjldcaaGreat.Am

namespace Go.Proofs.YteddgkplkjldcaaGreat.Am
open Go.Am
set_option linter.unusedSimpArgs false
set_option linter.unusedVariables false

theorem F128_rev (N : Nat) (X : BitVec 64) : F128 N (U X) = some (U (rev64 X)) := by
  simp only [F128, F156, wrapU, ofU, shr1, shr2, shr4, shr8, shr16, shr32, shl1, shl2, shl4, shl8, shl16, shl32, Option.bind_some, iteP_eq]
  rfl

def clampN (b : Int) : Nat := min b.toNat 32
theorem clampN_le (b : Int) : clampN b ≤ 32 := Nat.min_le_right ..
theorem clamp_eq (b : Int) : (if (32 : Int) < (if (0 : Int) > b then (0 : Int) else b) then (32 : Int) else if (0 : Int) > b then (0 : Int) else b) = (clampN b : Int) := by
  unfold clampN
  split <;> split at * <;> omega
theorem F44_clamp (N : Nat) (b : Int) : F44 N b = some (clampN b : Int) := by
  show some _ = _
  rw [← clamp_eq]

def lowN (n : Nat) (v : Int) : Nat := (BitVec.ofInt 64 v).toNat % 2 ^ n
theorem lowN_lt (n : Nat) (v : Int) : lowN n v < 2 ^ n := Nat.mod_lt _ (Nat.pow_pos (by decide))
theorem pow_le32 {n : Nat} (h : n ≤ 32) : 2 ^ n ≤ 4294967296 := Nat.pow_le_pow_right (n := 2) (by decide) h

theorem mask_eq {n : Nat} (hn : n ≤ 32) : IntKind.wrap .i64 ((1 : Int) * 2 ^ min (Int.toNat (n : Int)) 64) = ((2 ^ n : Nat) : Int) := by
  have := pow_le32 hn
  have h1 : min (Int.toNat (n : Int)) 64 = n := by simp; omega
  rw [h1, Int.one_mul, show ((2 : Int) ^ n) = ((2 ^ n : Nat) : Int) by simp]
  generalize 2 ^ n = k at *
  exact wrap_i64 (by omega) (by omega)

theorem low_eq {n : Nat} (hn : n ≤ 32) (v : Int) : IntKind.wrap .i64 ((BitVec.toNat (BitVec.ofInt 64 v &&& BitVec.ofInt 64 (IntKind.wrap .i64 (IntKind.wrap .i64 ((1 : Int) * 2 ^ min (Int.toNat (n : Int)) 64) - 1))) : Nat) : Int) = (lowN n v : Int) := by
  have hp := pow_le32 hn
  have hpos : 0 < 2 ^ n := Nat.pow_pos (by decide)
  have hw : IntKind.wrap .i64 (((2 ^ n : Nat) : Int) - 1) = ((2 ^ n : Nat) : Int) - 1 := by
    generalize 2 ^ n = k at *
    exact wrap_i64 (by omega) (by omega)
  rw [mask_eq hn, hw]
  have e : BitVec.ofInt 64 (((2 ^ n : Nat) : Int) - 1) = BitVec.ofNat 64 (2 ^ n - 1) := by
    rw [show ((2 ^ n : Nat) : Int) - 1 = ((2 ^ n - 1 : Nat) : Int) by generalize 2 ^ n = k at *; omega]
    exact BitVec.ofInt_natCast ..
  have e2 : (BitVec.ofInt 64 v &&& BitVec.ofNat 64 (2 ^ n - 1)).toNat = lowN n v := by
    rw [BitVec.toNat_and, BitVec.toNat_ofNat, Nat.mod_eq_of_lt (by omega), Nat.and_two_pow_sub_one_eq_mod]
    rfl
  rw [e, e2]
  have := lowN_lt n v
  exact wrap_i64 (by omega) (by omega)

theorem F45_low (N : Nat) {n : Nat} (hn : n ≤ 32) (v : Int) : F45 N ((n : Int), v) = some (lowN n v : Int) := by
  show (if decide ((n : Int) < 0) = true then none else some _) = _
  rw [if_neg (by simp)]
  exact congrArg some (low_eq hn v)

def revN (n : Nat) (L : Nat) : Nat := (rev64 (BitVec.ofNat 64 L)).toNat >>> (64 - n)

theorem revN_lt {n : Nat} (hn : n ≤ 32) (L : Nat) : revN n L < 2 ^ n := by
  unfold revN
  rw [Nat.shiftRight_eq_div_pow]
  apply Nat.div_lt_of_lt_mul
  rw [← Nat.pow_add, show 64 - n + n = 64 by omega]
  exact (rev64 _).isLt

theorem revN_bit {n : Nat} (hn : n ≤ 32) {L : Nat} (i : Nat) : (revN n L).testBit i = (decide (i < n) && L.testBit (n - 1 - i)) := by
  unfold revN
  rw [Nat.testBit_shiftRight]
  by_cases h : i < n
  · have := rev64_bit (BitVec.ofNat 64 L) (i := 64 - n + i) (by omega)
    rw [BitVec.getLsbD, BitVec.getLsbD] at this
    rw [this, BitVec.toNat_ofNat, Nat.testBit_mod_two_pow]
    have e : 63 - (64 - n + i) = n - 1 - i := by omega
    rw [e]
    simp [h]; omega
  · have : (rev64 (BitVec.ofNat 64 L)).getLsbD (64 - n + i) = false := BitVec.getLsbD_of_ge _ _ (by omega)
    rw [BitVec.getLsbD] at this
    rw [this]
    simp [h]

theorem F98_rev (N : Nat) (a b : Int) : F98 N (a, b) = some (revN (clampN b) (lowN (clampN b) a) : Int) := by
  have hc := clampN_le b
  have hp := pow_le32 hc
  have hl := lowN_lt (clampN b) a
  simp only [F98, iteP_eq]
  rw [F44_clamp, Option.bind_some, F45_low N hc, Option.bind_some]
  have e1 : IntKind.wrap .u64 ((lowN (clampN b) a : Nat) : Int) = U (BitVec.ofNat 64 (lowN (clampN b) a)) := by
    rw [wrap_u64]; unfold U
    rw [BitVec.toNat_ofNat]
    omega
  rw [e1, F128_rev, Option.bind_some]
  have e2 : IntKind.wrap .i64 ((64 : Int) - (clampN b : Int)) = ((64 - clampN b : Nat) : Int) := by
    rw [wrap_i64 (by omega) (by omega)]; omega
  rw [e2, if_neg (by simp)]
  have e3 : min (Int.toNat ((64 - clampN b : Nat) : Int)) 64 = 64 - clampN b := by
    simp
  rw [e3, shrU]
  congr 1
  have hr := revN_lt hc (lowN (clampN b) a)
  have e4 : U (rev64 (BitVec.ofNat 64 (lowN (clampN b) a)) >>> (64 - clampN b)) = (revN (clampN b) (lowN (clampN b) a) : Int) := by
    unfold U revN
    rw [BitVec.toNat_ushiftRight]
  rw [e4]
  exact wrap_i64 (by omega) (by omega)

theorem bit1 (z : Int) : IntKind.wrap .i64 ((BitVec.toNat (BitVec.ofInt 64 z &&& BitVec.ofInt 64 1) : Nat) : Int) = z % 2 := by
  have e : (BitVec.ofInt 64 z &&& BitVec.ofInt 64 1).toNat = (z % 2).toNat := by
    rw [BitVec.toNat_and, show (BitVec.ofInt 64 1).toNat = 2 ^ 1 - 1 from rfl, Nat.and_two_pow_sub_one_eq_mod, BitVec.toNat_ofInt]
    omega
  rw [e]
  rw [wrap_i64 (by omega) (by omega)]
  omega

theorem bit_low {n k : Nat} (hn : n ≤ 32) (hk : k < n) (a : Int) : (Int.fdiv a (2 ^ k)) % 2 = ((lowN n a / 2 ^ k % 2 : Nat) : Int) := by
  have hpos : (0 : Int) < 2 ^ k := Int.pow_pos (by decide)
  rw [Int.fdiv_eq_ediv_of_nonneg _ (Int.le_of_lt hpos)]
  have hL : (lowN n a : Int) = a % (2 ^ n : Int) := by
    unfold lowN
    rw [BitVec.toNat_ofInt]
    have h64 : (2 ^ n : Int) ∣ (2 ^ 64 : Int) := by
      refine ⟨2 ^ (64 - n), ?_⟩
      rw [← Int.pow_add, show n + (64 - n) = 64 by omega]
    have hm : a % (2 ^ 64 : Int) % (2 ^ n : Int) = a % (2 ^ n : Int) := Int.emod_emod_of_dvd a h64
    rw [← hm]
    have hnn : 0 ≤ a % (2 ^ 64 : Int) := Int.emod_nonneg _ (by decide)
    rw [Int.natCast_emod, Int.toNat_of_nonneg (by simpa using hnn)]
    simp
  obtain ⟨m, hm⟩ : ∃ m : Int, a = (lowN n a : Int) + 2 ^ k * (2 * m) := by
    refine ⟨2 ^ (n - k - 1) * (a / 2 ^ n), ?_⟩
    have e : (2 : Int) ^ k * (2 * (2 ^ (n - k - 1) * (a / 2 ^ n))) = 2 ^ n * (a / 2 ^ n) := by
      rw [← Int.mul_assoc, ← Int.mul_assoc, ← Int.pow_succ, ← Int.pow_add, show k + 1 + (n - k - 1) = n by omega]
    rw [e, hL]
    have := Int.emod_add_mul_ediv a (2 ^ n)
    omega
  have e2 : a / 2 ^ k = (lowN n a : Int) / 2 ^ k + 2 * m := by
    rw [hm, Int.add_mul_ediv_left _ _ (by omega)]
    rw [← hm]
  rw [e2]
  have e3 : ((lowN n a / 2 ^ k % 2 : Nat) : Int) = (lowN n a : Int) / 2 ^ k % 2 := by simp
  rw [e3]
  omega

theorem rev_rev {n : Nat} (hn : n ≤ 32) (a : Int) : revN n (lowN n ((revN n (lowN n a) : Nat) : Int)) = lowN n a := by
  have hr := revN_lt hn (lowN n a)
  have hp := pow_le32 hn
  have e : lowN n ((revN n (lowN n a) : Nat) : Int) = revN n (lowN n a) := by
    show (BitVec.ofInt 64 ((revN n (lowN n a) : Nat) : Int)).toNat % 2 ^ n = revN n (lowN n a)
    rw [BitVec.ofInt_natCast, BitVec.toNat_ofNat]
    generalize 2 ^ n = q at *
    rw [Nat.mod_eq_of_lt (show revN n (lowN n a) < 2 ^ 64 by omega), Nat.mod_eq_of_lt hr]
  rw [e]
  apply Nat.eq_of_testBit_eq
  intro i
  rw [revN_bit hn, revN_bit hn]
  by_cases h : i < n
  · have h2 : n - 1 - i < n := by omega
    rw [show n - 1 - (n - 1 - i) = i by omega]
    simp [h, h2]
  · have : (lowN n a).testBit i = false := Nat.testBit_lt_two_pow (Nat.lt_of_lt_of_le (lowN_lt n a) (Nat.pow_le_pow_right (by decide) (by omega)))
    simp [h, this]


theorem F14_loop (N : Nat) : ∀ (k : Nat) (r : List Bool) (b : List Int), r.length / 8 < k → b.length + r.length ≤ 140737488355328 →
    F14_30 N k ((val r : Int), (r.length : Int), b) = some (lastF r, nF r, b ++ bF r) := by
  intro k
  induction k with
  | zero => intro r b h; omega
  | succ k ih =>
    intro r b h hb
    simp only [F14_30, B14_30, iteP_eq]
    by_cases h8 : 8 ≤ r.length
    · rw [if_pos (by simp; omega), if_pos (by simp; omega)]
      have e1 : Int.fdiv (val r : Int) 256 = (val (r.drop 8) : Int) := by
        rw [Int.fdiv_eq_ediv_of_nonneg _ (by decide), ← val_div r 8 h8]; simp
      have e2 : IntKind.wrap .i64 ((r.length : Int) - 8) = ((r.drop 8).length : Int) := by
        rw [wrap_i64 (by omega) (by omega), List.length_drop]; omega
      have e3 : IntKind.wrap .u8 (val r : Int) = (val (r.take 8) : Int) := by
        rw [wrap_u8, ← val_mod r 8 h8]; simp
      rw [e1, e2, e3, ih (r.drop 8) _ (by rw [List.length_drop]; omega) (by simp; omega)]
      have hk : r.length / 8 = (r.drop 8).length / 8 + 1 := by rw [List.length_drop]; omega
      have f1 : bF r = (val (r.take 8) : Int) :: bF (r.drop 8) := by
        unfold bF; rw [hk, bytesF]
      have f2 : restF r = restF (r.drop 8) := by
        unfold restF; rw [List.drop_drop, hk]; congr 1; omega
      have f3 : nF r = nF (r.drop 8) := by
        unfold nF; rw [List.length_drop]; congr 1; omega
      simp only [Option.bind_some, lastF, f1, f2, f3, List.append_assoc, List.singleton_append]
    · rw [if_neg (by simp; omega)]
      have hk : r.length / 8 = 0 := by omega
      have f1 : bF r = [] := by unfold bF; rw [hk]; rfl
      have f2 : restF r = r := by unfold restF; rw [hk]; rfl
      have f3 : nF r = (r.length : Int) := by unfold nF; congr 1; omega
      simp only [lastF, f1, f2, f3, List.append_nil]

/-- What 'Bits' puts in. -/
def putB (n v : Int) : List Bool := bitsN (clampN n) (lowN (clampN n) v)

theorem F14_bits {N : Nat} (hN : 6 ≤ N) (m : List Bool) (hm : m.length ≤ 1000000000) (n v : Int) :
    F14 N (n, v, lastF m, nF m, bF m) = some (lastF (m ++ putB n v), nF (m ++ putB n v), bF (m ++ putB n v)) := by
  have hc := clampN_le n
  have hl := lowN_lt (clampN n) v
  have hr := val_lt (restF m)
  have hrl := restF_length m
  have h8 : (restF m).length < 8 := by omega
  simp only [F14, iteP_eq]
  rw [F44_clamp, Option.bind_some, F45_low N hc, Option.bind_some, if_neg (by unfold nF; simp only [decide_eq_true_eq]; omega)]
  have e1 : IntKind.wrap .i64 ((BitVec.toNat (BitVec.ofInt 64 (lastF m) ||| BitVec.ofInt 64 (IntKind.wrap .i64 (((lowN (clampN n) v : Nat) : Int) * 2 ^ min (Int.toNat (nF m)) 64))) : Nat) : Int) = (val (restF m ++ putB n v) : Int) := by
    unfold lastF nF
    rw [← hrl, or_eq hr hl (by omega), val_append]
    unfold putB
    rw [val_bitsN, Nat.mod_eq_of_lt hl]
  have e2 : IntKind.wrap .i64 (nF m + (clampN n : Int)) = ((restF m ++ putB n v).length : Int) := by
    unfold nF putB
    rw [wrap_i64 (by omega) (by omega), List.length_append, bitsN_length, hrl]; omega
  have hlen : (restF m ++ putB n v).length < 40 := by
    unfold putB; rw [List.length_append, bitsN_length]; omega
  have hb := bF_len m
  rw [e1, e2, F14_loop N N _ _ (by omega) (by omega), Option.bind_some]
  obtain ⟨p1, p2, p3⟩ := parts m (putB n v)
  simp only [lastF, p1, p2, p3]

def sbit (s : ByteArray) (j : Nat) : Bool := (s.data.toList.getD (j / 8) 0).toNat.testBit (j % 8)
def sbits (s : ByteArray) (at_ k : Nat) : List Bool := (List.range k).map fun i => sbit s (at_ + i)
theorem sbits_length (s : ByteArray) (p k : Nat) : (sbits s p k).length = k := by simp [sbits]
theorem sbits_succ (s : ByteArray) (p k : Nat) : sbits s p (k + 1) = sbits s p k ++ [sbit s (p + k)] := by
  unfold sbits; rw [List.range_succ, List.map_append]; rfl

theorem byte_at (s : ByteArray) (i : Nat) (h : i < s.size) : s[i]? = some (s.data.toList.getD i 0) := by
  have h' : i < s.data.toList.length := by simpa using h
  rw [getElem?_pos s i h]
  congr 1
  have h2 : i < s.data.size := h
  simp only [List.getD, ByteArray.getElem_eq_getElem_data, Array.getElem?_toList]
  rw [Array.getElem?_eq_getElem h2]; rfl

theorem stringOf_append (xs ys : List Int) : stringOf xs ++ stringOf ys = stringOf (xs ++ ys) := by
  unfold stringOf
  apply ByteArray.ext
  simp

theorem stringOf_size (xs : List Int) : (stringOf xs).size = xs.length := by
  unfold stringOf
  show (List.toArray _).size = _
  simp

/-- All the bytes, the last one filled up. -/
def allF (m : List Bool) : List Int := bytesF ((m.length + 7) / 8) m
def strF (m : List Bool) : ByteArray := stringOf (allF m)

theorem strF_size (m : List Bool) : (strF m).size = (m.length + 7) / 8 := by
  unfold strF allF; rw [stringOf_size, bytesF_len]

theorem F19_string (N : Nat) (m : List Bool) (hm : m.length ≤ 1000000000) : F19 N (bF m, lastF m, nF m, ()) = some (strF m) := by
  simp only [F19, iteP_eq]
  have hb := bF_len m
  have hr := val_lt (restF m)
  rw [restF_length] at hr
  by_cases h : m.length % 8 = 0
  · rw [if_neg (by unfold nF; simp only [decide_eq_true_eq]; omega)]
    have : allF m = bF m := by unfold allF bF; congr 1; omega
    unfold strF; rw [this]
  · rw [if_pos (by unfold nF; simp only [decide_eq_true_eq]; omega)]
    have hp : 2 ^ (m.length % 8) ≤ 256 := Nat.pow_le_pow_right (n := 2) (by decide) (show m.length % 8 ≤ 8 by omega)
    have e : IntKind.wrap .u8 (lastF m) = lastF m := by
      rw [wrap_u8]; unfold lastF; omega
    rw [if_neg (by rw [stringOf_size, stringOf_size]; simp only [decide_eq_true_eq, List.length_singleton]; omega), e, stringOf_append]
    have : allF m = bF m ++ [lastF m] := by
      unfold allF bF lastF restF
      rw [show (m.length + 7) / 8 = m.length / 8 + 1 by omega, bytesF_snoc, List.take_of_length_le (by rw [List.length_drop]; omega)]
    unfold strF; rw [this]

theorem F18_len (N : Nat) (m : List Bool) (hm : m.length ≤ 1000000000) : F18 N (bF m, lastF m, nF m, ()) = some (m.length : Int) := by
  simp only [F18, iteP_eq]
  have hb := bF_len m
  have e : IntKind.wrap .i64 (IntKind.wrap .i64 ((8 : Int) * ((bF m).length : Int)) + nF m) = (m.length : Int) := by
    unfold nF
    rw [wrap_i64 (z := (8 : Int) * ((bF m).length : Int)) (by omega) (by omega), wrap_i64 (by omega) (by omega)]; omega
  rw [e]

theorem bytesF_get : ∀ (k : Nat) (m : List Bool) (i : Nat), i < k → (bytesF k m)[i]? = some ((val ((m.drop (8 * i)).take 8) : Nat) : Int)
  | 0, m, i, h => by omega
  | k + 1, m, 0, h => by simp [bytesF]
  | k + 1, m, i + 1, h => by
    rw [bytesF, List.getElem?_cons_succ, bytesF_get k _ i (by omega), List.drop_drop, show 8 + 8 * i = 8 * (i + 1) by omega]

/-- The bits of the bytes are the bits. -/
theorem sbit_strF (m : List Bool) (j : Nat) : sbit (strF m) j = m.getD j false := by
  unfold sbit
  have hd : (strF m).data.toList = (allF m).map fun n => UInt8.ofNat n.toNat := by unfold strF stringOf; simp
  rw [hd]
  by_cases h : j / 8 < (m.length + 7) / 8
  · have e : ((allF m).map fun n => UInt8.ofNat n.toNat).getD (j / 8) 0 = UInt8.ofNat (val ((m.drop (8 * (j / 8))).take 8)) := by
      unfold allF
      rw [List.getD, List.getElem?_map, bytesF_get _ _ _ h]
      simp
    have hv := val_lt ((m.drop (8 * (j / 8))).take 8)
    have hp : 2 ^ ((m.drop (8 * (j / 8))).take 8).length ≤ 256 := Nat.pow_le_pow_right (n := 2) (by decide) (show _ ≤ 8 by rw [List.length_take]; omega)
    rw [e, UInt8.toNat_ofNat', Nat.mod_eq_of_lt (by show _ < 256; omega), val_bit, List.getD, List.getElem?_take_of_lt (by omega), List.getElem?_drop, show 8 * (j / 8) + j % 8 = j by omega]
    rfl
  · have e : ((allF m).map fun n => UInt8.ofNat n.toNat).getD (j / 8) 0 = 0 := by
      unfold allF
      rw [List.getD, List.getElem?_eq_none (by rw [List.length_map, bytesF_len]; omega)]; rfl
    rw [e, List.getD, List.getElem?_eq_none (by omega)]
    simp

theorem sbits_strF (a s r : List Bool) : sbits (strF (a ++ s ++ r)) a.length s.length = s := by
  apply List.ext_getElem?
  intro i
  unfold sbits
  by_cases h : i < s.length
  · rw [List.getElem?_map, List.getElem?_range h]
    simp only [Option.map_some, sbit_strF, List.getD]
    rw [List.append_assoc, List.getElem?_append_right (by omega), show a.length + i - a.length = i by omega, List.getElem?_append_left h, List.getElem?_eq_getElem h]
    rfl
  · rw [List.getElem?_eq_none (by simp; omega), List.getElem?_eq_none (by omega)]

theorem putB_length (n v : Int) : (putB n v).length = clampN n := by simp [putB]
theorem val_putB (n v : Int) : val (putB n v) = lowN (clampN n) v := by
  unfold putB
  rw [val_bitsN, Nat.mod_eq_of_lt (lowN_lt _ _)]

theorem getD_bitsN (n L i : Nat) : (bitsN n L)[i]? = if i < n then some (L.testBit i) else none := by
  unfold bitsN
  by_cases h : i < n
  · simp [h]
  · simp [h]

theorem low_testBit (n : Nat) (v : Int) (i : Nat) : (lowN n v).testBit i = (decide (i < n) && (BitVec.ofInt 64 v).toNat.testBit i) := Nat.testBit_mod_two_pow ..

/-- A number's bits in two pieces. -/
theorem put_split {a b : Nat} (h : a + b ≤ 32) (v : Int) (hv1 : -9223372036854775808 ≤ v) (hv2 : v ≤ 9223372036854775807) :
    putB (a : Int) v ++ putB (b : Int) (Int.fdiv v (2 ^ a)) = putB ((a + b : Nat) : Int) v := by
  have c1 : clampN (a : Int) = a := by unfold clampN; omega
  have c2 : clampN (b : Int) = b := by unfold clampN; omega
  have c3 : clampN ((a + b : Nat) : Int) = a + b := by unfold clampN; omega
  unfold putB
  rw [c1, c2, c3]
  apply List.ext_getElem?
  intro i
  by_cases hi : i < a
  · rw [List.getElem?_append_left (by simpa using hi), getD_bitsN, getD_bitsN, if_pos hi, if_pos (by omega), low_testBit, low_testBit]
    simp [hi]; omega
  · rw [List.getElem?_append_right (by simp; omega), bitsN_length, getD_bitsN, getD_bitsN]
    by_cases hj : i < a + b
    · rw [if_pos (by omega), if_pos hj, low_testBit, low_testBit]
      have hs : Int.fdiv v (2 ^ a) = ((BitVec.ofInt 64 v).sshiftRight a).toInt := by
        rw [BitVec.toInt_sshiftRight, BitVec.toInt_ofInt, Int.shiftRight_eq_div_pow, Int.fdiv_eq_ediv_of_nonneg _ (Int.pow_nonneg (by decide))]
        rw [Int.bmod_eq_of_le (by omega) (by omega)]
        simp
      have hb : ((BitVec.ofInt 64 v).sshiftRight a).getLsbD (i - a) = (BitVec.ofInt 64 v).getLsbD i := by
        rw [BitVec.getLsbD_sshiftRight, if_pos (by omega), show a + (i - a) = i by omega]
        simp; omega
      rw [hs, BitVec.ofInt_toInt]
      unfold BitVec.getLsbD at hb
      rw [hb]
      simp [hj]; omega
    · rw [if_neg (by omega), if_neg hj]

end Go.Proofs.YteddgkplkjldcaaGreat.Am

namespace Go.Proofs.YteddgkplkjldcaaGreat.Am
open Go.Am
set_option linter.unusedSimpArgs false
set_option linter.unusedVariables false

/-! ### The document's functions, by lists of bits -/
theorem F50_clamp (N : Nat) (b : Int) : F50 N b = some (clampN b : Int) := by
  show some _ = _
  rw [← clamp_eq]

theorem fdiv_two (v : Int) (i : Nat) : Int.fdiv (Int.fdiv v (2 ^ i)) 2 = Int.fdiv v (2 ^ (i + 1)) := by
  have h : (0 : Int) ≤ 2 ^ i := Int.pow_nonneg (by decide)
  rw [Int.fdiv_eq_ediv_of_nonneg _ (by decide), Int.fdiv_eq_ediv_of_nonneg _ h, Int.fdiv_eq_ediv_of_nonneg _ (Int.pow_nonneg (by decide)), Int.ediv_ediv_of_nonneg h, Int.pow_succ]

theorem bit_at {n i : Nat} (hn : n ≤ 32) (hi : i < n) (v : Int) :
    (IntKind.wrap .i64 ((BitVec.toNat (BitVec.ofInt 64 (Int.fdiv v (2 ^ i)) &&& BitVec.ofInt 64 1) : Nat) : Int) == 1) = (lowN n v).testBit i := by
  rw [bit1, bit_low hn hi, Nat.testBit_eq_decide_div_mod_eq]
  have := Nat.mod_two_eq_zero_or_one (lowN n v / 2 ^ i)
  generalize lowN n v / 2 ^ i % 2 = q at *
  rcases this with rfl | rfl <;> rfl

theorem F17_loop (N : Nat) (n v : Int) : ∀ (d i f : Nat), i + d = clampN n → d < f → F17_58 N f (Int.fdiv v (2 ^ i), (i : Int), n, (putB n v).take i) = some (putB n v) := by
  have hc := clampN_le n
  have hl := putB_length n v
  intro d
  induction d with
  | zero =>
    intro i f hi hf
    cases f with
    | zero => omega
    | succ f =>
      simp only [F17_58, B17_58, iteP_eq]
      rw [F50_clamp, Option.bind_some, if_neg (by simp; omega), List.take_of_length_le (by omega)]
  | succ d ih =>
    intro i f hi hf
    cases f with
    | zero => omega
    | succ f =>
      simp only [F17_58, B17_58, iteP_eq]
      rw [F50_clamp, Option.bind_some, if_pos (by simp; omega), if_pos (by simp; omega), fdiv_two, bit_at hc (by omega), wrap_i64 (by omega) (by omega)]
      have e : (putB n v).take i ++ [(lowN (clampN n) v).testBit i] = (putB n v).take (i + 1) := by
        rw [List.take_add_one]
        unfold putB
        rw [getD_bitsN, if_pos (by omega)]; rfl
      rw [e, show ((i : Int) + 1) = ((i + 1 : Nat) : Int) by omega, ih (i + 1) f (by omega) (by omega), Option.bind_some]

theorem F17_of {N : Nat} (hN : 33 ≤ N) (n v : Int) : F17 N (n, v) = some (putB n v) := by
  have hc := clampN_le n
  simp only [F17, iteP_eq]
  have h := F17_loop N n v (clampN n) 0 N (by omega) (by omega)
  simp only [Int.pow_zero, Int.fdiv_one, List.take_zero] at h
  rw [show ((0 : Nat) : Int) = 0 from rfl] at h
  rw [h, Option.bind_some]

theorem F51_loop (N : Nat) (l : List Bool) (hl : l.length ≤ 62) : ∀ (i f : Nat), i ≤ l.length → i < f → F51_58 N f ((val (l.drop i) : Int), (i : Int) - 1, l) = some (val l : Int) := by
  intro i
  induction i with
  | zero =>
    intro f _ hf
    cases f with
    | zero => omega
    | succ f =>
      simp only [F51_58, B51_58, iteP_eq]
      rw [if_neg (by simp)]
      rfl
  | succ i ih =>
    intro f hi hf
    cases f with
    | zero => omega
    | succ f =>
      simp only [F51_58, B51_58, iteP_eq]
      have hv := val_lt (l.drop (i + 1))
      rw [List.length_drop] at hv
      have hp : 2 ^ (l.length - (i + 1)) ≤ 2305843009213693952 := Nat.pow_le_pow_right (n := 2) (by decide) (show _ ≤ 61 by omega)
      have e0 : (((i + 1 : Nat) : Int) - 1) = (i : Int) := by omega
      have hd : l.drop i = l[i] :: l.drop (i + 1) := List.drop_eq_getElem_cons (by omega)
      rw [e0, if_pos (by simp), if_pos (by unfold within; simp; omega), Int.toNat_natCast, List.getElem?_eq_getElem (by omega), Option.bind_some, wrap_i64 (z := (val (l.drop (i + 1)) : Int) * 2) (by omega) (by omega)]
      rw [wrap_i64 (z := (val (l.drop (i + 1)) : Int) * 2 + 1) (by omega) (by omega), wrap_i64 (z := (i : Int) - 1) (by omega) (by omega)]
      have ih' := ih f (by omega) (by omega)
      rw [hd, val] at ih'
      cases hb : l[i] with
      | true =>
        rw [hb] at ih'
        rw [if_pos rfl]
        rw [show (val (l.drop (i + 1)) : Int) * 2 + 1 = ((true.toNat + 2 * val (l.drop (i + 1)) : Nat) : Int) by simp; omega, ih', Option.bind_some]
      | false =>
        rw [hb] at ih'
        rw [if_neg (by simp)]
        rw [show (val (l.drop (i + 1)) : Int) * 2 = ((false.toNat + 2 * val (l.drop (i + 1)) : Nat) : Int) by simp; omega, ih', Option.bind_some]

theorem F51_number {N : Nat} (l : List Bool) (hl : l.length ≤ 62) (hN : 63 ≤ N) : F51 N l = some (val l : Int) := by
  simp only [F51, iteP_eq]
  have h := F51_loop N l hl l.length N (Nat.le_refl _) (by omega)
  rw [List.drop_length, show (val [] : Int) = 0 from rfl] at h
  rw [wrap_i64 (by omega) (by omega), h, Option.bind_some]

/-- The code's and the document's number of a code the other way round. -/
theorem revN_val (n v : Int) : revN (clampN n) (lowN (clampN n) v) = val (putB n v).reverse := by
  have hc := clampN_le n
  apply Nat.eq_of_testBit_eq
  intro i
  rw [revN_bit hc, val_bit]
  have hl := putB_length n v
  by_cases h : i < clampN n
  · rw [List.getD, List.getElem?_reverse (by omega), hl]
    unfold putB
    rw [getD_bitsN, if_pos (by omega)]
    simp [h]
  · rw [List.getD, List.getElem?_eq_none (by rw [List.length_reverse]; omega)]
    simp [h]

/-! ### Whole bytes -/
def padN (m : List Bool) : Nat := (8 - m.length % 8) % 8
def alignL (m : List Bool) : List Bool := m ++ List.replicate (padN m) false

theorem alignL_length (m : List Bool) : (alignL m).length = 8 * ((m.length + 7) / 8) := by
  unfold alignL padN; rw [List.length_append, List.length_replicate]; omega

theorem F49_loop (N : Nat) : ∀ (d : Nat) (m : List Bool) (f : Nat), padN m = d → d < f → m.length ≤ 1000000000 → F49_12 N f m = some (alignL m) := by
  intro d
  induction d with
  | zero =>
    intro m f hd hf hm
    cases f with
    | zero => omega
    | succ f =>
      simp only [F49_12, B49_12, iteP_eq]
      have : m.length % 8 = 0 := by unfold padN at hd; omega
      rw [if_neg (by rw [Int.tmod_eq_emod_of_nonneg (by omega)]; simp; omega)]
      unfold alignL; rw [hd]; simp
  | succ d ih =>
    intro m f hd hf hm
    cases f with
    | zero => omega
    | succ f =>
      simp only [F49_12, B49_12, iteP_eq]
      have h8 : m.length % 8 ≠ 0 := by unfold padN at hd; omega
      have hp : padN (m ++ [false]) = d := by unfold padN at *; rw [List.length_append, List.length_singleton]; omega
      rw [if_pos (by rw [Int.tmod_eq_emod_of_nonneg (by omega)]; simp; omega), if_pos (by simp; omega), ih (m ++ [false]) f hp (by omega) (by simp; unfold padN at hd; omega), Option.bind_some]
      unfold alignL
      rw [hp, hd, List.append_assoc, List.replicate_succ]
      rfl

theorem F49_align {N : Nat} (hN : 8 ≤ N) (m : List Bool) (hm : m.length ≤ 1000000000) : F49 N m = some (alignL m) := by
  simp only [F49, iteP_eq]
  rw [F49_loop N _ m N rfl (by unfold padN; omega) hm, Option.bind_some]

theorem putB_zero (k : Nat) (hk : k ≤ 32) : putB (k : Int) 0 = List.replicate k false := by
  have c : clampN (k : Int) = k := by unfold clampN; omega
  unfold putB lowN
  rw [c]
  apply List.ext_getElem?
  intro i
  rw [getD_bitsN, List.getElem?_replicate]
  simp

theorem F47_align {N : Nat} (hN : 6 ≤ N) (m : List Bool) (hm : m.length ≤ 1000000000) : F47 N (lastF m, nF m, bF m) = some (lastF (alignL m), nF (alignL m), bF (alignL m)) := by
  simp only [F47, iteP_eq]
  have e : Int.tmod (IntKind.wrap .i64 ((8 : Int) - nF m)) (8 : Int) = ((padN m : Nat) : Int) := by
    unfold nF
    rw [wrap_i64 (by omega) (by omega), Int.tmod_eq_emod_of_nonneg (by omega)]
    unfold padN; omega
  rw [e, F14_bits hN m hm, Option.bind_some, putB_zero _ (by unfold padN; omega)]
  rfl

theorem val_pad : ∀ (l : List Bool) (k : Nat), val (l ++ List.replicate k false) = val l := by
  intro l k
  rw [val_append]
  have : val (List.replicate k false) = 0 := by
    induction k with
    | zero => rfl
    | succ k ih => rw [List.replicate_succ, val, ih]; rfl
  rw [this]; simp

theorem bytesF_pad : ∀ (k : Nat) (m : List Bool) (j : Nat), bytesF k (m ++ List.replicate j false) = bytesF k m
  | 0, _, _ => rfl
  | k + 1, m, j => by
    rw [bytesF, bytesF]
    have e1 : val ((m ++ List.replicate j false).take 8) = val (m.take 8) := by
      rw [List.take_append, List.take_replicate, val_pad]
    have e2 : (m ++ List.replicate j false).drop 8 = m.drop 8 ++ List.replicate (j - (8 - m.length)) false := by
      rw [List.drop_append, List.drop_replicate]
    rw [e1, e2, bytesF_pad k]

theorem allF_align (m : List Bool) : bytesF ((m.length + 7) / 8) (alignL m) = allF m := bytesF_pad _ _ _

theorem stringOf_nil : stringOf [] = ByteArray.mk #[] := rfl

theorem F20_loop (N : Nat) (hN : 63 ≤ N) (q : List Bool) (k : Nat) (hq : q.length = 8 * k) (hk : k ≤ 100000000) : ∀ (d j f : Nat), j + d = k → d < f →
    F20_506 N f (stringOf ((bytesF k q).take j), ((8 * j : Nat) : Int), q) = some (stringOf (bytesF k q)) := by
  have hlen := bytesF_len k q
  intro d
  induction d with
  | zero =>
    intro j f hj hf
    cases f with
    | zero => omega
    | succ f =>
      simp only [F20_506, B20_506, iteP_eq]
      rw [if_neg (by simp; omega), List.take_of_length_le (by omega)]
  | succ d ih =>
    intro j f hj hf
    cases f with
    | zero => omega
    | succ f =>
      simp only [F20_506, B20_506, iteP_eq]
      have e1 : IntKind.wrap .i64 (((8 * j : Nat) : Int) + 8) = ((8 * (j + 1) : Nat) : Int) := by
        rw [wrap_i64 (by omega) (by omega)]; omega
      rw [e1, if_pos (by simp; omega), if_pos (by simp; omega), if_pos (by simp; omega), Int.toNat_natCast, Int.toNat_natCast, show 8 * (j + 1) - 8 * j = 8 by omega]
      rw [F51_number _ (by rw [List.length_take, List.length_drop]; omega) hN, Option.bind_some]
      have hv := val_lt ((q.drop (8 * j)).take 8)
      have hp : 2 ^ ((q.drop (8 * j)).take 8).length ≤ 256 := Nat.pow_le_pow_right (n := 2) (by decide) (show _ ≤ 8 by rw [List.length_take]; omega)
      have e2 : IntKind.wrap .u8 (val ((q.drop (8 * j)).take 8) : Int) = (val ((q.drop (8 * j)).take 8) : Int) := by rw [wrap_u8]; omega
      rw [e2, if_neg (by rw [stringOf_size, stringOf_size, List.length_take]; simp; omega), stringOf_append]
      have e3 : (bytesF k q).take j ++ [(val ((q.drop (8 * j)).take 8) : Int)] = (bytesF k q).take (j + 1) := by
        rw [List.take_add_one (i := j), bytesF_get k q j (by omega)]; rfl
      rw [e3, ih (j + 1) f (by omega) (by omega), Option.bind_some]

theorem F20_text {N : Nat} (m : List Bool) (hm : m.length ≤ 700000) (hN : 100000 ≤ N) : F20 N m = some (strF m) := by
  simp only [F20, iteP_eq]
  rw [if_pos (by simp; omega), F49_align (by omega) m (by omega), Option.bind_some]
  have h := F20_loop N (by omega) (alignL m) ((m.length + 7) / 8) (alignL_length m) (by omega) ((m.length + 7) / 8) 0 N (by omega) (by omega)
  simp only [List.take_zero, stringOf_nil, Nat.mul_zero] at h
  rw [show ((0 : Nat) : Int) = 0 from rfl] at h
  rw [h, Option.bind_some, allF_align]
  rfl

/-! ### A text's bits -/
def bitsOf (l : List UInt8) : List Bool := l.flatMap fun x => bitsN 8 x.toNat
def allB (s : ByteArray) : List Bool := bitsOf s.data.toList

theorem bitsOf_length : ∀ l : List UInt8, (bitsOf l).length = 8 * l.length
  | [] => rfl
  | x :: l => by
    unfold bitsOf
    rw [List.flatMap_cons, List.length_append, bitsN_length]
    have := bitsOf_length l
    unfold bitsOf at this
    rw [this, List.length_cons]; omega
theorem allB_length (s : ByteArray) : (allB s).length = 8 * s.size := by
  unfold allB; rw [bitsOf_length]; simp

theorem bitsOf_append (a b : List UInt8) : bitsOf (a ++ b) = bitsOf a ++ bitsOf b := List.flatMap_append

theorem putB_byte (x : UInt8) : putB 8 (x.toNat : Int) = bitsN 8 x.toNat := by
  have c : clampN 8 = 8 := rfl
  have := x.toNat_lt
  unfold putB lowN
  rw [c, BitVec.ofInt_natCast, BitVec.toNat_ofNat, Nat.mod_eq_of_lt (show x.toNat < 2 ^ 64 by omega), Nat.mod_eq_of_lt (show x.toNat < 2 ^ 8 by omega)]

theorem F22_loop (N : Nat) (hN : 33 ≤ N) (s : ByteArray) (hs : s.size ≤ 1000000000) : ∀ (d i f : Nat), i + d = s.size → d < f → F22_58 N f ((i : Int), s, bitsOf (s.data.toList.take i)) = some (allB s) := by
  intro d
  have hsl : s.data.toList.length = s.size := by simp
  induction d with
  | zero =>
    intro i f hi hf
    cases f with
    | zero => omega
    | succ f =>
      simp only [F22_58, B22_58, iteP_eq]
      rw [if_neg (by simp; omega), List.take_of_length_le (by omega)]
      rfl
  | succ d ih =>
    intro i f hi hf
    cases f with
    | zero => omega
    | succ f =>
      simp only [F22_58, B22_58, iteP_eq]
      have hb := (s.data.toList.getD i 0).toNat_lt
      rw [if_pos (by simp; omega), if_pos (by simp), Int.toNat_natCast, byte_at s i (by omega), Option.bind_some, wrap_i64 (z := ((s.data.toList.getD i 0).toNat : Int)) (by omega) (by omega), F17_of hN, Option.bind_some, putB_byte]
      have hL := bitsOf_length (s.data.toList.take i)
      rw [List.length_take] at hL
      rw [if_pos (by rw [hL, bitsN_length]; simp; omega), wrap_i64 (by omega) (by omega)]
      have e : bitsOf (s.data.toList.take i) ++ bitsN 8 (s.data.toList.getD i 0).toNat = bitsOf (s.data.toList.take (i + 1)) := by
        rw [List.take_add_one, bitsOf_append, List.getElem?_eq_getElem (by omega), List.getD, List.getElem?_eq_getElem (by omega)]
        simp [bitsOf]
      rw [e, show ((i : Int) + 1) = ((i + 1 : Nat) : Int) by omega, ih (i + 1) f (by omega) (by omega), Option.bind_some]

theorem F22_all {N : Nat} (s : ByteArray) (hs : s.size ≤ 70000) (hN : 100000 ≤ N) : F22 N s = some (allB s) := by
  simp only [F22, iteP_eq]
  have h := F22_loop N (by omega) s (by omega) s.size 0 N (by omega) (by omega)
  rw [List.take_zero, show bitsOf [] = [] from rfl, show ((0 : Nat) : Int) = 0 from rfl] at h
  rw [h, Option.bind_some]

theorem val_bits8 (x : UInt8) : val (bitsN 8 x.toNat) = x.toNat := by
  have := x.toNat_lt
  rw [val_bitsN, Nat.mod_eq_of_lt (by omega)]

theorem bytesF_bitsOf : ∀ l : List UInt8, bytesF l.length (bitsOf l) = l.map fun x => (x.toNat : Int)
  | [] => rfl
  | x :: l => by
    have e : bitsOf (x :: l) = bitsN 8 x.toNat ++ bitsOf l := by unfold bitsOf; rw [List.flatMap_cons]
    rw [List.length_cons, bytesF, e, List.take_left' (bitsN_length ..), List.drop_left' (bitsN_length ..), val_bits8, bytesF_bitsOf l]
    rfl

theorem toList_data (s : ByteArray) : s.toList = s.data.toList := by
  exact ByteArray.toList_eq s

theorem bytesOf_eq (s : ByteArray) : bytesOf s = s.data.toList.map fun x => (x.toNat : Int) := by
  unfold bytesOf; rw [toList_data]
end Go.Proofs.YteddgkplkjldcaaGreat.Am

namespace Go.Proofs.YteddgkplkjldcaaGreat.Am
open Go.Am
set_option linter.unusedSimpArgs false
set_option linter.unusedVariables false

abbrev Act := Int × (Int × (Int × (ByteArray × Unit)))

theorem restF_whole {q : List Bool} (h : q.length % 8 = 0) : restF q = [] := by
  apply List.length_eq_zero_iff.1
  rw [restF_length]; exact h

theorem F48_bytes {N : Nat} (hN : 6 ≤ N) (m : List Bool) (hm : m.length ≤ 1000000000) (s : ByteArray) (hs : s.size ≤ 1000000000) :
    F48 N (s, lastF m, nF m, bF m) = some (lastF (alignL m ++ allB s), nF (alignL m ++ allB s), bF (alignL m ++ allB s)) := by
  simp only [F48, iteP_eq]
  have hq := alignL_length m
  have hb := bF_len (alignL m)
  have hbo : (bytesOf s).length = s.size := by rw [bytesOf_eq, List.length_map]; simp
  rw [F47_align hN m hm, Option.bind_some, if_pos (by simp only [hb, hbo, decide_eq_true_eq]; omega)]
  obtain ⟨p1, p2, p3⟩ := parts (alignL m) (allB s)
  have hal := allB_length s
  rw [restF_whole (q := alignL m) (by omega), List.nil_append] at p1 p2 p3
  have e1 : bF (allB s) = bytesOf s := by
    unfold bF
    have hsl : s.data.toList.length = s.size := by simp
    rw [hal, show 8 * s.size / 8 = s.data.toList.length by omega, bytesOf_eq]
    exact bytesF_bitsOf _
  have e2 : restF (allB s) = [] := restF_whole (by omega)
  have e3 : nF (alignL m) = nF (allB s) := by unfold nF; congr 1; omega
  rw [p1, p3, e1]
  simp only [lastF, p2, e2, restF_whole (q := alignL m) (by omega), e3]

end Go.Proofs.YteddgkplkjldcaaGreat.Am

namespace Go.Proofs.YteddgkplkjldcaaGreat.Am
open Go.Am
set_option linter.unusedSimpArgs false
set_option linter.unusedVariables false

/-! ### Blocks of bytes -/
theorem alignL_id {m : List Bool} (h : m.length % 8 = 0) : alignL m = m := by
  unfold alignL
  rw [show padN m = 0 by unfold padN; omega]
  simp

theorem putB_bit (b : Bool) : putB 1 (if b then 1 else 0) = [b] := by cases b <;> rfl
theorem putB_two : putB 2 0 = [false, false] := rfl

theorem xor_piece {n : Nat} (h : n ≤ 65535) : IntKind.wrap .i64 ((BitVec.toNat (BitVec.ofInt 64 (n : Int) ^^^ BitVec.ofInt 64 65535) : Nat) : Int) = ((65535 - n : Nat) : Int) := by
  have e : BitVec.ofInt 64 (65535 : Int) = BitVec.ofNat 64 65535 := rfl
  rw [BitVec.ofInt_natCast, e, BitVec.toNat_xor, BitVec.toNat_ofNat, BitVec.toNat_ofNat, Nat.mod_eq_of_lt (by omega), Nat.mod_eq_of_lt (by decide)]
  have hx : n ^^^ 65535 = 65535 - n := by
    have h2 : (65535 : Nat) = 2 ^ 16 - 1 := rfl
    apply Nat.eq_of_testBit_eq
    intro i
    rw [Nat.testBit_xor, h2, Nat.testBit_two_pow_sub_one, show 2 ^ 16 - 1 - n = 2 ^ 16 - (n + 1) by omega, Nat.testBit_two_pow_sub_succ (by omega)]
    by_cases hi : i < 16
    · simp [hi]
    · have : n.testBit i = false := Nat.testBit_lt_two_pow (Nat.lt_of_lt_of_le (show n < 2 ^ 16 by omega) (Nat.pow_le_pow_right (by decide) (by omega)))
      simp [hi, this]
  rw [hx, wrap_i64 (by omega) (by omega)]

theorem toList_nil (s : ByteArray) : (ByteArray.toList s == []) = decide (s.size = 0) := by
  have h : s.toList.length = s.size := by rw [toList_data]; simp
  cases hl : s.toList with
  | nil =>
    have : s.size = 0 := by rw [hl] at h; exact h.symm
    simp [this]
  | cons x l =>
    have : s.size ≠ 0 := by rw [hl, List.length_cons] at h; omega
    simp [this]

def storedS (m : List Bool) (s : ByteArray) (b : Bool) : List Bool :=
  alignL (m ++ [b, false, false]) ++ putB 16 (s.size : Int) ++ putB 16 ((65535 - s.size : Nat) : Int) ++ allB s

theorem head_bits (b : Bool) (m : List Bool) (hm : m.length ≤ 100000000) (k : Int) : F46 100000 (b, k, lastF m, nF m, bF m) = some (lastF (m ++ ([b] ++ putB 2 k)), nF (m ++ ([b] ++ putB 2 k)), bF (m ++ ([b] ++ putB 2 k))) := by
  simp only [F46, iteP_eq]
  have h2 : (putB 2 k).length = 2 := by rw [putB_length]; rfl
  cases b with
  | true =>
    rw [if_pos rfl, F14_bits (by decide) m (by omega), Option.bind_some, show putB 1 1 = [true] from rfl, F14_bits (by decide) _ (by simp; omega), Option.bind_some, List.append_assoc]
  | false =>
    rw [if_neg (by decide), F14_bits (by decide) m (by omega), Option.bind_some, show putB 1 0 = [false] from rfl, F14_bits (by decide) _ (by simp; omega), Option.bind_some, List.append_assoc]

theorem stored_len (m : List Bool) (s : ByteArray) (b : Bool) : (storedS m s b).length ≤ m.length + 8 * s.size + 50 ∧ (storedS m s b).length % 8 = 0 := by
  have h1 := alignL_length (m ++ [b, false, false])
  have h0 : (m ++ [b, false, false]).length = m.length + 3 := by simp
  have h2 := allB_length s
  have p16 : ∀ v, (putB 16 v).length = 16 := fun v => by rw [putB_length]; rfl
  have h : (storedS m s b).length = (alignL (m ++ [b, false, false])).length + 16 + 16 + (allB s).length := by
    unfold storedS
    rw [List.length_append, List.length_append, List.length_append, p16, p16]
  omega

/-- A block of bytes, written, and by the document. -/
theorem stored_one (s : ByteArray) (hs : s.size ≤ 65535) (b : Bool) (m : List Bool) (hm : m.length ≤ 100000000) : ∃ y1 y2 y3 : Int × Int × List Int,
    F46 100000 (b, 0, lastF m, nF m, bF m) = some y1 ∧ F47 100000 (y1.1, y1.2.1, y1.2.2) = some y2 ∧ F14 100000 (16, (s.size : Int), y2.1, y2.2.1, y2.2.2) = some y3 ∧
    ∃ y4, F14 100000 (16, ((65535 - s.size : Nat) : Int), y3.1, y3.2.1, y3.2.2) = some y4 ∧ F48 100000 (s, y4.1, y4.2.1, y4.2.2) = some (lastF (storedS m s b), nF (storedS m s b), bF (storedS m s b)) := by
  have h1 := head_bits b m hm 0
  rw [putB_two] at h1
  have e : ([b] ++ [false, false]) = [b, false, false] := rfl
  rw [e] at h1
  have hl := alignL_length (m ++ [b, false, false])
  have hl0 : (m ++ [b, false, false]).length = m.length + 3 := by simp
  have p16 : ∀ v, (putB 16 v).length = 16 := fun v => by rw [putB_length]; rfl
  have ha : alignL (alignL (m ++ [b, false, false]) ++ putB 16 (s.size : Int) ++ putB 16 ((65535 - s.size : Nat) : Int)) = alignL (m ++ [b, false, false]) ++ putB 16 (s.size : Int) ++ putB 16 ((65535 - s.size : Nat) : Int) := alignL_id (by
    simp only [List.length_append, p16, hl]; omega)
  have h5 := F48_bytes (N := 100000) (by decide) (alignL (m ++ [b, false, false]) ++ putB 16 (s.size : Int) ++ putB 16 ((65535 - s.size : Nat) : Int)) (by
    simp only [List.length_append, p16, hl]; simp; omega) s (by omega)
  rw [ha] at h5
  exact ⟨_, _, _, h1, F47_align (by decide) _ (by omega), F14_bits (by decide) _ (by rw [hl]; omega) _ _, _, F14_bits (by decide) _ (by rw [List.length_append, p16, hl]; omega) _ _, h5⟩

theorem doc_one (s : ByteArray) (hs : s.size ≤ 65535) (b : Bool) (m : List Bool) (hm : m.length ≤ 100000000) :
    F49 100000 (m ++ [b, false, false]) = some (alignL (m ++ [b, false, false])) ∧ F17 100000 (16, (s.size : Int)) = some (putB 16 (s.size : Int)) ∧ F17 100000 (16, ((65535 - s.size : Nat) : Int)) = some (putB 16 ((65535 - s.size : Nat) : Int)) ∧ F22 100000 s = some (allB s) :=
  ⟨F49_align (by decide) _ (by simp; omega), F17_of (by decide) _ _, F17_of (by decide) _ _, F22_all s (by omega) (by decide)⟩

theorem stored_round (s : ByteArray) (last : Bool) (m : List Bool) (hm : m.length ≤ 100000000) (n : Nat) (hn : n ≤ 65535) (hns : n ≤ s.size) (hp : (if (65535 : Int) < (s.size : Int) then (65535 : Int) else (s.size : Int)) = (n : Int)) :
    ∃ q : List Bool, q.length ≤ m.length + 8 * n + 50 ∧ ∀ f,
      F15_2 100000 (f + 1) (s, last, lastF m, nF m, bF m) = (if n = s.size then some (lastF q, nF q, bF q) else F15_2 100000 f (ByteArray.extract s n s.size, last, lastF q, nF q, bF q)) ∧
      F16_6 100000 (f + 1) (s, last, m) = (if n = s.size then some q else F16_6 100000 f (ByteArray.extract s n s.size, last, q)) := by
  have ht : (ByteArray.extract s 0 n).size = n := by rw [ByteArray.size_extract]; omega
  have hb : (ByteArray.toList (ByteArray.extract s n s.size) == []) = decide (n = s.size) := by
    rw [toList_nil, ByteArray.size_extract, decide_eq_decide]; omega
  have hb2 : ((n : Int) == (s.size : Int)) = decide (n = s.size) := by
    rw [Bool.eq_iff_iff, beq_iff_eq, decide_eq_true_eq]; omega
  have hl : decide ((0 : Int) ≤ (n : Int) ∧ (n : Int) ≤ (s.size : Int)) = true := by rw [decide_eq_true_eq]; omega
  have hx := xor_piece hn
  have hw : IntKind.wrap .i64 ((65535 : Int) - (n : Int)) = ((65535 - n : Nat) : Int) := by rw [wrap_i64 (by omega) (by omega)]; omega
  have p16 : ∀ v, (putB 16 v).length = 16 := fun v => by rw [putB_length]; rfl
  have key : ∀ b, (b = (if last = true then decide (n = s.size) else false)) → ∃ q : List Bool, q.length ≤ m.length + 8 * n + 50 ∧ ∀ f,
      F15_2 100000 (f + 1) (s, last, lastF m, nF m, bF m) = (if n = s.size then some (lastF q, nF q, bF q) else F15_2 100000 f (ByteArray.extract s n s.size, last, lastF q, nF q, bF q)) ∧
      F16_6 100000 (f + 1) (s, last, m) = (if n = s.size then some q else F16_6 100000 f (ByteArray.extract s n s.size, last, q)) := fun b hbb => by
    refine ⟨storedS m (ByteArray.extract s 0 n) b, by have := (stored_len m (ByteArray.extract s 0 n) b).1; omega, fun f => ?_⟩
    obtain ⟨y1, y2, y3, a1, a2, a3, y4, a4, a5⟩ := stored_one (ByteArray.extract s 0 n) (by omega) b m hm
    obtain ⟨c1, c2, c3, c4⟩ := doc_one (ByteArray.extract s 0 n) (by omega) b m hm
    rw [ht] at a3 a4 c2 c3
    have hL := alignL_length (m ++ [b, false, false])
    have hL0 : (m ++ [b, false, false]).length = m.length + 3 := by simp
    have hal := allB_length (ByteArray.extract s 0 n)
    have hq : storedS m (ByteArray.extract s 0 n) b = alignL (m ++ [b, false, false]) ++ putB 16 (n : Int) ++ putB 16 ((65535 - n : Nat) : Int) ++ allB (ByteArray.extract s 0 n) := by unfold storedS; rw [ht]
    have g3 : decide ((m.length + 3) * 1 ≤ 140737488355328 ∧ m.length + 3 ≤ 140737488355328) = true := by rw [decide_eq_true_eq]; omega
    constructor
    · simp only [F15_2, B15_2, iteP_eq, hp, hx, Int.toNat_natCast, hb, hb2, hl, if_true]
      cases last with
      | true =>
        simp only [if_true] at hbb ⊢
        rw [← hbb, a1, Option.bind_some, a2, Option.bind_some, a3, Option.bind_some, a4, Option.bind_some, a5, Option.bind_some]
        simp only [hbb, decide_eq_true_eq]
        split
        · rfl
        · cases F15_2 100000 f (ByteArray.extract s n s.size, true, lastF (storedS m (ByteArray.extract s 0 n) (decide (n = s.size))), nF (storedS m (ByteArray.extract s 0 n) (decide (n = s.size))), bF (storedS m (ByteArray.extract s 0 n) (decide (n = s.size)))) <;> rfl
      | false =>
        simp only [Bool.false_eq_true, if_false] at hbb ⊢
        subst hbb
        rw [a1, Option.bind_some, a2, Option.bind_some, a3, Option.bind_some, a4, Option.bind_some, a5, Option.bind_some]
        simp only [decide_eq_true_eq]
        split
        · rfl
        · cases F15_2 100000 f (ByteArray.extract s n s.size, false, lastF (storedS m (ByteArray.extract s 0 n) false), nF (storedS m (ByteArray.extract s 0 n) false), bF (storedS m (ByteArray.extract s 0 n) false)) <;> rfl
    · simp only [F16_6, B16_6, iteP_eq, hp, hw, Int.toNat_natCast, hb, hl, if_true]
      have d1 : decide (((alignL (m ++ [b, false, false])).length + (putB 16 (n : Int)).length) * 1 ≤ 140737488355328 ∧ (alignL (m ++ [b, false, false])).length + (putB 16 (n : Int)).length ≤ 140737488355328) = true := by rw [decide_eq_true_eq, p16]; omega
      have d2 : decide (((alignL (m ++ [b, false, false]) ++ putB 16 (n : Int)).length + (putB 16 ((65535 - n : Nat) : Int)).length) * 1 ≤ 140737488355328 ∧ (alignL (m ++ [b, false, false]) ++ putB 16 (n : Int)).length + (putB 16 ((65535 - n : Nat) : Int)).length ≤ 140737488355328) = true := by rw [decide_eq_true_eq, p16, List.length_append, p16]; omega
      have d3 : decide (((alignL (m ++ [b, false, false]) ++ putB 16 (n : Int) ++ putB 16 ((65535 - n : Nat) : Int)).length + (allB (ByteArray.extract s 0 n)).length) * 1 ≤ 140737488355328 ∧ (alignL (m ++ [b, false, false]) ++ putB 16 (n : Int) ++ putB 16 ((65535 - n : Nat) : Int)).length + (allB (ByteArray.extract s 0 n)).length ≤ 140737488355328) = true := by rw [decide_eq_true_eq, List.length_append, p16, List.length_append, p16, hal]; omega
      cases last with
      | true =>
        simp only [if_true] at hbb ⊢
        rw [← hbb, show m.length + [b, false, false].length = m.length + 3 from rfl, g3]
        simp only [if_true]
        rw [c1, Option.bind_some, c2, Option.bind_some, d1, c3, Option.bind_some]
        simp only [if_true]
        rw [d2]
        simp only [if_true]
        rw [c4, Option.bind_some, d3, ← hq]
        simp only [if_true, hbb, decide_eq_true_eq]
        split
        · rfl
        · cases F16_6 100000 f (ByteArray.extract s n s.size, true, storedS m (ByteArray.extract s 0 n) (decide (n = s.size))) <;> rfl
      | false =>
        simp only [Bool.false_eq_true, if_false] at hbb ⊢
        subst hbb
        rw [g3]
        simp only [if_true]
        rw [c1, Option.bind_some, c2, Option.bind_some, d1, c3, Option.bind_some]
        simp only [if_true]
        rw [d2]
        simp only [if_true]
        rw [c4, Option.bind_some, d3, ← hq]
        simp only [if_true, decide_eq_true_eq]
        split
        · rfl
        · cases F16_6 100000 f (ByteArray.extract s n s.size, false, storedS m (ByteArray.extract s 0 n) false) <;> rfl
  exact key _ rfl

theorem stored_both : ∀ (d : Nat) (s : ByteArray) (m : List Bool) (last : Bool), s.size ≤ 65535 * d → d ≤ 2 → 0 < d → m.length + 600000 * d ≤ 10000000 → ∃ q : List Bool, q.length ≤ m.length + 8 * s.size + 50 * d ∧ ∀ f, d < f →
    F15_2 100000 f (s, last, lastF m, nF m, bF m) = some (lastF q, nF q, bF q) ∧ F16_6 100000 f (s, last, m) = some q := by
  intro d
  induction d with
  | zero => intro s m last h1 h2 h3; omega
  | succ d ih =>
    intro s m last hs hd _ hm
    by_cases h : s.size ≤ 65535
    · obtain ⟨q, q1, q2⟩ := stored_round s last m (by omega) s.size h (Nat.le_refl _) (if_neg (by omega))
      refine ⟨q, by omega, fun f hf => ?_⟩
      obtain ⟨f, rfl⟩ : ∃ g, f = g + 1 := ⟨f - 1, by omega⟩
      have := q2 f
      rw [if_pos rfl, if_pos rfl] at this
      exact this
    · obtain ⟨n, hn⟩ : ∃ n : Nat, n = 65535 := ⟨_, rfl⟩
      obtain ⟨q, q1, q2⟩ := stored_round s last m (by omega) n (by omega) (by omega) (by rw [if_pos (by omega)]; omega)
      have hsz : (ByteArray.extract s n s.size).size = s.size - n := by rw [ByteArray.size_extract]; omega
      obtain ⟨q', q1', q2'⟩ := ih (ByteArray.extract s n s.size) q last (by omega) (by omega) (by omega) (by omega)
      refine ⟨q', by omega, fun f hf => ?_⟩
      obtain ⟨f, rfl⟩ : ∃ g, f = g + 1 := ⟨f - 1, by omega⟩
      have h1 := q2 f
      rw [if_neg (by omega), if_neg (by omega)] at h1
      have h2 := q2' f (by omega)
      rw [h1.1, h1.2]
      exact h2

theorem law3 (hw : F13 100000 () = some true) (ahead : Int) (s : ByteArray) (last : Bool) : F3 100000 (ahead, s, last) = some true := by
  simp only [F3, iteP_eq]
  rw [hw, Option.bind_some, if_neg (by decide)]
  by_cases h1 : (70000 : Int) < (s.size : Int)
  · rw [if_pos (by simpa using h1)]
  rw [if_neg (by simpa using h1)]
  have hb := F14_bits (N := 100000) (by decide) [] (by decide) ahead (-1)
  rw [show lastF [] = 0 from rfl, show nF [] = 0 from rfl, show bF [] = [] from rfl, List.nil_append] at hb
  have hl := putB_length ahead (-1)
  have hc := clampN_le ahead
  obtain ⟨q, q1, q2⟩ := stored_both 2 s (putB ahead (-1)) last (by omega) (by omega) (by omega) (by omega)
  obtain ⟨a1, a2⟩ := q2 100000 (by omega)
  rw [hb, F17_of (by decide)]
  simp only [F15, F16, iteP_eq, Option.bind_some, a1, a2, if_true]
  rw [F18_len _ _ (by omega), Option.bind_some, if_pos (by simp), F19_string _ _ (by omega), Option.bind_some, F20_text q (by omega) (by decide), Option.bind_some]
  simp
end Go.Proofs.YteddgkplkjldcaaGreat.Am
