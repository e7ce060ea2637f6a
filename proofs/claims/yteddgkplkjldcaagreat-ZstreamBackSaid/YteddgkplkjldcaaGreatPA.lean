/- Bits, codes and searches: what the seat's functions compute, in plain lists. -/
import Derived.Test.YteddgkplkjldcaaGreatSC
import Derived.Test.YteddgkplkjldcaaGreatSB
import Derived.Test.YteddgkplkjldcaaGreatAmC
namespace Go.Proofs.YteddgkplkjldcaaGreat.Am
open Go.Am
theorem works34a : F37 200000 (ByteArray.mk #[97, 98, 99], false, ByteArray.mk #[]) = some (ByteArray.mk #[120, 156, 74, 76, 74, 6, 0, 0, 0, 255, 255], true, ByteArray.mk #[97, 98, 99]) := by kernel_rfl
theorem works34b : F42 200000 (ByteArray.mk #[120, 156, 74, 76, 74, 6, 0, 0, 0, 255, 255], 9, false, ByteArray.mk #[], 0) = some (ByteArray.mk #[97, 98, 99], 0, true, ByteArray.mk #[97, 98, 99], 0) := by kernel_rfl
theorem works34c : F37 200000 (ByteArray.mk #[97, 98, 99, 97, 98, 99], true, ByteArray.mk #[97, 98, 99]) = some (ByteArray.mk #[130, 32, 0, 0, 0, 0, 255, 255], true, ByteArray.mk #[97, 98, 99, 97, 98, 99, 97, 98, 99]) := by kernel_rfl
theorem works34d : F42 200000 (ByteArray.mk #[130, 32, 0, 0, 0, 0, 255, 255], 9, true, ByteArray.mk #[97, 98, 99], 0) = some (ByteArray.mk #[97, 98, 99, 97, 98, 99], 0, true, ByteArray.mk #[97, 98, 99, 97, 98, 99, 97, 98, 99], 0) := by kernel_rfl
theorem works34e : F39 200000 (ByteArray.mk #[97, 98, 99]) = some (ByteArray.mk #[120, 156, 75, 76, 74, 6, 0, 2, 77, 1, 39]) := by kernel_rfl
theorem works34f : F76 200000 (ByteArray.mk #[120, 156, 75, 76, 74, 6, 0, 2, 77, 1, 39, 120], 9) = some (ByteArray.mk #[97, 98, 99], 11, 0) := by kernel_rfl
theorem works34g : F35 200000 (ByteArray.mk #[120, 156]) = some 0 := by kernel_rfl
theorem works34h : F35 200000 (ByteArray.mk #[120, 157]) = some 100 := by kernel_rfl
theorem works34i : ByteArray.mk #[120, 156, 75, 76, 74, 6, 0, 2, 77, 1, 39] ++ ByteArray.mk #[120] = ByteArray.mk #[120, 156, 75, 76, 74, 6, 0, 2, 77, 1, 39, 120] := by kernel_rfl
theorem works34 : F34 200000 () = some true := by
  simp only [F34]
  rw [works34a, Option.bind_some, works34b, Option.bind_some, works34c, Option.bind_some]
  simp only
  rw [works34d, Option.bind_some, works34e, Option.bind_some]
  rw [works34i, works34f, Option.bind_some, works34g, Option.bind_some, works34h, Option.bind_some]
  kernel_rfl
theorem F128_rev (N : Nat) (X : BitVec 64) : F128 N (U X) = some (U (rev64 X)) := by
  simp only [F128, F156, wrapU, ofU, shr1, shr2, shr4, shr8, shr16, shr32, shl1, shl2, shl4, shl8, shl16, shl32, Option.bind_some, iteP_eq]
  rfl
def clampN (b : Int) : Nat := min b.toNat 32
theorem clampN_le (b : Int) : clampN b ≤ 32 := Nat.min_le_right ..
theorem clamp_eq (b : Int) : (if (32 : Int) < (if (0 : Int) > b then (0 : Int) else b) then (32 : Int) else if (0 : Int) > b then (0 : Int) else b) = (clampN b : Int) := by
  unfold clampN
  split <;> split at * <;> omega
theorem F44_clamp (N : Nat) (b : Int) : F44 N b = some (clampN b : Int) := by
  show some _ = _
  rw [← clamp_eq]
def lowN (n : Nat) (v : Int) : Nat := (BitVec.ofInt 64 v).toNat % 2 ^ n
theorem lowN_lt (n : Nat) (v : Int) : lowN n v < 2 ^ n := Nat.mod_lt _ (Nat.pow_pos (by decide))
theorem pow_le32 {n : Nat} (h : n ≤ 32) : 2 ^ n ≤ 4294967296 := Nat.pow_le_pow_right (n := 2) (by decide) h
theorem mask_eq {n : Nat} (hn : n ≤ 32) : IntKind.wrap .i64 ((1 : Int) * 2 ^ min (Int.toNat (n : Int)) 64) = ((2 ^ n : Nat) : Int) := by
  have := pow_le32 hn
  have h1 : min (Int.toNat (n : Int)) 64 = n := by simp; omega
  rw [h1, Int.one_mul, show ((2 : Int) ^ n) = ((2 ^ n : Nat) : Int) by simp]
  generalize 2 ^ n = k at *
  exact wrap_i64 (by omega) (by omega)
theorem low_eq {n : Nat} (hn : n ≤ 32) (v : Int) : IntKind.wrap .i64 ((BitVec.toNat (BitVec.ofInt 64 v &&& BitVec.ofInt 64 (IntKind.wrap .i64 (IntKind.wrap .i64 ((1 : Int) * 2 ^ min (Int.toNat (n : Int)) 64) - 1))) : Nat) : Int) = (lowN n v : Int) := by
  have hp := pow_le32 hn
  have hpos : 0 < 2 ^ n := Nat.pow_pos (by decide)
  have hw : IntKind.wrap .i64 (((2 ^ n : Nat) : Int) - 1) = ((2 ^ n : Nat) : Int) - 1 := by
    generalize 2 ^ n = k at *
    exact wrap_i64 (by omega) (by omega)
  rw [mask_eq hn, hw]
  have e : BitVec.ofInt 64 (((2 ^ n : Nat) : Int) - 1) = BitVec.ofNat 64 (2 ^ n - 1) := by
    rw [show ((2 ^ n : Nat) : Int) - 1 = ((2 ^ n - 1 : Nat) : Int) by generalize 2 ^ n = k at *; omega]
    exact BitVec.ofInt_natCast ..
  have e2 : (BitVec.ofInt 64 v &&& BitVec.ofNat 64 (2 ^ n - 1)).toNat = lowN n v := by
    rw [BitVec.toNat_and, BitVec.toNat_ofNat, Nat.mod_eq_of_lt (by omega), Nat.and_two_pow_sub_one_eq_mod]
    rfl
  rw [e, e2]
  have := lowN_lt n v
  exact wrap_i64 (by omega) (by omega)
theorem F45_low (N : Nat) {n : Nat} (hn : n ≤ 32) (v : Int) : F45 N ((n : Int), v) = some (lowN n v : Int) := by
  show (if decide ((n : Int) < 0) = true then none else some _) = _
  rw [if_neg (by simp)]
  exact congrArg some (low_eq hn v)
def revN (n : Nat) (L : Nat) : Nat := (rev64 (BitVec.ofNat 64 L)).toNat >>> (64 - n)
theorem revN_lt {n : Nat} (hn : n ≤ 32) (L : Nat) : revN n L < 2 ^ n := by
  unfold revN
  rw [Nat.shiftRight_eq_div_pow]
  apply Nat.div_lt_of_lt_mul
  rw [← Nat.pow_add, show 64 - n + n = 64 by omega]
  exact (rev64 _).isLt
theorem revN_bit {n : Nat} (hn : n ≤ 32) {L : Nat} (i : Nat) : (revN n L).testBit i = (decide (i < n) && L.testBit (n - 1 - i)) := by
  unfold revN
  rw [Nat.testBit_shiftRight]
  by_cases h : i < n
  · have := rev64_bit (BitVec.ofNat 64 L) (i := 64 - n + i) (by omega)
    rw [BitVec.getLsbD, BitVec.getLsbD] at this
    rw [this, BitVec.toNat_ofNat, Nat.testBit_mod_two_pow]
    have e : 63 - (64 - n + i) = n - 1 - i := by omega
    rw [e]
    simp [h]; omega
  · have : (rev64 (BitVec.ofNat 64 L)).getLsbD (64 - n + i) = false := BitVec.getLsbD_of_ge _ _ (by omega)
    rw [BitVec.getLsbD] at this
    rw [this]
    simp [h]
theorem F98_rev (N : Nat) (a b : Int) : F98 N (a, b) = some (revN (clampN b) (lowN (clampN b) a) : Int) := by
  have hc := clampN_le b
  have hp := pow_le32 hc
  have hl := lowN_lt (clampN b) a
  simp only [F98, iteP_eq]
  rw [F44_clamp, Option.bind_some, F45_low N hc, Option.bind_some]
  have e1 : IntKind.wrap .u64 ((lowN (clampN b) a : Nat) : Int) = U (BitVec.ofNat 64 (lowN (clampN b) a)) := by
    rw [wrap_u64]; unfold U
    rw [BitVec.toNat_ofNat]
    omega
  rw [e1, F128_rev, Option.bind_some]
  have e2 : IntKind.wrap .i64 ((64 : Int) - (clampN b : Int)) = ((64 - clampN b : Nat) : Int) := by
    rw [wrap_i64 (by omega) (by omega)]; omega
  rw [e2, if_neg (by simp)]
  have e3 : min (Int.toNat ((64 - clampN b : Nat) : Int)) 64 = 64 - clampN b := by
    simp
  rw [e3, shrU]
  congr 1
  have hr := revN_lt hc (lowN (clampN b) a)
  have e4 : U (rev64 (BitVec.ofNat 64 (lowN (clampN b) a)) >>> (64 - clampN b)) = (revN (clampN b) (lowN (clampN b) a) : Int) := by
    unfold U revN
    rw [BitVec.toNat_ushiftRight]
  rw [e4]
  exact wrap_i64 (by omega) (by omega)
theorem bit1 (z : Int) : IntKind.wrap .i64 ((BitVec.toNat (BitVec.ofInt 64 z &&& BitVec.ofInt 64 1) : Nat) : Int) = z % 2 := by
  have e : (BitVec.ofInt 64 z &&& BitVec.ofInt 64 1).toNat = (z % 2).toNat := by
    rw [BitVec.toNat_and, show (BitVec.ofInt 64 1).toNat = 2 ^ 1 - 1 from rfl, Nat.and_two_pow_sub_one_eq_mod, BitVec.toNat_ofInt]
    omega
  rw [e]
  rw [wrap_i64 (by omega) (by omega)]
  omega
theorem bit_low {n k : Nat} (hn : n ≤ 32) (hk : k < n) (a : Int) : (Int.fdiv a (2 ^ k)) % 2 = ((lowN n a / 2 ^ k % 2 : Nat) : Int) := by
  have hpos : (0 : Int) < 2 ^ k := Int.pow_pos (by decide)
  rw [Int.fdiv_eq_ediv_of_nonneg _ (Int.le_of_lt hpos)]
  have hL : (lowN n a : Int) = a % (2 ^ n : Int) := by
    unfold lowN
    rw [BitVec.toNat_ofInt]
    have h64 : (2 ^ n : Int) ∣ (2 ^ 64 : Int) := by
      refine ⟨2 ^ (64 - n), ?_⟩
      rw [← Int.pow_add, show n + (64 - n) = 64 by omega]
    have hm : a % (2 ^ 64 : Int) % (2 ^ n : Int) = a % (2 ^ n : Int) := Int.emod_emod_of_dvd a h64
    rw [← hm]
    have hnn : 0 ≤ a % (2 ^ 64 : Int) := Int.emod_nonneg _ (by decide)
    rw [Int.natCast_emod, Int.toNat_of_nonneg (by simpa using hnn)]
    simp
  obtain ⟨m, hm⟩ : ∃ m : Int, a = (lowN n a : Int) + 2 ^ k * (2 * m) := by
    refine ⟨2 ^ (n - k - 1) * (a / 2 ^ n), ?_⟩
    have e : (2 : Int) ^ k * (2 * (2 ^ (n - k - 1) * (a / 2 ^ n))) = 2 ^ n * (a / 2 ^ n) := by
      rw [← Int.mul_assoc, ← Int.mul_assoc, ← Int.pow_succ, ← Int.pow_add, show k + 1 + (n - k - 1) = n by omega]
    rw [e, hL]
    have := Int.emod_add_mul_ediv a (2 ^ n)
    omega
  have e2 : a / 2 ^ k = (lowN n a : Int) / 2 ^ k + 2 * m := by
    rw [hm, Int.add_mul_ediv_left _ _ (by omega)]
    rw [← hm]
  rw [e2]
  have e3 : ((lowN n a / 2 ^ k % 2 : Nat) : Int) = (lowN n a : Int) / 2 ^ k % 2 := by simp
  rw [e3]
  omega
theorem F14_loop (N : Nat) : ∀ (k : Nat) (r : List Bool) (b : List Int), r.length / 8 < k → b.length + r.length ≤ 140737488355328 →
    F14_30 N k ((val r : Int), (r.length : Int), b) = some (lastF r, nF r, b ++ bF r) := by
  intro k
  induction k with
  | zero => intro r b h; omega
  | succ k ih =>
    intro r b h hb
    simp only [F14_30, B14_30, iteP_eq]
    by_cases h8 : 8 ≤ r.length
    · rw [if_pos (by simp; omega), if_pos (by simp; omega)]
      have e1 : Int.fdiv (val r : Int) 256 = (val (r.drop 8) : Int) := by
        rw [Int.fdiv_eq_ediv_of_nonneg _ (by decide), ← val_div r 8 h8]; simp
      have e2 : IntKind.wrap .i64 ((r.length : Int) - 8) = ((r.drop 8).length : Int) := by
        rw [wrap_i64 (by omega) (by omega), List.length_drop]; omega
      have e3 : IntKind.wrap .u8 (val r : Int) = (val (r.take 8) : Int) := by
        rw [wrap_u8, ← val_mod r 8 h8]; simp
      rw [e1, e2, e3, ih (r.drop 8) _ (by rw [List.length_drop]; omega) (by simp; omega)]
      have hk : r.length / 8 = (r.drop 8).length / 8 + 1 := by rw [List.length_drop]; omega
      have f1 : bF r = (val (r.take 8) : Int) :: bF (r.drop 8) := by
        unfold bF; rw [hk, bytesF]
      have f2 : restF r = restF (r.drop 8) := by
        unfold restF; rw [List.drop_drop, hk]; congr 1; omega
      have f3 : nF r = nF (r.drop 8) := by
        unfold nF; rw [List.length_drop]; congr 1; omega
      simp only [Option.bind_some, lastF, f1, f2, f3, List.append_assoc, List.singleton_append]
    · rw [if_neg (by simp; omega)]
      have hk : r.length / 8 = 0 := by omega
      have f1 : bF r = [] := by unfold bF; rw [hk]; rfl
      have f2 : restF r = r := by unfold restF; rw [hk]; rfl
      have f3 : nF r = (r.length : Int) := by unfold nF; congr 1; omega
      simp only [lastF, f1, f2, f3, List.append_nil]
def putB (n v : Int) : List Bool := bitsN (clampN n) (lowN (clampN n) v)
theorem F14_bits {N : Nat} (hN : 6 ≤ N) (m : List Bool) (hm : m.length ≤ 1000000000) (n v : Int) :
    F14 N (n, v, lastF m, nF m, bF m) = some (lastF (m ++ putB n v), nF (m ++ putB n v), bF (m ++ putB n v)) := by
  have hc := clampN_le n
  have hl := lowN_lt (clampN n) v
  have hr := val_lt (restF m)
  have hrl := restF_length m
  have h8 : (restF m).length < 8 := by omega
  simp only [F14, iteP_eq]
  rw [F44_clamp, Option.bind_some, F45_low N hc, Option.bind_some, if_neg (by unfold nF; simp only [decide_eq_true_eq]; omega)]
  have e1 : IntKind.wrap .i64 ((BitVec.toNat (BitVec.ofInt 64 (lastF m) ||| BitVec.ofInt 64 (IntKind.wrap .i64 (((lowN (clampN n) v : Nat) : Int) * 2 ^ min (Int.toNat (nF m)) 64))) : Nat) : Int) = (val (restF m ++ putB n v) : Int) := by
    unfold lastF nF
    rw [← hrl, or_eq hr hl (by omega), val_append]
    unfold putB
    rw [val_bitsN, Nat.mod_eq_of_lt hl]
  have e2 : IntKind.wrap .i64 (nF m + (clampN n : Int)) = ((restF m ++ putB n v).length : Int) := by
    unfold nF putB
    rw [wrap_i64 (by omega) (by omega), List.length_append, bitsN_length, hrl]; omega
  have hlen : (restF m ++ putB n v).length < 40 := by
    unfold putB; rw [List.length_append, bitsN_length]; omega
  have hb := bF_len m
  rw [e1, e2, F14_loop N N _ _ (by omega) (by omega), Option.bind_some]
  obtain ⟨p1, p2, p3⟩ := parts m (putB n v)
  simp only [lastF, p1, p2, p3]
def sbit (s : ByteArray) (j : Nat) : Bool := (s.data.toList.getD (j / 8) 0).toNat.testBit (j % 8)
def sbits (s : ByteArray) (at_ k : Nat) : List Bool := (List.range k).map fun i => sbit s (at_ + i)
theorem byte_at (s : ByteArray) (i : Nat) (h : i < s.size) : s[i]? = some (s.data.toList.getD i 0) := by
  have h' : i < s.data.toList.length := by simpa using h
  rw [getElem?_pos s i h]
  congr 1
  have h2 : i < s.data.size := h
  simp only [List.getD, ByteArray.getElem_eq_getElem_data, Array.getElem?_toList]
  rw [Array.getElem?_eq_getElem h2]; rfl
theorem stringOf_append (xs ys : List Int) : stringOf xs ++ stringOf ys = stringOf (xs ++ ys) := by
  unfold stringOf
  apply ByteArray.ext
  simp
theorem stringOf_size (xs : List Int) : (stringOf xs).size = xs.length := by
  unfold stringOf
  show (List.toArray _).size = _
  simp
def allF (m : List Bool) : List Int := bytesF ((m.length + 7) / 8) m
def strF (m : List Bool) : ByteArray := stringOf (allF m)
theorem strF_size (m : List Bool) : (strF m).size = (m.length + 7) / 8 := by
  unfold strF allF; rw [stringOf_size, bytesF_len]
theorem F19_string (N : Nat) (m : List Bool) (hm : m.length ≤ 1000000000) : F19 N (bF m, lastF m, nF m, ()) = some (strF m) := by
  simp only [F19, iteP_eq]
  have hb := bF_len m
  have hr := val_lt (restF m)
  rw [restF_length] at hr
  by_cases h : m.length % 8 = 0
  · rw [if_neg (by unfold nF; simp only [decide_eq_true_eq]; omega)]
    have : allF m = bF m := by unfold allF bF; congr 1; omega
    unfold strF; rw [this]
  · rw [if_pos (by unfold nF; simp only [decide_eq_true_eq]; omega)]
    have hp : 2 ^ (m.length % 8) ≤ 256 := Nat.pow_le_pow_right (n := 2) (by decide) (show m.length % 8 ≤ 8 by omega)
    have e : IntKind.wrap .u8 (lastF m) = lastF m := by
      rw [wrap_u8]; unfold lastF; omega
    rw [if_neg (by rw [stringOf_size, stringOf_size]; simp only [decide_eq_true_eq, List.length_singleton]; omega), e, stringOf_append]
    have : allF m = bF m ++ [lastF m] := by
      unfold allF bF lastF restF
      rw [show (m.length + 7) / 8 = m.length / 8 + 1 by omega, bytesF_snoc, List.take_of_length_le (by rw [List.length_drop]; omega)]
    unfold strF; rw [this]
theorem F18_len (N : Nat) (m : List Bool) (hm : m.length ≤ 1000000000) : F18 N (bF m, lastF m, nF m, ()) = some (m.length : Int) := by
  simp only [F18, iteP_eq]
  have hb := bF_len m
  have e : IntKind.wrap .i64 (IntKind.wrap .i64 ((8 : Int) * ((bF m).length : Int)) + nF m) = (m.length : Int) := by
    unfold nF
    rw [wrap_i64 (z := (8 : Int) * ((bF m).length : Int)) (by omega) (by omega), wrap_i64 (by omega) (by omega)]; omega
  rw [e]
theorem bytesF_get : ∀ (k : Nat) (m : List Bool) (i : Nat), i < k → (bytesF k m)[i]? = some ((val ((m.drop (8 * i)).take 8) : Nat) : Int)
  | 0, m, i, h => by omega
  | k + 1, m, 0, h => by simp [bytesF]
  | k + 1, m, i + 1, h => by
    rw [bytesF, List.getElem?_cons_succ, bytesF_get k _ i (by omega), List.drop_drop, show 8 + 8 * i = 8 * (i + 1) by omega]
theorem sbit_strF (m : List Bool) (j : Nat) : sbit (strF m) j = m.getD j false := by
  unfold sbit
  have hd : (strF m).data.toList = (allF m).map fun n => UInt8.ofNat n.toNat := by unfold strF stringOf; simp
  rw [hd]
  by_cases h : j / 8 < (m.length + 7) / 8
  · have e : ((allF m).map fun n => UInt8.ofNat n.toNat).getD (j / 8) 0 = UInt8.ofNat (val ((m.drop (8 * (j / 8))).take 8)) := by
      unfold allF
      rw [List.getD, List.getElem?_map, bytesF_get _ _ _ h]
      simp
    have hv := val_lt ((m.drop (8 * (j / 8))).take 8)
    have hp : 2 ^ ((m.drop (8 * (j / 8))).take 8).length ≤ 256 := Nat.pow_le_pow_right (n := 2) (by decide) (show _ ≤ 8 by rw [List.length_take]; omega)
    rw [e, UInt8.toNat_ofNat', Nat.mod_eq_of_lt (by show _ < 256; omega), val_bit, List.getD, List.getElem?_take_of_lt (by omega), List.getElem?_drop, show 8 * (j / 8) + j % 8 = j by omega]
    rfl
  · have e : ((allF m).map fun n => UInt8.ofNat n.toNat).getD (j / 8) 0 = 0 := by
      unfold allF
      rw [List.getD, List.getElem?_eq_none (by rw [List.length_map, bytesF_len]; omega)]; rfl
    rw [e, List.getD, List.getElem?_eq_none (by omega)]
    simp
theorem putB_length (n v : Int) : (putB n v).length = clampN n := by simp [putB]
theorem val_putB (n v : Int) : val (putB n v) = lowN (clampN n) v := by
  unfold putB
  rw [val_bitsN, Nat.mod_eq_of_lt (lowN_lt _ _)]
theorem getD_bitsN (n L i : Nat) : (bitsN n L)[i]? = if i < n then some (L.testBit i) else none := by
  unfold bitsN
  by_cases h : i < n
  · simp [h]
  · simp [h]
theorem F50_clamp (N : Nat) (b : Int) : F50 N b = some (clampN b : Int) := by
  show some _ = _
  rw [← clamp_eq]
theorem fdiv_two (v : Int) (i : Nat) : Int.fdiv (Int.fdiv v (2 ^ i)) 2 = Int.fdiv v (2 ^ (i + 1)) := by
  have h : (0 : Int) ≤ 2 ^ i := Int.pow_nonneg (by decide)
  rw [Int.fdiv_eq_ediv_of_nonneg _ (by decide), Int.fdiv_eq_ediv_of_nonneg _ h, Int.fdiv_eq_ediv_of_nonneg _ (Int.pow_nonneg (by decide)), Int.ediv_ediv_of_nonneg h, Int.pow_succ]
theorem bit_at {n i : Nat} (hn : n ≤ 32) (hi : i < n) (v : Int) :
    (IntKind.wrap .i64 ((BitVec.toNat (BitVec.ofInt 64 (Int.fdiv v (2 ^ i)) &&& BitVec.ofInt 64 1) : Nat) : Int) == 1) = (lowN n v).testBit i := by
  rw [bit1, bit_low hn hi, Nat.testBit_eq_decide_div_mod_eq]
  have := Nat.mod_two_eq_zero_or_one (lowN n v / 2 ^ i)
  generalize lowN n v / 2 ^ i % 2 = q at *
  rcases this with rfl | rfl <;> rfl
theorem F17_loop (N : Nat) (n v : Int) : ∀ (d i f : Nat), i + d = clampN n → d < f → F17_58 N f (Int.fdiv v (2 ^ i), (i : Int), n, (putB n v).take i) = some (putB n v) := by
  have hc := clampN_le n
  have hl := putB_length n v
  intro d
  induction d with
  | zero =>
    intro i f hi hf
    cases f with
    | zero => omega
    | succ f =>
      simp only [F17_58, B17_58, iteP_eq]
      rw [F50_clamp, Option.bind_some, if_neg (by simp; omega), List.take_of_length_le (by omega)]
  | succ d ih =>
    intro i f hi hf
    cases f with
    | zero => omega
    | succ f =>
      simp only [F17_58, B17_58, iteP_eq]
      rw [F50_clamp, Option.bind_some, if_pos (by simp; omega), if_pos (by simp; omega), fdiv_two, bit_at hc (by omega), wrap_i64 (by omega) (by omega)]
      have e : (putB n v).take i ++ [(lowN (clampN n) v).testBit i] = (putB n v).take (i + 1) := by
        rw [List.take_add_one]
        unfold putB
        rw [getD_bitsN, if_pos (by omega)]; rfl
      rw [e, show ((i : Int) + 1) = ((i + 1 : Nat) : Int) by omega, ih (i + 1) f (by omega) (by omega), Option.bind_some]
theorem F17_of {N : Nat} (hN : 33 ≤ N) (n v : Int) : F17 N (n, v) = some (putB n v) := by
  have hc := clampN_le n
  simp only [F17, iteP_eq]
  have h := F17_loop N n v (clampN n) 0 N (by omega) (by omega)
  simp only [Int.pow_zero, Int.fdiv_one, List.take_zero] at h
  rw [show ((0 : Nat) : Int) = 0 from rfl] at h
  rw [h, Option.bind_some]
theorem F51_loop (N : Nat) (l : List Bool) (hl : l.length ≤ 62) : ∀ (i f : Nat), i ≤ l.length → i < f → F51_58 N f ((val (l.drop i) : Int), (i : Int) - 1, l) = some (val l : Int) := by
  intro i
  induction i with
  | zero =>
    intro f _ hf
    cases f with
    | zero => omega
    | succ f =>
      simp only [F51_58, B51_58, iteP_eq]
      rw [if_neg (by simp)]
      rfl
  | succ i ih =>
    intro f hi hf
    cases f with
    | zero => omega
    | succ f =>
      simp only [F51_58, B51_58, iteP_eq]
      have hv := val_lt (l.drop (i + 1))
      rw [List.length_drop] at hv
      have hp : 2 ^ (l.length - (i + 1)) ≤ 2305843009213693952 := Nat.pow_le_pow_right (n := 2) (by decide) (show _ ≤ 61 by omega)
      have e0 : (((i + 1 : Nat) : Int) - 1) = (i : Int) := by omega
      have hd : l.drop i = l[i] :: l.drop (i + 1) := List.drop_eq_getElem_cons (by omega)
      rw [e0, if_pos (by simp), if_pos (by unfold within; simp; omega), Int.toNat_natCast, List.getElem?_eq_getElem (by omega), Option.bind_some, wrap_i64 (z := (val (l.drop (i + 1)) : Int) * 2) (by omega) (by omega)]
      rw [wrap_i64 (z := (val (l.drop (i + 1)) : Int) * 2 + 1) (by omega) (by omega), wrap_i64 (z := (i : Int) - 1) (by omega) (by omega)]
      have ih' := ih f (by omega) (by omega)
      rw [hd, val] at ih'
      cases hb : l[i] with
      | true =>
        rw [hb] at ih'
        rw [if_pos rfl]
        rw [show (val (l.drop (i + 1)) : Int) * 2 + 1 = ((true.toNat + 2 * val (l.drop (i + 1)) : Nat) : Int) by simp; omega, ih', Option.bind_some]
      | false =>
        rw [hb] at ih'
        rw [if_neg (by simp)]
        rw [show (val (l.drop (i + 1)) : Int) * 2 = ((false.toNat + 2 * val (l.drop (i + 1)) : Nat) : Int) by simp; omega, ih', Option.bind_some]
theorem F51_number {N : Nat} (l : List Bool) (hl : l.length ≤ 62) (hN : 63 ≤ N) : F51 N l = some (val l : Int) := by
  simp only [F51, iteP_eq]
  have h := F51_loop N l hl l.length N (Nat.le_refl _) (by omega)
  rw [List.drop_length, show (val [] : Int) = 0 from rfl] at h
  rw [wrap_i64 (by omega) (by omega), h, Option.bind_some]
theorem revN_val (n v : Int) : revN (clampN n) (lowN (clampN n) v) = val (putB n v).reverse := by
  have hc := clampN_le n
  apply Nat.eq_of_testBit_eq
  intro i
  rw [revN_bit hc, val_bit]
  have hl := putB_length n v
  by_cases h : i < clampN n
  · rw [List.getD, List.getElem?_reverse (by omega), hl]
    unfold putB
    rw [getD_bitsN, if_pos (by omega)]
    simp [h]
  · rw [List.getD, List.getElem?_eq_none (by rw [List.length_reverse]; omega)]
    simp [h]
def padN (m : List Bool) : Nat := (8 - m.length % 8) % 8
def alignL (m : List Bool) : List Bool := m ++ List.replicate (padN m) false
theorem alignL_length (m : List Bool) : (alignL m).length = 8 * ((m.length + 7) / 8) := by
  unfold alignL padN; rw [List.length_append, List.length_replicate]; omega
theorem F49_loop (N : Nat) : ∀ (d : Nat) (m : List Bool) (f : Nat), padN m = d → d < f → m.length ≤ 1000000000 → F49_12 N f m = some (alignL m) := by
  intro d
  induction d with
  | zero =>
    intro m f hd hf hm
    cases f with
    | zero => omega
    | succ f =>
      simp only [F49_12, B49_12, iteP_eq]
      have : m.length % 8 = 0 := by unfold padN at hd; omega
      rw [if_neg (by rw [Int.tmod_eq_emod_of_nonneg (by omega)]; simp; omega)]
      unfold alignL; rw [hd]; simp
  | succ d ih =>
    intro m f hd hf hm
    cases f with
    | zero => omega
    | succ f =>
      simp only [F49_12, B49_12, iteP_eq]
      have h8 : m.length % 8 ≠ 0 := by unfold padN at hd; omega
      have hp : padN (m ++ [false]) = d := by unfold padN at *; rw [List.length_append, List.length_singleton]; omega
      rw [if_pos (by rw [Int.tmod_eq_emod_of_nonneg (by omega)]; simp; omega), if_pos (by simp; omega), ih (m ++ [false]) f hp (by omega) (by simp; unfold padN at hd; omega), Option.bind_some]
      unfold alignL
      rw [hp, hd, List.append_assoc, List.replicate_succ]
      rfl
theorem F49_align {N : Nat} (hN : 8 ≤ N) (m : List Bool) (hm : m.length ≤ 1000000000) : F49 N m = some (alignL m) := by
  simp only [F49, iteP_eq]
  rw [F49_loop N _ m N rfl (by unfold padN; omega) hm, Option.bind_some]
theorem putB_zero (k : Nat) (hk : k ≤ 32) : putB (k : Int) 0 = List.replicate k false := by
  have c : clampN (k : Int) = k := by unfold clampN; omega
  unfold putB lowN
  rw [c]
  apply List.ext_getElem?
  intro i
  rw [getD_bitsN, List.getElem?_replicate]
  simp
theorem F47_align {N : Nat} (hN : 6 ≤ N) (m : List Bool) (hm : m.length ≤ 1000000000) : F47 N (lastF m, nF m, bF m) = some (lastF (alignL m), nF (alignL m), bF (alignL m)) := by
  simp only [F47, iteP_eq]
  have e : Int.tmod (IntKind.wrap .i64 ((8 : Int) - nF m)) (8 : Int) = ((padN m : Nat) : Int) := by
    unfold nF
    rw [wrap_i64 (by omega) (by omega), Int.tmod_eq_emod_of_nonneg (by omega)]
    unfold padN; omega
  rw [e, F14_bits hN m hm, Option.bind_some, putB_zero _ (by unfold padN; omega)]
  rfl
theorem val_pad : ∀ (l : List Bool) (k : Nat), val (l ++ List.replicate k false) = val l := by
  intro l k
  rw [val_append]
  have : val (List.replicate k false) = 0 := by
    induction k with
    | zero => rfl
    | succ k ih => rw [List.replicate_succ, val, ih]; rfl
  rw [this]; simp
theorem bytesF_pad : ∀ (k : Nat) (m : List Bool) (j : Nat), bytesF k (m ++ List.replicate j false) = bytesF k m
  | 0, _, _ => rfl
  | k + 1, m, j => by
    rw [bytesF, bytesF]
    have e1 : val ((m ++ List.replicate j false).take 8) = val (m.take 8) := by
      rw [List.take_append, List.take_replicate, val_pad]
    have e2 : (m ++ List.replicate j false).drop 8 = m.drop 8 ++ List.replicate (j - (8 - m.length)) false := by
      rw [List.drop_append, List.drop_replicate]
    rw [e1, e2, bytesF_pad k]
theorem allF_align (m : List Bool) : bytesF ((m.length + 7) / 8) (alignL m) = allF m := bytesF_pad _ _ _
theorem stringOf_nil : stringOf [] = ByteArray.mk #[] := rfl
theorem F20_loop (N : Nat) (hN : 63 ≤ N) (q : List Bool) (k : Nat) (hq : q.length = 8 * k) (hk : k ≤ 100000000) : ∀ (d j f : Nat), j + d = k → d < f →
    F20_506 N f (stringOf ((bytesF k q).take j), ((8 * j : Nat) : Int), q) = some (stringOf (bytesF k q)) := by
  have hlen := bytesF_len k q
  intro d
  induction d with
  | zero =>
    intro j f hj hf
    cases f with
    | zero => omega
    | succ f =>
      simp only [F20_506, B20_506, iteP_eq]
      rw [if_neg (by simp; omega), List.take_of_length_le (by omega)]
  | succ d ih =>
    intro j f hj hf
    cases f with
    | zero => omega
    | succ f =>
      simp only [F20_506, B20_506, iteP_eq]
      have e1 : IntKind.wrap .i64 (((8 * j : Nat) : Int) + 8) = ((8 * (j + 1) : Nat) : Int) := by
        rw [wrap_i64 (by omega) (by omega)]; omega
      rw [e1, if_pos (by simp; omega), if_pos (by simp; omega), if_pos (by simp; omega), Int.toNat_natCast, Int.toNat_natCast, show 8 * (j + 1) - 8 * j = 8 by omega]
      rw [F51_number _ (by rw [List.length_take, List.length_drop]; omega) hN, Option.bind_some]
      have hv := val_lt ((q.drop (8 * j)).take 8)
      have hp : 2 ^ ((q.drop (8 * j)).take 8).length ≤ 256 := Nat.pow_le_pow_right (n := 2) (by decide) (show _ ≤ 8 by rw [List.length_take]; omega)
      have e2 : IntKind.wrap .u8 (val ((q.drop (8 * j)).take 8) : Int) = (val ((q.drop (8 * j)).take 8) : Int) := by rw [wrap_u8]; omega
      rw [e2, if_neg (by rw [stringOf_size, stringOf_size, List.length_take]; simp; omega), stringOf_append]
      have e3 : (bytesF k q).take j ++ [(val ((q.drop (8 * j)).take 8) : Int)] = (bytesF k q).take (j + 1) := by
        rw [List.take_add_one (i := j), bytesF_get k q j (by omega)]; rfl
      rw [e3, ih (j + 1) f (by omega) (by omega), Option.bind_some]
theorem F20_text {N : Nat} (m : List Bool) (hm : m.length ≤ 700000) (hN : 100000 ≤ N) : F20 N m = some (strF m) := by
  simp only [F20, iteP_eq]
  rw [if_pos (by simp; omega), F49_align (by omega) m (by omega), Option.bind_some]
  have h := F20_loop N (by omega) (alignL m) ((m.length + 7) / 8) (alignL_length m) (by omega) ((m.length + 7) / 8) 0 N (by omega) (by omega)
  simp only [List.take_zero, stringOf_nil, Nat.mul_zero] at h
  rw [show ((0 : Nat) : Int) = 0 from rfl] at h
  rw [h, Option.bind_some, allF_align]
  rfl
def bitsOf (l : List UInt8) : List Bool := l.flatMap fun x => bitsN 8 x.toNat
def allB (s : ByteArray) : List Bool := bitsOf s.data.toList
theorem bitsOf_length : ∀ l : List UInt8, (bitsOf l).length = 8 * l.length
  | [] => rfl
  | x :: l => by
    unfold bitsOf
    rw [List.flatMap_cons, List.length_append, bitsN_length]
    have := bitsOf_length l
    unfold bitsOf at this
    rw [this, List.length_cons]; omega
theorem allB_length (s : ByteArray) : (allB s).length = 8 * s.size := by
  unfold allB; rw [bitsOf_length]; simp
theorem bitsOf_append (a b : List UInt8) : bitsOf (a ++ b) = bitsOf a ++ bitsOf b := List.flatMap_append
theorem putB_byte (x : UInt8) : putB 8 (x.toNat : Int) = bitsN 8 x.toNat := by
  have c : clampN 8 = 8 := rfl
  have := x.toNat_lt
  unfold putB lowN
  rw [c, BitVec.ofInt_natCast, BitVec.toNat_ofNat, Nat.mod_eq_of_lt (show x.toNat < 2 ^ 64 by omega), Nat.mod_eq_of_lt (show x.toNat < 2 ^ 8 by omega)]
theorem F22_loop (N : Nat) (hN : 33 ≤ N) (s : ByteArray) (hs : s.size ≤ 1000000000) : ∀ (d i f : Nat), i + d = s.size → d < f → F22_58 N f ((i : Int), s, bitsOf (s.data.toList.take i)) = some (allB s) := by
  intro d
  have hsl : s.data.toList.length = s.size := by simp
  induction d with
  | zero =>
    intro i f hi hf
    cases f with
    | zero => omega
    | succ f =>
      simp only [F22_58, B22_58, iteP_eq]
      rw [if_neg (by simp; omega), List.take_of_length_le (by omega)]
      rfl
  | succ d ih =>
    intro i f hi hf
    cases f with
    | zero => omega
    | succ f =>
      simp only [F22_58, B22_58, iteP_eq]
      have hb := (s.data.toList.getD i 0).toNat_lt
      rw [if_pos (by simp; omega), if_pos (by simp), Int.toNat_natCast, byte_at s i (by omega), Option.bind_some, wrap_i64 (z := ((s.data.toList.getD i 0).toNat : Int)) (by omega) (by omega), F17_of hN, Option.bind_some, putB_byte]
      have hL := bitsOf_length (s.data.toList.take i)
      rw [List.length_take] at hL
      rw [if_pos (by rw [hL, bitsN_length]; simp; omega), wrap_i64 (by omega) (by omega)]
      have e : bitsOf (s.data.toList.take i) ++ bitsN 8 (s.data.toList.getD i 0).toNat = bitsOf (s.data.toList.take (i + 1)) := by
        rw [List.take_add_one, bitsOf_append, List.getElem?_eq_getElem (by omega), List.getD, List.getElem?_eq_getElem (by omega)]
        simp [bitsOf]
      rw [e, show ((i : Int) + 1) = ((i + 1 : Nat) : Int) by omega, ih (i + 1) f (by omega) (by omega), Option.bind_some]
theorem F22_all {N : Nat} (s : ByteArray) (hs : s.size ≤ 70000) (hN : 100000 ≤ N) : F22 N s = some (allB s) := by
  simp only [F22, iteP_eq]
  have h := F22_loop N (by omega) s (by omega) s.size 0 N (by omega) (by omega)
  rw [List.take_zero, show bitsOf [] = [] from rfl, show ((0 : Nat) : Int) = 0 from rfl] at h
  rw [h, Option.bind_some]
theorem val_bits8 (x : UInt8) : val (bitsN 8 x.toNat) = x.toNat := by
  have := x.toNat_lt
  rw [val_bitsN, Nat.mod_eq_of_lt (by omega)]
theorem bytesF_bitsOf : ∀ l : List UInt8, bytesF l.length (bitsOf l) = l.map fun x => (x.toNat : Int)
  | [] => rfl
  | x :: l => by
    have e : bitsOf (x :: l) = bitsN 8 x.toNat ++ bitsOf l := by unfold bitsOf; rw [List.flatMap_cons]
    rw [List.length_cons, bytesF, e, List.take_left' (bitsN_length ..), List.drop_left' (bitsN_length ..), val_bits8, bytesF_bitsOf l]
    rfl
theorem toList_data (s : ByteArray) : s.toList = s.data.toList := by
  exact ByteArray.toList_eq s
theorem bytesOf_eq (s : ByteArray) : bytesOf s = s.data.toList.map fun x => (x.toNat : Int) := by
  unfold bytesOf; rw [toList_data]
abbrev Act := Int × (Int × (Int × (ByteArray × Unit)))
theorem restF_whole {q : List Bool} (h : q.length % 8 = 0) : restF q = [] := by
  apply List.length_eq_zero_iff.1
  rw [restF_length]; exact h
theorem F48_bytes {N : Nat} (hN : 6 ≤ N) (m : List Bool) (hm : m.length ≤ 1000000000) (s : ByteArray) (hs : s.size ≤ 1000000000) :
    F48 N (s, lastF m, nF m, bF m) = some (lastF (alignL m ++ allB s), nF (alignL m ++ allB s), bF (alignL m ++ allB s)) := by
  simp only [F48, iteP_eq]
  have hq := alignL_length m
  have hb := bF_len (alignL m)
  have hbo : (bytesOf s).length = s.size := by rw [bytesOf_eq, List.length_map]; simp
  rw [F47_align hN m hm, Option.bind_some, if_pos (by simp only [hb, hbo, decide_eq_true_eq]; omega)]
  obtain ⟨p1, p2, p3⟩ := parts (alignL m) (allB s)
  have hal := allB_length s
  rw [restF_whole (q := alignL m) (by omega), List.nil_append] at p1 p2 p3
  have e1 : bF (allB s) = bytesOf s := by
    unfold bF
    have hsl : s.data.toList.length = s.size := by simp
    rw [hal, show 8 * s.size / 8 = s.data.toList.length by omega, bytesOf_eq]
    exact bytesF_bitsOf _
  have e2 : restF (allB s) = [] := restF_whole (by omega)
  have e3 : nF (alignL m) = nF (allB s) := by unfold nF; congr 1; omega
  rw [p1, p3, e1]
  simp only [lastF, p2, e2, restF_whole (q := alignL m) (by omega), e3]
theorem alignL_id {m : List Bool} (h : m.length % 8 = 0) : alignL m = m := by
  unfold alignL
  rw [show padN m = 0 by unfold padN; omega]
  simp
theorem putB_two : putB 2 0 = [false, false] := rfl
theorem xor_piece {n : Nat} (h : n ≤ 65535) : IntKind.wrap .i64 ((BitVec.toNat (BitVec.ofInt 64 (n : Int) ^^^ BitVec.ofInt 64 65535) : Nat) : Int) = ((65535 - n : Nat) : Int) := by
  have e : BitVec.ofInt 64 (65535 : Int) = BitVec.ofNat 64 65535 := rfl
  rw [BitVec.ofInt_natCast, e, BitVec.toNat_xor, BitVec.toNat_ofNat, BitVec.toNat_ofNat, Nat.mod_eq_of_lt (by omega), Nat.mod_eq_of_lt (by decide)]
  have hx : n ^^^ 65535 = 65535 - n := by
    have h2 : (65535 : Nat) = 2 ^ 16 - 1 := rfl
    apply Nat.eq_of_testBit_eq
    intro i
    rw [Nat.testBit_xor, h2, Nat.testBit_two_pow_sub_one, show 2 ^ 16 - 1 - n = 2 ^ 16 - (n + 1) by omega, Nat.testBit_two_pow_sub_succ (by omega)]
    by_cases hi : i < 16
    · simp [hi]
    · have : n.testBit i = false := Nat.testBit_lt_two_pow (Nat.lt_of_lt_of_le (show n < 2 ^ 16 by omega) (Nat.pow_le_pow_right (by decide) (by omega)))
      simp [hi, this]
  rw [hx, wrap_i64 (by omega) (by omega)]
theorem toList_nil (s : ByteArray) : (ByteArray.toList s == []) = decide (s.size = 0) := by
  have h : s.toList.length = s.size := by rw [toList_data]; simp
  cases hl : s.toList with
  | nil =>
    have : s.size = 0 := by rw [hl] at h; exact h.symm
    simp [this]
  | cons x l =>
    have : s.size ≠ 0 := by rw [hl, List.length_cons] at h; omega
    simp [this]
def storedS (m : List Bool) (s : ByteArray) (b : Bool) : List Bool :=
  alignL (m ++ [b, false, false]) ++ putB 16 (s.size : Int) ++ putB 16 ((65535 - s.size : Nat) : Int) ++ allB s
theorem head_bits (b : Bool) (m : List Bool) (hm : m.length ≤ 100000000) (k : Int) : F46 200000 (b, k, lastF m, nF m, bF m) = some (lastF (m ++ ([b] ++ putB 2 k)), nF (m ++ ([b] ++ putB 2 k)), bF (m ++ ([b] ++ putB 2 k))) := by
  simp only [F46, iteP_eq]
  have h2 : (putB 2 k).length = 2 := by rw [putB_length]; rfl
  cases b with
  | true =>
    rw [if_pos rfl, F14_bits (by decide) m (by omega), Option.bind_some, show putB 1 1 = [true] from rfl, F14_bits (by decide) _ (by simp; omega), Option.bind_some, List.append_assoc]
  | false =>
    rw [if_neg (by decide), F14_bits (by decide) m (by omega), Option.bind_some, show putB 1 0 = [false] from rfl, F14_bits (by decide) _ (by simp; omega), Option.bind_some, List.append_assoc]
theorem stored_len (m : List Bool) (s : ByteArray) (b : Bool) : (storedS m s b).length ≤ m.length + 8 * s.size + 50 ∧ (storedS m s b).length % 8 = 0 := by
  have h1 := alignL_length (m ++ [b, false, false])
  have h0 : (m ++ [b, false, false]).length = m.length + 3 := by simp
  have h2 := allB_length s
  have p16 : ∀ v, (putB 16 v).length = 16 := fun v => by rw [putB_length]; rfl
  have h : (storedS m s b).length = (alignL (m ++ [b, false, false])).length + 16 + 16 + (allB s).length := by
    unfold storedS
    rw [List.length_append, List.length_append, List.length_append, p16, p16]
  omega
theorem stored_one (s : ByteArray) (hs : s.size ≤ 65535) (b : Bool) (m : List Bool) (hm : m.length ≤ 100000000) : ∃ y1 y2 y3 : Int × Int × List Int,
    F46 200000 (b, 0, lastF m, nF m, bF m) = some y1 ∧ F47 200000 (y1.1, y1.2.1, y1.2.2) = some y2 ∧ F14 200000 (16, (s.size : Int), y2.1, y2.2.1, y2.2.2) = some y3 ∧
    ∃ y4, F14 200000 (16, ((65535 - s.size : Nat) : Int), y3.1, y3.2.1, y3.2.2) = some y4 ∧ F48 200000 (s, y4.1, y4.2.1, y4.2.2) = some (lastF (storedS m s b), nF (storedS m s b), bF (storedS m s b)) := by
  have h1 := head_bits b m hm 0
  rw [putB_two] at h1
  have e : ([b] ++ [false, false]) = [b, false, false] := rfl
  rw [e] at h1
  have hl := alignL_length (m ++ [b, false, false])
  have hl0 : (m ++ [b, false, false]).length = m.length + 3 := by simp
  have p16 : ∀ v, (putB 16 v).length = 16 := fun v => by rw [putB_length]; rfl
  have ha : alignL (alignL (m ++ [b, false, false]) ++ putB 16 (s.size : Int) ++ putB 16 ((65535 - s.size : Nat) : Int)) = alignL (m ++ [b, false, false]) ++ putB 16 (s.size : Int) ++ putB 16 ((65535 - s.size : Nat) : Int) := alignL_id (by
    simp only [List.length_append, p16, hl]; omega)
  have h5 := F48_bytes (N := 200000) (by decide) (alignL (m ++ [b, false, false]) ++ putB 16 (s.size : Int) ++ putB 16 ((65535 - s.size : Nat) : Int)) (by
    simp only [List.length_append, p16, hl]; simp; omega) s (by omega)
  rw [ha] at h5
  exact ⟨_, _, _, h1, F47_align (by decide) _ (by omega), F14_bits (by decide) _ (by rw [hl]; omega) _ _, _, F14_bits (by decide) _ (by rw [List.length_append, p16, hl]; omega) _ _, h5⟩
def cntL (p : List Int) : List Int := (List.range 16).map fun (l : Nat) => ((p.count (l : Int) : Nat) : Int)
theorem cntL_len (p : List Int) : (cntL p).length = 16 := by simp [cntL]
theorem cntL_get (p : List Int) {k : Nat} (h : k < 16) : (cntL p)[k]? = some (p.count (k : Int) : Int) := by
  unfold cntL; rw [List.getElem?_map, List.getElem?_range h]; rfl
theorem cntL_snoc (p : List Int) {x : Nat} (hx : x < 16) : (cntL p).set x ((p.count (x : Int) : Int) + 1) = cntL (p ++ [(x : Int)]) := by
  apply List.ext_getElem?
  intro k
  by_cases hk : k < 16
  · rw [cntL_get _ hk, List.count_append]
    by_cases e : x = k
    · subst e
      rw [List.getElem?_set_self (by rw [cntL_len]; exact hx)]
      simp
    · rw [List.getElem?_set_ne e, cntL_get _ hk, List.count_singleton]
      have : ((x : Int) == (k : Int)) = false := by simp; omega
      simp [this]
  · rw [List.getElem?_eq_none (by rw [List.length_set, cntL_len]; omega), List.getElem?_eq_none (by rw [cntL_len]; omega)]
def okB (lens : List Int) : Bool := lens.all fun x => decide (0 ≤ x) && decide (x ≤ 15)
theorem okB_at {lens : List Int} (h : okB lens = true) {i : Nat} (hi : i < lens.length) : 0 ≤ lens[i] ∧ lens[i] ≤ 15 := by
  have := List.all_eq_true.1 h _ (List.getElem_mem hi)
  simpa using this
theorem F97_loop (N : Nat) (lens m : List Int) (hl : lens.length ≤ 320) : ∀ (d i f : Nat), i + d = lens.length → d < f →
    (okB (lens.drop i) = true → F97_122 N f ((lens.length : Int), lens, (i : Int), cntL (lens.take i), m) = some (.inr (cntL lens, m))) ∧
    (okB (lens.drop i) = false → ∃ c, F97_122 N f ((lens.length : Int), lens, (i : Int), cntL (lens.take i), m) = some (.inl (50, c))) := by
  intro d
  induction d with
  | zero =>
    intro i f hi hf
    cases f with
    | zero => omega
    | succ f =>
      have e : lens.drop i = [] := List.drop_eq_nil_of_le (by omega)
      rw [e]
      refine ⟨fun _ => ?_, fun h => by cases h⟩
      simp only [F97_122, B97_122, iteP_eq]
      rw [ifF (by omega), List.take_of_length_le (by omega)]
  | succ d ih =>
    intro i f hi hf
    cases f with
    | zero => omega
    | succ f =>
      have hd : lens.drop i = lens[i] :: lens.drop (i + 1) := List.drop_eq_getElem_cons (by omega)
      have ih' := ih (i + 1) f (by omega) (by omega)
      have hw : IntKind.wrap .i64 ((i : Int) + 1) = ((i + 1 : Nat) : Int) := by rw [wrap_i64 (by omega) (by omega)]; omega
      have ht : lens.take (i + 1) = lens.take i ++ [lens[i]] := by rw [List.take_add_one, List.getElem?_eq_getElem (by omega)]; rfl
      have hok : okB (lens.drop i) = ((decide (0 ≤ lens[i]) && decide (lens[i] ≤ 15)) && okB (lens.drop (i + 1))) := by rw [hd]; rfl
      simp only [F97_122, B97_122, iteP_eq]
      rw [if_pos (show decide ((i : Int) < (lens.length : Int)) = true by simp only [decide_eq_true_eq]; omega), if_pos (show within (i : Int) lens.length = true by unfold within; simp only [decide_eq_true_eq]; omega), Int.toNat_natCast, List.getElem?_eq_getElem (show i < lens.length by omega), Option.bind_some]
      by_cases h1 : lens[i] < 0
      · have hf : okB (lens.drop i) = false := by rw [hok, decide_eq_false (show ¬ 0 ≤ lens[i] by omega)]; rfl
        rw [hf, if_pos (by simpa using h1)]
        exact ⟨fun h => (by cases h), fun _ => ⟨_, rfl⟩⟩
      by_cases h2 : lens[i] > 15
      · have hf : okB (lens.drop i) = false := by rw [hok, decide_eq_false (show ¬ lens[i] ≤ 15 by omega), Bool.and_false]; rfl
        rw [hf, if_neg (by simpa using h1), if_pos (by simpa using h2)]
        exact ⟨fun h => (by cases h), fun _ => ⟨_, rfl⟩⟩
      have hok2 : okB (lens.drop i) = okB (lens.drop (i + 1)) := by rw [hok, decide_eq_true (show 0 ≤ lens[i] by omega), decide_eq_true (show lens[i] ≤ 15 by omega)]; rfl
      obtain ⟨x, hx⟩ := Int.eq_ofNat_of_zero_le (show 0 ≤ lens[i] by omega)
      rw [hok2, if_neg (by simpa using h1), if_neg (by simpa using h2)]
      rw [ht] at ih'
      rw [hx] at ih' ⊢
      have hx16 : x < 16 := by omega
      have hcl : (lens.take i).count (x : Int) ≤ 320 := Nat.le_trans List.count_le_length (by rw [List.length_take]; omega)
      rw [if_pos (show within (x : Int) 16 = true by unfold within; simp only [decide_eq_true_eq]; omega), Int.toNat_natCast, cntL_get _ hx16, Option.bind_some, if_pos (show within (x : Int) 16 = true by unfold within; simp only [decide_eq_true_eq]; omega), Option.bind_some, hw, wrap_i64 (by omega) (by omega), cntL_snoc _ hx16]
      refine ⟨fun h => ?_, fun h => ?_⟩
      · rw [ih'.1 h]; rfl
      · obtain ⟨c, hc⟩ := ih'.2 h
        rw [hc]
        exact ⟨c, rfl⟩
def okL (lens : List Int) : Bool := decide (lens.length ≤ 320) && okB lens
theorem cntL_nil : cntL [] = [0, 0, 0, 0, 0, 0, 0, 0, 0, 0, 0, 0, 0, 0, 0, 0] := rfl
theorem F97_spec {N : Nat} (hN : 400 ≤ N) (lens : List Int) : ∃ c, F97 N lens = some (c, bif okL lens then 0 else 50) ∧ (okL lens = true → c = cntL lens) := by
  unfold okL
  simp only [F97, iteP_eq]
  by_cases h : (320 : Int) < (lens.length : Int)
  · rw [if_pos (by simpa using h), decide_eq_false (show ¬ lens.length ≤ 320 by omega)]
    exact ⟨_, rfl, fun hh => by cases hh⟩
  · rw [if_neg (by simpa using h), decide_eq_true (show lens.length ≤ 320 by omega), Bool.true_and]
    have hl := F97_loop N lens [0, 0, 0, 0, 0, 0, 0, 0, 0, 0, 0, 0, 0, 0, 0, 0] (by omega) lens.length 0 N (by omega) (by omega)
    rw [List.drop_zero, List.take_zero, cntL_nil, show ((0 : Nat) : Int) = 0 from rfl] at hl
    cases hb : okB lens with
    | true =>
      rw [hl.1 hb, Option.bind_some]
      exact ⟨_, rfl, fun _ => rfl⟩
    | false =>
      obtain ⟨c, hc⟩ := hl.2 hb
      rw [hc, Option.bind_some]
      exact ⟨_, rfl, fun h => by cases h⟩
def lf (lens : List Int) : Nat → Int
  | 0 => 1
  | l + 1 => 2 * lf lens l - (lens.count ((l + 1 : Nat) : Int) : Int)
theorem lf_neg (lens : List Int) (l k : Nat) (h : lf lens l < 0) : lf lens (l + k) < 0 := by
  induction k with
  | zero => exact h
  | succ k ih => rw [← Nat.add_assoc, lf]; omega
theorem lf_le (lens : List Int) : ∀ l, lf lens l ≤ 2 ^ l
  | 0 => by rw [lf]; decide
  | l + 1 => by
    have := lf_le lens l
    rw [lf, Int.pow_succ]
    omega
theorem F96_loop (N : Nat) (lens : List Int) (hl : lens.length ≤ 320) : ∀ (d l f : Nat), l + d = 15 → d + 1 < f → 0 ≤ lf lens l →
    ∃ z, F96_122 N f (lf lens l, 0, ((l + 1 : Nat) : Int), cntL lens) = some (if 0 ≤ lf lens 15 then (lf lens 15, 0) else (z, 50)) := by
  intro d
  induction d with
  | zero =>
    intro l f hi hf h0
    cases f with
    | zero => omega
    | succ f =>
      have : l = 15 := by omega
      subst this
      simp only [F96_122, B96_122, iteP_eq]
      refine ⟨0, ?_⟩
      rw [if_neg (by decide), if_pos h0]
  | succ d ih =>
    intro l f hi hf h0
    cases f with
    | zero => omega
    | succ f =>
      have hb := lf_le lens l
      have hp : (2 : Int) ^ l ≤ 32768 := by
        have : (2 : Nat) ^ l ≤ 2 ^ 15 := Nat.pow_le_pow_right (by decide) (by omega)
        have h2 : ((2 ^ l : Nat) : Int) ≤ ((2 ^ 15 : Nat) : Int) := Int.ofNat_le.2 this
        simpa using h2
      have hc : lens.count ((l + 1 : Nat) : Int) ≤ 320 := Nat.le_trans List.count_le_length hl
      have e : lf lens (l + 1) = 2 * lf lens l - (lens.count ((l + 1 : Nat) : Int) : Int) := rfl
      simp only [F96_122, B96_122, iteP_eq]
      rw [ifT (by omega), if_pos (by simp), if_pos (show within ((l + 1 : Nat) : Int) 16 = true by unfold within; simp only [decide_eq_true_eq]; omega), Int.toNat_natCast, cntL_get _ (by omega), Option.bind_some, wrap_i64 (z := lf lens l * 2) (by omega) (by omega), wrap_i64 (z := lf lens l * 2 - _) (by omega) (by omega), wrap_i64 (z := ((l + 1 : Nat) : Int) + 1) (by omega) (by omega), show lf lens l * 2 - (lens.count ((l + 1 : Nat) : Int) : Int) = lf lens (l + 1) by rw [e]; omega]
      by_cases hneg : lf lens (l + 1) < 0
      · rw [if_pos (by simpa using hneg)]
        have h15 : lf lens 15 < 0 := by
          have := lf_neg lens (l + 1) (15 - (l + 1)) hneg
          rwa [show l + 1 + (15 - (l + 1)) = 15 by omega] at this
        cases f with
        | zero => omega
        | succ f =>
          simp only [F96_122, B96_122, iteP_eq]
          refine ⟨lf lens (l + 1), ?_⟩
          rw [if_neg (show ¬ 0 ≤ lf lens 15 by omega)]
          split <;> rfl
      · rw [if_neg (by simpa using hneg)]
        obtain ⟨z, hz⟩ := ih (l + 1) f (by omega) (by omega) (by omega)
        rw [show ((l + 1 : Nat) : Int) + 1 = ((l + 1 + 1 : Nat) : Int) by omega, hz]
        exact ⟨z, rfl⟩
def chk (lens : List Int) : Int × Int := if okL lens = true ∧ 0 ≤ lf lens 15 then (lf lens 15, 0) else (0, 50)
theorem F96_chk {N : Nat} (hN : 400 ≤ N) (lens : List Int) : F96 N lens = some (chk lens) := by
  obtain ⟨c, hc, hcc⟩ := F97_spec hN lens
  unfold chk
  simp only [F96, iteP_eq]
  rw [hc, Option.bind_some]
  simp only
  cases hok : okL lens with
  | false =>
    rw [if_neg (by simp)]
    simp only [cond_false]
    cases N with
    | zero => omega
    | succ N =>
      simp only [F96_122, B96_122, iteP_eq]
      rw [if_pos (by decide), if_neg (by decide), Option.bind_some, if_pos (by decide)]
  | true =>
    rw [hcc hok]
    simp only [cond_true]
    have hl : lens.length ≤ 320 := by
      unfold okL at hok
      simp only [Bool.and_eq_true, decide_eq_true_eq] at hok
      exact hok.1
    obtain ⟨z, hz⟩ := F96_loop N lens hl 15 0 N (by omega) (by omega) (by rw [lf]; decide)
    have hz : F96_122 N N (1, 0, 1, cntL lens) = _ := hz
    rw [hz, Option.bind_some]
    by_cases h : 0 ≤ lf lens 15
    · have e1 : (if 0 ≤ lf lens 15 then (lf lens 15, (0 : Int)) else (z, 50)) = (lf lens 15, 0) := if_pos h
      have e2 : (if (True ∧ 0 ≤ lf lens 15) then (lf lens 15, (0 : Int)) else (0, 50)) = (lf lens 15, 0) := if_pos ⟨trivial, h⟩
      rw [e1, e2]
      rfl
    · have e1 : (if 0 ≤ lf lens 15 then (lf lens 15, (0 : Int)) else (z, 50)) = (z, 50) := if_neg h
      have e2 : (if (True ∧ 0 ≤ lf lens 15) then (lf lens 15, (0 : Int)) else (0, 50)) = (0, 50) := if_neg fun hh => h hh.2
      rw [e1, e2]
      rfl
theorem F99_loop (N : Nat) (k : Nat) (hk : k ≤ 60) : ∀ (d i f : Nat), i + d = k → d < f → F99_58 N f ((2 : Int) ^ i, (i : Int), (k : Int)) = some ((2 : Int) ^ k) := by
  intro d
  induction d with
  | zero =>
    intro i f hi hf
    cases f with
    | zero => omega
    | succ f =>
      simp only [F99_58, B99_58, iteP_eq]
      rw [ifF (by omega), show i = k by omega]
  | succ d ih =>
    intro i f hi hf
    cases f with
    | zero => omega
    | succ f =>
      have hp : (2 : Int) ^ i ≤ 1152921504606846976 := by
        have : (2 : Nat) ^ i ≤ 2 ^ 60 := Nat.pow_le_pow_right (by decide) (by omega)
        have h2 : ((2 ^ i : Nat) : Int) ≤ ((2 ^ 60 : Nat) : Int) := Int.ofNat_le.2 this
        simpa using h2
      have hp0 : (0 : Int) < 2 ^ i := Int.pow_pos (by decide)
      simp only [F99_58, B99_58, iteP_eq]
      rw [ifT (by omega), wrap_i64 (z := 2 ^ i * 2) (by omega) (by omega), wrap_i64 (by omega) (by omega), ← Int.pow_succ, show ((i : Int) + 1) = ((i + 1 : Nat) : Int) by omega, ih (i + 1) f (by omega) (by omega), Option.bind_some]
theorem F99_pow {N : Nat} (hN : 61 < N) (k : Nat) (hk : k ≤ 60) : F99 N (k : Int) = some ((2 : Int) ^ k) := by
  simp only [F99, iteP_eq]
  have := F99_loop N k hk k 0 N (by omega) (by omega)
  rw [Int.pow_zero, show ((0 : Nat) : Int) = 0 from rfl] at this
  rw [this, Option.bind_some]
def took : List Int → Int
  | [] => 0
  | x :: l => (if 0 < x then (2 : Int) ^ (15 - x).toNat else 0) + took l
theorem took_append : ∀ a b : List Int, took (a ++ b) = took a + took b
  | [], b => by simp [took]
  | x :: a, b => by rw [List.cons_append, took, took, took_append a b]; omega
theorem took_le : ∀ l : List Int, 0 ≤ took l ∧ took l ≤ 32768 * l.length
  | [] => by simp [took]
  | x :: l => by
    have := took_le l
    rw [took]
    have hp : 0 < x → (2 : Int) ^ (15 - x).toNat ≤ 32768 := fun hx => by
      have : (2 : Nat) ^ (15 - x).toNat ≤ 2 ^ 15 := Nat.pow_le_pow_right (by decide) (by omega)
      have h2 : ((2 ^ (15 - x).toNat : Nat) : Int) ≤ ((2 ^ 15 : Nat) : Int) := Int.ofNat_le.2 this
      simpa using h2
    have hp0 : (0 : Int) < 2 ^ (15 - x).toNat := Int.pow_pos (by decide)
    simp only [List.length_cons]
    split
    · have := hp (by assumption)
      omega
    · omega
theorem F61_loop (N : Nat) (hN : 100 ≤ N) (lens : List Int) (hl : lens.length ≤ 320) : ∀ (d i f : Nat), i + d = lens.length → d < f →
    (okB (lens.drop i) = true → F61_122 N f (lens, (i : Int), 32768 - took (lens.take i)) = some (.inr (32768 - took lens))) ∧
    (okB (lens.drop i) = false → F61_122 N f (lens, (i : Int), 32768 - took (lens.take i)) = some (.inl (0, 50))) := by
  intro d
  induction d with
  | zero =>
    intro i f hi hf
    cases f with
    | zero => omega
    | succ f =>
      have e : lens.drop i = [] := List.drop_eq_nil_of_le (by omega)
      rw [e]
      refine ⟨fun _ => ?_, fun h => by cases h⟩
      simp only [F61_122, B61_122, iteP_eq]
      rw [ifF (by omega), List.take_of_length_le (by omega)]
  | succ d ih =>
    intro i f hi hf
    cases f with
    | zero => omega
    | succ f =>
      have hd : lens.drop i = lens[i] :: lens.drop (i + 1) := List.drop_eq_getElem_cons (by omega)
      have ih' := ih (i + 1) f (by omega) (by omega)
      have hw : IntKind.wrap .i64 ((i : Int) + 1) = ((i + 1 : Nat) : Int) := by rw [wrap_i64 (by omega) (by omega)]; omega
      have ht : lens.take (i + 1) = lens.take i ++ [lens[i]] := by rw [List.take_add_one, List.getElem?_eq_getElem (by omega)]; rfl
      have hok : okB (lens.drop i) = ((decide (0 ≤ lens[i]) && decide (lens[i] ≤ 15)) && okB (lens.drop (i + 1))) := by rw [hd]; rfl
      have hc : decide ((i : Int) < (lens.length : Int)) = true := by simp only [decide_eq_true_eq]; omega
      have hwi : within (i : Int) lens.length = true := by unfold within; simp only [decide_eq_true_eq]; omega
      have hg : lens[i]? = some lens[i] := List.getElem?_eq_getElem (by omega)
      simp only [F61_122, B61_122, hc, hwi, hg, Int.toNat_natCast, if_true, Option.bind_some, hw, iteP_eq]
      by_cases h1 : lens[i] < 0
      · have hf : okB (lens.drop i) = false := by rw [hok, decide_eq_false (show ¬ 0 ≤ lens[i] by omega)]; rfl
        rw [hf, if_pos (by simpa using h1)]
        exact ⟨fun h => (by cases h), fun _ => rfl⟩
      rw [if_neg (by simpa using h1)]
      by_cases h2 : lens[i] > 15
      · have hf : okB (lens.drop i) = false := by rw [hok, decide_eq_false (show ¬ lens[i] ≤ 15 by omega), Bool.and_false]; rfl
        rw [hf, if_pos (by simpa using h2)]
        exact ⟨fun h => (by cases h), fun _ => rfl⟩
      rw [if_neg (by simpa using h2)]
      have hok2 : okB (lens.drop i) = okB (lens.drop (i + 1)) := by rw [hok, decide_eq_true (show 0 ≤ lens[i] by omega), decide_eq_true (show lens[i] ≤ 15 by omega)]; rfl
      have htk : took (lens.take (i + 1)) = took (lens.take i) + (if 0 < lens[i] then (2 : Int) ^ (15 - lens[i]).toNat else 0) := by rw [ht, took_append]; simp [took]
      have tb := took_le (lens.take i)
      have tl : (lens.take i).length ≤ 320 := by rw [List.length_take]; omega
      rw [hok2]
      rw [htk] at ih'
      by_cases h3 : 0 < lens[i]
      · rw [if_pos (by simpa using h3)]
        rw [if_pos h3] at ih'
        obtain ⟨k, hk⟩ := Int.eq_ofNat_of_zero_le (show 0 ≤ 15 - lens[i] by omega)
        have hpk : (2 : Int) ^ k ≤ 32768 := by
          have : (2 : Nat) ^ k ≤ 2 ^ 15 := Nat.pow_le_pow_right (by decide) (by omega)
          have h2 : ((2 ^ k : Nat) : Int) ≤ ((2 ^ 15 : Nat) : Int) := Int.ofNat_le.2 this
          simpa using h2
        have hp0 : (0 : Int) < 2 ^ k := Int.pow_pos (by decide)
        rw [hk, Int.toNat_natCast] at ih'
        rw [wrap_i64 (z := 15 - lens[i]) (by omega) (by omega), hk, F99_pow (by omega) k (by omega), Option.bind_some, wrap_i64 (by omega) (by omega), show 32768 - took (lens.take i) - 2 ^ k = 32768 - (took (lens.take i) + 2 ^ k) by omega]
        exact ⟨fun h => by rw [ih'.1 h]; rfl, fun h => by rw [ih'.2 h]; rfl⟩
      · rw [if_neg (by simpa using h3)]
        rw [if_neg h3, Int.add_zero] at ih'
        exact ⟨fun h => by rw [ih'.1 h]; rfl, fun h => by rw [ih'.2 h]; rfl⟩
def tookTo (l : Nat) : List Int → Int
  | [] => 0
  | x :: r => (if 0 < x ∧ x ≤ (l : Int) then (2 : Int) ^ (15 - x).toNat else 0) + tookTo l r
theorem tookTo_succ (l : Nat) (hl : l < 15) : ∀ r : List Int, tookTo (l + 1) r = tookTo l r + (r.count ((l + 1 : Nat) : Int) : Int) * 2 ^ (15 - (l + 1))
  | [] => by simp [tookTo]
  | x :: r => by
    rw [tookTo, tookTo, tookTo_succ l hl r, List.count_cons]
    by_cases e : x = ((l + 1 : Nat) : Int)
    · subst e
      rw [if_pos (by omega), if_neg (by omega)]
      have : (15 - ((l + 1 : Nat) : Int)).toNat = 15 - (l + 1) := by omega
      rw [this]
      simp only [beq_self_eq_true, if_true, Int.natCast_add, Int.natCast_one, Int.add_mul, Int.one_mul, Int.zero_add]
      omega
    · have hb : (x == ((l + 1 : Nat) : Int)) = false := by simpa using e
      rw [hb]
      simp only [Bool.false_eq_true, if_false, Nat.add_zero]
      by_cases h : 0 < x ∧ x ≤ (l : Int)
      · rw [if_pos h, if_pos (by omega)]; omega
      · rw [if_neg h, if_neg (by omega)]; omega
theorem tookTo_zero : ∀ r : List Int, tookTo 0 r = 0
  | [] => rfl
  | x :: r => by rw [tookTo, tookTo_zero r, if_neg (by omega)]; rfl
theorem tookTo_all : ∀ r : List Int, okB r = true → tookTo 15 r = took r
  | [], _ => rfl
  | x :: r, h => by
    have h' : (decide (0 ≤ x) && decide (x ≤ 15)) = true ∧ okB r = true := by
      unfold okB at h ⊢
      rw [List.all_cons, Bool.and_eq_true] at h
      exact h
    simp only [Bool.and_eq_true, decide_eq_true_eq] at h'
    rw [tookTo, took, tookTo_all r h'.2]
    by_cases h0 : 0 < x
    · rw [if_pos h0, if_pos (by omega)]
    · rw [if_neg h0, if_neg (by omega)]
theorem lf_took (lens : List Int) : ∀ l, l ≤ 15 → lf lens l * 2 ^ (15 - l) = 32768 - tookTo l lens
  | 0, _ => by rw [lf, tookTo_zero]; decide
  | l + 1, h => by
    have ih := lf_took lens l (by omega)
    rw [tookTo_succ l (by omega), lf, Int.sub_mul, Int.mul_assoc, Int.mul_comm 2, Int.mul_assoc, Int.mul_comm _ 2]
    have e : (2 : Int) ^ (15 - l) = 2 * 2 ^ (15 - (l + 1)) := by
      rw [show 15 - l = (15 - (l + 1)) + 1 by omega, Int.pow_succ, Int.mul_comm]
    rw [e] at ih
    omega
theorem F61_chk {N : Nat} (hN : 400 ≤ N) (lens : List Int) : F61 N lens = some (chk lens) := by
  unfold chk okL
  simp only [F61, iteP_eq]
  by_cases h : (320 : Int) < (lens.length : Int)
  · rw [if_pos (by simpa using h), decide_eq_false (show ¬ lens.length ≤ 320 by omega)]
    rfl
  · rw [if_neg (by simpa using h), decide_eq_true (show lens.length ≤ 320 by omega), Bool.true_and]
    have hl := F61_loop N (by omega) lens (by omega) lens.length 0 N (by omega) (by omega)
    rw [List.drop_zero, List.take_zero, show took [] = 0 from rfl, show ((0 : Nat) : Int) = 0 from rfl, show (32768 : Int) - 0 = 32768 from rfl] at hl
    cases hb : okB lens with
    | true =>
      rw [hl.1 hb, Option.bind_some]
      have e := lf_took lens 15 (by omega)
      rw [tookTo_all lens hb] at e
      have e : lf lens 15 = 32768 - took lens := by simpa using e
      simp only
      rw [← e]
      by_cases hn : lf lens 15 < 0
      · rw [if_pos (by simpa using hn), if_neg (by omega)]
      · rw [if_neg (by simpa using hn), if_pos ⟨trivial, by omega⟩]
    | false =>
      rw [hl.2 hb, Option.bind_some]
      rfl
abbrev Cod := Int × (Int × Unit)
def first (lens : List Int) : Nat → Nat
  | 0 => 0
  | 1 => 0
  | l + 2 => 2 * (first lens (l + 1) + lens.count ((l + 1 : Nat) : Int))
theorem first_le (lens : List Int) (hl : lens.length ≤ 320) : ∀ l, first lens l + 640 ≤ 640 * 2 ^ l
  | 0 => by simp [first]
  | 1 => by simp [first]
  | l + 2 => by
    have := first_le lens hl (l + 1)
    have hc : lens.count ((l + 1 : Nat) : Int) ≤ 320 := Nat.le_trans List.count_le_length hl
    have hp : 1 ≤ 2 ^ l := Nat.one_le_two_pow
    rw [first]
    have e1 : 2 ^ (l + 1) = 2 * 2 ^ l := by rw [Nat.pow_succ]; omega
    have e2 : 2 ^ (l + 2) = 4 * 2 ^ l := by rw [Nat.pow_succ, e1]; omega
    rw [e1] at this
    rw [e2]
    generalize 2 ^ l = q at *
    omega
theorem first_small (lens : List Int) (hl : lens.length ≤ 320) {l : Nat} (h : l ≤ 15) : first lens l ≤ 20971520 := by
  have h1 := first_le lens hl l
  have h2 : 2 ^ l ≤ 2 ^ 15 := Nat.pow_le_pow_right (by decide) h
  omega
def codeAt (lens : List Int) (i : Nat) : Cod :=
  let x := lens.getD i 0
  if 0 < x then (((first lens x.toNat + (lens.take i).count x : Nat) : Int), x, ()) else (0, 0, ())
def codesOf (lens : List Int) : List Cod := (List.range lens.length).map (codeAt lens)
def outTo (lens : List Int) (i : Nat) : List Cod := (List.range lens.length).map fun j => if j < i then codeAt lens j else (0, 0, ())
theorem outTo_len (lens : List Int) (i : Nat) : (outTo lens i).length = lens.length := by simp [outTo]
theorem outTo_get (lens : List Int) (i : Nat) {j : Nat} (h : j < lens.length) : (outTo lens i)[j]? = some (if j < i then codeAt lens j else (0, 0, ())) := by
  unfold outTo; rw [List.getElem?_map, List.getElem?_range h]; rfl
theorem outTo_set (lens : List Int) {i : Nat} (h : i < lens.length) : (outTo lens i).set i (codeAt lens i) = outTo lens (i + 1) := by
  apply List.ext_getElem?
  intro k
  by_cases hk : k < lens.length
  · rw [outTo_get _ _ hk]
    by_cases e : i = k
    · subst e
      rw [List.getElem?_set_self (by rw [outTo_len]; exact h), if_pos (by omega)]
    · rw [List.getElem?_set_ne e, outTo_get _ _ hk]
      by_cases hlt : k < i
      · rw [if_pos hlt, if_pos (by omega)]
      · rw [if_neg hlt, if_neg (by omega)]
  · rw [List.getElem?_eq_none (by rw [List.length_set, outTo_len]; omega), List.getElem?_eq_none (by rw [outTo_len]; omega)]
theorem outTo_skip (lens : List Int) {i : Nat} (h : i < lens.length) (h0 : ¬ 0 < lens[i]) : outTo lens i = outTo lens (i + 1) := by
  apply List.ext_getElem?
  intro k
  by_cases hk : k < lens.length
  · rw [outTo_get _ _ hk, outTo_get _ _ hk]
    by_cases e : k = i
    · subst e
      rw [if_neg (by omega), if_pos (by omega)]
      unfold codeAt
      have hg : lens.getD k 0 = lens[k] := by rw [List.getD, List.getElem?_eq_getElem h]; rfl
      rw [hg]
      simp only
      rw [if_neg h0]
    · by_cases hlt : k < i
      · rw [if_pos hlt, if_pos (by omega)]
      · rw [if_neg hlt, if_neg (by omega)]
  · rw [List.getElem?_eq_none (by rw [outTo_len]; omega), List.getElem?_eq_none (by rw [outTo_len]; omega)]
def nxt (lens : List Int) (i : Nat) : List Int := (List.range 16).map fun (k : Nat) => (((if k = 0 then 0 else first lens k + (lens.take i).count (k : Int)) : Nat) : Int)
theorem nxt_len (lens : List Int) (i : Nat) : (nxt lens i).length = 16 := by simp [nxt]
theorem nxt_get (lens : List Int) (i : Nat) {k : Nat} (h : k < 16) : (nxt lens i)[k]? = some (((if k = 0 then 0 else first lens k + (lens.take i).count (k : Int)) : Nat) : Int) := by
  unfold nxt; rw [List.getElem?_map, List.getElem?_range h]; rfl
theorem take_snoc {lens : List Int} {i : Nat} (h : i < lens.length) : lens.take (i + 1) = lens.take i ++ [lens[i]] := by
  rw [List.take_add_one, List.getElem?_eq_getElem h]; rfl
theorem nxt_set (lens : List Int) {i x : Nat} (h : i < lens.length) (hx : lens[i] = (x : Int)) (h0 : 0 < x) (h16 : x < 16) :
    (nxt lens i).set x (((first lens x + (lens.take i).count (x : Int) : Nat) : Int) + 1) = nxt lens (i + 1) := by
  apply List.ext_getElem?
  intro k
  by_cases hk : k < 16
  · rw [nxt_get _ _ hk, take_snoc h, hx, List.count_append]
    by_cases e : x = k
    · subst e
      rw [List.getElem?_set_self (by rw [nxt_len]; exact h16), if_neg (by omega)]
      simp
      omega
    · rw [List.getElem?_set_ne e, nxt_get _ _ hk, List.count_singleton]
      have : ((x : Int) == (k : Int)) = false := by simp; omega
      simp [this]
  · rw [List.getElem?_eq_none (by rw [List.length_set, nxt_len]; omega), List.getElem?_eq_none (by rw [nxt_len]; omega)]
theorem nxt_skip (lens : List Int) {i : Nat} (h : i < lens.length) (h0 : lens[i] = 0) : nxt lens i = nxt lens (i + 1) := by
  apply List.ext_getElem?
  intro k
  by_cases hk : k < 16
  · rw [nxt_get _ _ hk, nxt_get _ _ hk, take_snoc h, h0, List.count_append, List.count_singleton]
    by_cases e : k = 0
    · rw [if_pos e, if_pos e]
    · have : ((0 : Int) == (k : Int)) = false := by simp; omega
      rw [if_neg e, if_neg e, this]
      simp
  · rw [List.getElem?_eq_none (by rw [nxt_len]; omega), List.getElem?_eq_none (by rw [nxt_len]; omega)]
theorem F57_loop2 (N : Nat) (lens : List Int) (hl : lens.length ≤ 320) (hok : okB lens = true) : ∀ (d i f : Nat), i + d = lens.length → d < f →
    F57_1018 N f ((i : Int), (lens.length : Int), lens, outTo lens i, nxt lens i) = some (outTo lens lens.length) := by
  intro d
  induction d with
  | zero =>
    intro i f hi hf
    cases f with
    | zero => omega
    | succ f =>
      simp only [F57_1018, B57_1018, iteP_eq]
      rw [ifF (by omega), show i = lens.length by omega]
  | succ d ih =>
    intro i f hi hf
    cases f with
    | zero => omega
    | succ f =>
      have hil : i < lens.length := by omega
      obtain ⟨b1, b2⟩ := okB_at hok hil
      obtain ⟨x, hx⟩ := Int.eq_ofNat_of_zero_le b1
      have ih' := ih (i + 1) f (by omega) (by omega)
      have hw : IntKind.wrap .i64 ((i : Int) + 1) = ((i + 1 : Nat) : Int) := by rw [wrap_i64 (by omega) (by omega)]; omega
      have hc : decide ((i : Int) < (lens.length : Int)) = true := by simp only [decide_eq_true_eq]; omega
      have hwi : within (i : Int) lens.length = true := by unfold within; simp only [decide_eq_true_eq]; omega
      have hg : lens[i]? = some lens[i] := List.getElem?_eq_getElem hil
      simp only [F57_1018, B57_1018, hc, hwi, hg, Int.toNat_natCast, if_true, Option.bind_some, hw, iteP_eq]
      by_cases h0 : 0 < lens[i]
      · have hx0 : 0 < x := by omega
        have hx16 : x < 16 := by omega
        have hwx : within (x : Int) 16 = true := by unfold within; simp only [decide_eq_true_eq]; omega
        have hwo : within (i : Int) (outTo lens i).length = true := by rw [outTo_len]; exact hwi
        have hng : (nxt lens i)[x]? = some (((first lens x + (lens.take i).count (x : Int) : Nat)) : Int) := by rw [nxt_get _ _ hx16, if_neg (by omega)]
        have hog := outTo_get lens i hil
        have hfs := first_small lens hl (show x ≤ 15 by omega)
        have hcl : (lens.take i).count (x : Int) ≤ 320 := Nat.le_trans List.count_le_length (by rw [List.length_take]; omega)
        have hca : codeAt lens i = ((((first lens x + (lens.take i).count (x : Int) : Nat)) : Int), (x : Int), ()) := by
          unfold codeAt
          have hgd : lens.getD i 0 = lens[i] := by rw [List.getD, hg]; rfl
          rw [hgd, hx]
          simp only [Int.toNat_natCast]
          rw [if_pos (by omega)]
        rw [if_pos (by simpa using h0), hx]
        simp only [hwx, hwo, hng, hog, Int.toNat_natCast, if_true, Option.bind_some]
        rw [← hca, outTo_set lens hil, wrap_i64 (by omega) (by omega), nxt_set lens hil hx hx0 hx16, ih', Option.bind_some]
      · rw [if_neg (by simpa using h0)]
        rw [outTo_skip lens hil h0, nxt_skip lens hil (by omega), ih', Option.bind_some]
def fst16 (lens : List Int) (l : Nat) : List Int := (List.range 16).map fun (k : Nat) => (((if k ≤ l then first lens k else 0) : Nat) : Int)
theorem fst16_len (lens : List Int) (l : Nat) : (fst16 lens l).length = 16 := by simp [fst16]
theorem fst16_get (lens : List Int) (l : Nat) {k : Nat} (h : k < 16) : (fst16 lens l)[k]? = some (((if k ≤ l then first lens k else 0) : Nat) : Int) := by
  unfold fst16; rw [List.getElem?_map, List.getElem?_range h]; rfl
theorem fst16_set (lens : List Int) {l : Nat} (h : l + 1 < 16) : (fst16 lens l).set (l + 1) ((first lens (l + 1) : Nat) : Int) = fst16 lens (l + 1) := by
  apply List.ext_getElem?
  intro k
  by_cases hk : k < 16
  · rw [fst16_get _ _ hk]
    by_cases e : l + 1 = k
    · subst e
      rw [List.getElem?_set_self (by rw [fst16_len]; exact hk), if_pos (by omega)]
    · rw [List.getElem?_set_ne e, fst16_get _ _ hk]
      by_cases hlt : k ≤ l
      · rw [if_pos hlt, if_pos (by omega)]
      · rw [if_neg hlt, if_neg (by omega)]
  · rw [List.getElem?_eq_none (by rw [List.length_set, fst16_len]; omega), List.getElem?_eq_none (by rw [fst16_len]; omega)]
theorem F57_loop1 (N : Nat) (lens : List Int) (hl : lens.length ≤ 320) : ∀ (d l f : Nat), l + d = 14 → d + 1 < f →
    F57_250 N f (((l + 1 : Nat) : Int), lens, cntL lens, fst16 lens (l + 1)) = some (lens, fst16 lens 15) := by
  intro d
  induction d with
  | zero =>
    intro l f hi hf
    cases f with
    | zero => omega
    | succ f =>
      have : l = 14 := by omega
      subst this
      simp only [F57_250, B57_250, iteP_eq]
      rw [if_neg (by decide)]
  | succ d ih =>
    intro l f hi hf
    cases f with
    | zero => omega
    | succ f =>
      have ih' := ih (l + 1) f (by omega) (by omega)
      have hw : IntKind.wrap .i64 (((l + 1 : Nat) : Int) + 1) = ((l + 1 + 1 : Nat) : Int) := by rw [wrap_i64 (by omega) (by omega)]; omega
      have hc : decide (((l + 1 : Nat) : Int) < 15) = true := by simp only [decide_eq_true_eq]; omega
      have hwi : within ((l + 1 : Nat) : Int) 16 = true := by unfold within; simp only [decide_eq_true_eq]; omega
      have hwj : within ((l + 1 + 1 : Nat) : Int) 16 = true := by unfold within; simp only [decide_eq_true_eq]; omega
      have g1 : (fst16 lens (l + 1))[l + 1]? = some ((first lens (l + 1) : Nat) : Int) := by rw [fst16_get _ _ (by omega), if_pos (by omega)]
      have g2 := cntL_get lens (show l + 1 < 16 by omega)
      have g3 : (fst16 lens (l + 1))[l + 1 + 1]? = some (0 : Int) := by rw [fst16_get _ _ (by omega), if_neg (by omega)]; rfl
      have hfs := first_small lens hl (show l + 1 ≤ 15 by omega)
      have hcl : lens.count ((l + 1 : Nat) : Int) ≤ 320 := Nat.le_trans List.count_le_length hl
      simp only [F57_250, B57_250, hc, hwi, hw, hwj, g1, g2, g3, Int.toNat_natCast, if_true, Option.bind_some, iteP_eq]
      have e : IntKind.wrap .i64 (IntKind.wrap .i64 (((first lens (l + 1) : Nat) : Int) + (lens.count ((l + 1 : Nat) : Int) : Int)) * 2) = ((first lens (l + 1 + 1) : Nat) : Int) := by
        rw [wrap_i64 (z := ((first lens (l + 1) : Nat) : Int) + _) (by omega) (by omega), wrap_i64 (by omega) (by omega), first]; omega
      rw [e, fst16_set lens (show l + 1 + 1 < 16 by omega), ih', Option.bind_some]
theorem outTo_all (lens : List Int) : outTo lens lens.length = codesOf lens := by
  apply List.ext_getElem?
  intro k
  by_cases hk : k < lens.length
  · rw [outTo_get _ _ hk, if_pos hk]
    unfold codesOf
    rw [List.getElem?_map, List.getElem?_range hk]; rfl
  · rw [List.getElem?_eq_none (by rw [outTo_len]; omega), List.getElem?_eq_none (by simp [codesOf]; omega)]
theorem outTo_zero (lens : List Int) : outTo lens 0 = List.replicate lens.length (0, 0, ()) := by
  apply List.ext_getElem?
  intro k
  by_cases hk : k < lens.length
  · rw [outTo_get _ _ hk, if_neg (by omega), List.getElem?_replicate, if_pos hk]
  · rw [List.getElem?_eq_none (by rw [outTo_len]; omega), List.getElem?_eq_none (by simp; omega)]
theorem nxt_zero (lens : List Int) : nxt lens 0 = fst16 lens 15 := by
  apply List.ext_getElem?
  intro k
  by_cases hk : k < 16
  · rw [nxt_get _ _ hk, fst16_get _ _ hk, if_pos (show k ≤ 15 by omega)]
    by_cases e : k = 0
    · subst e; rfl
    · rw [if_neg e]; simp
  · rw [List.getElem?_eq_none (by rw [nxt_len]; omega), List.getElem?_eq_none (by rw [fst16_len]; omega)]
theorem fst16_one (lens : List Int) : fst16 lens (0 + 1) = [0, 0, 0, 0, 0, 0, 0, 0, 0, 0, 0, 0, 0, 0, 0, 0] := rfl
theorem F57_codes {N : Nat} (hN : 400 ≤ N) (lens : List Int) : F57 N lens = some (if (chk lens).2 = 0 then (0, codesOf lens) else ((chk lens).2, [])) := by
  obtain ⟨c, hc, hcc⟩ := F97_spec hN lens
  simp only [F57, iteP_eq]
  rw [F96_chk hN, Option.bind_some]
  by_cases h : (chk lens).2 = 0
  · have hok : okL lens = true := by
      unfold chk at h
      by_cases hh : okL lens = true ∧ 0 ≤ lf lens 15
      · exact hh.1
      · rw [if_neg hh] at h; cases h
    have hb : okB lens = true ∧ lens.length ≤ 320 := by
      unfold okL at hok
      simp only [Bool.and_eq_true, decide_eq_true_eq] at hok
      exact ⟨hok.2, hok.1⟩
    rw [if_neg (by simpa using h), if_pos h, hc, Option.bind_some, hcc hok]
    have l1 := F57_loop1 N lens hb.2 14 0 N (by omega) (by omega)
    rw [fst16_one] at l1
    simp only
    rw [show (((0 + 1 : Nat)) : Int) = 1 from rfl] at l1
    rw [l1, Option.bind_some]
    simp only
    have l2 := F57_loop2 N lens hb.2 hb.1 lens.length 0 N (by omega) (by omega)
    rw [outTo_zero, nxt_zero, outTo_all, show ((0 : Nat) : Int) = 0 from rfl] at l2
    rw [ifT (by omega), Int.toNat_natCast, l2, Option.bind_some]
  · rw [if_pos (by simpa using h), if_neg h]
def outD (lens : List Int) (l i : Nat) : List Cod := (List.range lens.length).map fun j =>
  if 0 < lens.getD j 0 ∧ (lens.getD j 0 < (l : Int) ∨ (lens.getD j 0 = (l : Int) ∧ j < i)) then codeAt lens j else (0, 0, ())
theorem outD_len (lens : List Int) (l i : Nat) : (outD lens l i).length = lens.length := by simp [outD]
theorem outD_get (lens : List Int) (l i : Nat) {j : Nat} (h : j < lens.length) : (outD lens l i)[j]? = some (if 0 < lens.getD j 0 ∧ (lens.getD j 0 < (l : Int) ∨ (lens.getD j 0 = (l : Int) ∧ j < i)) then codeAt lens j else (0, 0, ())) := by
  unfold outD; rw [List.getElem?_map, List.getElem?_range h]; rfl
theorem outD_ext {lens : List Int} {l i l' i' : Nat} (h : ∀ j, j < lens.length → ((0 < lens.getD j 0 ∧ (lens.getD j 0 < (l : Int) ∨ (lens.getD j 0 = (l : Int) ∧ j < i))) ↔ (0 < lens.getD j 0 ∧ (lens.getD j 0 < (l' : Int) ∨ (lens.getD j 0 = (l' : Int) ∧ j < i'))))) : outD lens l i = outD lens l' i' := by
  apply List.ext_getElem?
  intro k
  by_cases hk : k < lens.length
  · rw [outD_get _ _ _ hk, outD_get _ _ _ hk]
    have := h k hk
    by_cases hp : (0 < lens.getD k 0 ∧ (lens.getD k 0 < (l : Int) ∨ (lens.getD k 0 = (l : Int) ∧ k < i)))
    · rw [if_pos hp, if_pos (this.1 hp)]
    · rw [if_neg hp, if_neg (fun hq => hp (this.2 hq))]
  · rw [List.getElem?_eq_none (by rw [outD_len]; omega), List.getElem?_eq_none (by rw [outD_len]; omega)]
theorem outD_set {lens : List Int} {l i : Nat} (h : i < lens.length) (hl : lens.getD i 0 = (l : Int)) (h0 : 0 < l) : (outD lens l i).set i (codeAt lens i) = outD lens l (i + 1) := by
  apply List.ext_getElem?
  intro k
  by_cases hk : k < lens.length
  · rw [outD_get _ _ _ hk]
    by_cases e : i = k
    · subst e
      rw [List.getElem?_set_self (by rw [outD_len]; exact h), if_pos ⟨by omega, .inr ⟨hl, by omega⟩⟩]
    · rw [List.getElem?_set_ne e, outD_get _ _ _ hk]
      by_cases hp : (0 < lens.getD k 0 ∧ (lens.getD k 0 < (l : Int) ∨ (lens.getD k 0 = (l : Int) ∧ k < i)))
      · rw [if_pos hp, if_pos ⟨hp.1, hp.2.imp id fun q => ⟨q.1, by omega⟩⟩]
      · rw [if_neg hp, if_neg (fun hq => hp ⟨hq.1, hq.2.imp id fun q => ⟨q.1, by omega⟩⟩)]
  · rw [List.getElem?_eq_none (by rw [List.length_set, outD_len]; omega), List.getElem?_eq_none (by rw [outD_len]; omega)]
theorem F62_inner (N : Nat) (lens : List Int) (hl : lens.length ≤ 320) (l : Nat) (h0 : 0 < l) (h15 : l ≤ 15) : ∀ (d i f : Nat), i + d = lens.length → d < f →
    F62_15654 N f (((first lens l + (lens.take i).count (l : Int) : Nat) : Int), (i : Int), lens, (l : Int), outD lens l i) =
      some ((l : Int), ((first lens l + lens.count (l : Int) : Nat) : Int), lens, outD lens l lens.length) := by
  intro d
  induction d with
  | zero =>
    intro i f hi hf
    cases f with
    | zero => omega
    | succ f =>
      simp only [F62_15654, B62_15654, iteP_eq]
      rw [ifF (by omega), List.take_of_length_le (by omega), show i = lens.length by omega]
  | succ d ih =>
    intro i f hi hf
    cases f with
    | zero => omega
    | succ f =>
      have hil : i < lens.length := by omega
      have ih' := ih (i + 1) f (by omega) (by omega)
      have hw : IntKind.wrap .i64 ((i : Int) + 1) = ((i + 1 : Nat) : Int) := by rw [wrap_i64 (by omega) (by omega)]; omega
      have hc : decide ((i : Int) < (lens.length : Int)) = true := by simp only [decide_eq_true_eq]; omega
      have hwi : within (i : Int) lens.length = true := by unfold within; simp only [decide_eq_true_eq]; omega
      have hwo : within (i : Int) (outD lens l i).length = true := by rw [outD_len]; exact hwi
      have hg : lens[i]? = some lens[i] := List.getElem?_eq_getElem hil
      have hgd : lens.getD i 0 = lens[i] := by rw [List.getD, hg]; rfl
      have hog := outD_get lens l i hil
      have hfs := first_small lens hl h15
      have hcl : (lens.take i).count (l : Int) ≤ 320 := Nat.le_trans List.count_le_length (by rw [List.length_take]; omega)
      rw [take_snoc hil, List.count_append, List.count_singleton] at ih'
      simp only [F62_15654, B62_15654, hc, hwi, hg, hwo, hog, Int.toNat_natCast, if_true, Option.bind_some, hw, iteP_eq]
      by_cases he : lens[i] = (l : Int)
      · have hb : (lens[i] == (l : Int)) = true := by simpa using he
        rw [hb] at ih'
        have hca : codeAt lens i = ((((first lens l + (lens.take i).count (l : Int) : Nat)) : Int), (l : Int), ()) := by
          unfold codeAt
          rw [hgd, he]
          simp only [Int.toNat_natCast]
          rw [if_pos (by omega)]
        rw [if_pos hb, ← hca, outD_set hil (hgd.trans he) h0, wrap_i64 (by omega) (by omega)]
        simp only [if_true] at ih'
        rw [show (((first lens l + (lens.take i).count (l : Int) : Nat)) : Int) + 1 = ((first lens l + ((lens.take i).count (l : Int) + 1) : Nat) : Int) by omega, ih', Option.bind_some]
      · have hb : (lens[i] == (l : Int)) = false := by simpa using he
        rw [hb] at ih'
        simp only [Bool.false_eq_true, if_false, Nat.add_zero] at ih'
        rw [if_neg (by rw [hb]; decide)]
        have e : outD lens l i = outD lens l (i + 1) := outD_ext fun j hj => by
          by_cases e : j = i
          · subst e
            rw [hgd]
            constructor
            · rintro ⟨h1, h2 | ⟨h2, h3⟩⟩
              · exact ⟨h1, .inl h2⟩
              · exact absurd h2 he
            · rintro ⟨h1, h2 | ⟨h2, h3⟩⟩
              · exact ⟨h1, .inl h2⟩
              · exact absurd h2 he
          · constructor
            · rintro ⟨h1, h2 | ⟨h2, h3⟩⟩
              · exact ⟨h1, .inl h2⟩
              · exact ⟨h1, .inr ⟨h2, by omega⟩⟩
            · rintro ⟨h1, h2 | ⟨h2, h3⟩⟩
              · exact ⟨h1, .inl h2⟩
              · exact ⟨h1, .inr ⟨h2, by omega⟩⟩
        rw [e, ih', Option.bind_some]
def before (lens : List Int) : Nat → Nat
  | 0 => 0
  | 1 => 0
  | l + 2 => first lens (l + 1) + lens.count ((l + 1 : Nat) : Int)
theorem before_twice (lens : List Int) (l : Nat) (h : 0 < l) : 2 * before lens l = first lens l := by
  match l, h with
  | 1, _ => rfl
  | l + 2, _ => rfl
theorem F62_outer (N : Nat) (hN : 400 ≤ N) (lens : List Int) (hl : lens.length ≤ 320) : ∀ (d l f : Nat), l + d = 16 → 0 < l → d < f →
    F62_122 N f ((before lens l : Int), lens, (l : Int), outD lens l 0) = some (outD lens 16 0) := by
  intro d
  induction d with
  | zero =>
    intro l f hi h0 hf
    cases f with
    | zero => omega
    | succ f =>
      have : l = 16 := by omega
      subst this
      simp only [F62_122, B62_122, iteP_eq]
      rw [if_neg (by decide)]
  | succ d ih =>
    intro l f hi h0 hf
    cases f with
    | zero => omega
    | succ f =>
      have ih' := ih (l + 1) f (by omega) (by omega) (by omega)
      have hfs := first_small lens hl (show l ≤ 15 by omega)
      have hb := before_twice lens l h0
      have hin := F62_inner N lens hl l h0 (by omega) lens.length 0 N (by omega) (by omega)
      rw [List.take_zero, List.count_nil, Nat.add_zero, show ((0 : Nat) : Int) = 0 from rfl] at hin
      simp only [F62_122, B62_122, iteP_eq]
      rw [ifT (by omega), wrap_i64 (z := (before lens l : Int) * 2) (by omega) (by omega), show (before lens l : Int) * 2 = ((first lens l : Nat) : Int) by omega, hin, Option.bind_some]
      simp only
      have e1 : ((first lens l + lens.count (l : Int) : Nat) : Int) = (before lens (l + 1) : Int) := by
        match l, h0 with
        | k + 1, _ => rfl
      have e2 : outD lens l lens.length = outD lens (l + 1) 0 := outD_ext fun j hj => by
        constructor
        · rintro ⟨h1, h2 | ⟨h2, h3⟩⟩
          · exact ⟨h1, .inl (by omega)⟩
          · exact ⟨h1, .inl (by omega)⟩
        · rintro ⟨h1, h2 | ⟨h2, h3⟩⟩
          · by_cases e : lens.getD j 0 = (l : Int)
            · exact ⟨h1, .inr ⟨e, hj⟩⟩
            · exact ⟨h1, .inl (by omega)⟩
          · omega
      rw [e1, e2, wrap_i64 (by omega) (by omega), show ((l : Int) + 1) = ((l + 1 : Nat) : Int) by omega, ih', Option.bind_some]
theorem F62_codes {N : Nat} (hN : 400 ≤ N) (lens : List Int) (hl : lens.length ≤ 320) (hok : okB lens = true) : F62 N lens = some (codesOf lens) := by
  simp only [F62, iteP_eq]
  rw [ifT (by omega), Int.toNat_natCast]
  have h := F62_outer N hN lens hl 15 1 N (by omega) (by omega) (by omega)
  have e0 : outD lens 1 0 = List.replicate lens.length (0, 0, ()) := by
    apply List.ext_getElem?
    intro k
    by_cases hk : k < lens.length
    · rw [outD_get _ _ _ hk, if_neg (by omega), List.getElem?_replicate, if_pos hk]
    · rw [List.getElem?_eq_none (by rw [outD_len]; omega), List.getElem?_eq_none (by simp; omega)]
  have e1 : outD lens 16 0 = codesOf lens := by
    apply List.ext_getElem?
    intro k
    by_cases hk : k < lens.length
    · have hc : (codesOf lens)[k]? = some (codeAt lens k) := by
        unfold codesOf
        rw [List.getElem?_map, List.getElem?_range hk]; rfl
      rw [outD_get _ _ _ hk, hc]
      have hg : lens.getD k 0 = lens[k] := by rw [List.getD, List.getElem?_eq_getElem hk]; rfl
      obtain ⟨b1, b2⟩ := okB_at hok hk
      by_cases h0 : 0 < lens[k]
      · rw [if_pos ⟨by omega, .inl (by omega)⟩]
      · rw [if_neg (fun q => h0 (by rw [← hg]; exact q.1))]
        unfold codeAt
        rw [hg]
        simp only
        rw [if_neg h0]
    · rw [List.getElem?_eq_none (by rw [outD_len]; omega), List.getElem?_eq_none (by simp [codesOf]; omega)]
  rw [e0, e1, show (before lens 1 : Int) = 0 from rfl, show ((1 : Nat) : Int) = 1 from rfl] at h
  rw [h, Option.bind_some]
theorem codesOf_len (lens : List Int) : (codesOf lens).length = lens.length := by simp [codesOf]
theorem chk_ok {lens : List Int} (h : (chk lens).2 = 0) : lens.length ≤ 320 ∧ okB lens = true := by
  have hok : okL lens = true := by
    unfold chk at h
    by_cases hh : okL lens = true ∧ 0 ≤ lf lens 15
    · exact hh.1
    · rw [if_neg hh] at h; cases h
  unfold okL at hok
  simp only [Bool.and_eq_true, decide_eq_true_eq] at hok
  exact hok
theorem get_at {a : List Int} {i : Nat} (h : i < a.length) : a[i]? = some (a.getD i 0) := by
  rw [List.getD, List.getElem?_eq_getElem h]; rfl
def symsTo (lens : List Int) (l : Nat) : Nat → List Int
  | 0 => []
  | i + 1 => if lens.getD i 0 = (l : Int) then symsTo lens l i ++ [(i : Int)] else symsTo lens l i
theorem symsTo_len (lens : List Int) (l : Nat) : ∀ i, i ≤ lens.length → (symsTo lens l i).length = (lens.take i).count (l : Int)
  | 0, _ => by simp [symsTo]
  | i + 1, h => by
    have ih := symsTo_len lens l i (by omega)
    have hg : lens.getD i 0 = lens[i] := by rw [List.getD, List.getElem?_eq_getElem (by omega)]; rfl
    rw [symsTo, hg, take_snoc (by omega), List.count_append, List.count_singleton]
    by_cases e : lens[i] = (l : Int)
    · have hb : (lens[i] == (l : Int)) = true := by simpa using e
      rw [if_pos e, hb, List.length_append, ih]; rfl
    · have hb : (lens[i] == (l : Int)) = false := by simpa using e
      rw [if_neg e, hb, ih]; rfl
def lgOr (lens : List Int) (l i lg : Nat) : Nat := if (symsTo lens l i).isEmpty then lg else l
def symsUp (lens : List Int) : Nat → List Int
  | 0 => []
  | l + 1 => symsUp lens l ++ symsTo lens (l + 1) lens.length
def lgUp (lens : List Int) : Nat → Nat
  | 0 => 0
  | l + 1 => lgOr lens (l + 1) lens.length (lgUp lens l)
def bitOf (c n : Nat) (i : Nat) : Bool := c.testBit (n - 1 - i)
theorem F157_bit {N : Nat} (hN : 61 < N) (c n i : Nat) (hc : c < 1000000000) (hn : n ≤ 15) (hi : i < n) : F157 N ((c : Int), (n : Int), (i : Int)) = some (bitOf c n i) := by
  have hp : (2 : Int) ^ (n - 1 - i) ≤ 32768 := by
    have : (2 : Nat) ^ (n - 1 - i) ≤ 2 ^ 15 := Nat.pow_le_pow_right (by decide) (by omega)
    have h2 : ((2 ^ (n - 1 - i) : Nat) : Int) ≤ ((2 ^ 15 : Nat) : Int) := Int.ofNat_le.2 this
    simpa using h2
  have hp0 : (0 : Int) < 2 ^ (n - 1 - i) := Int.pow_pos (by decide)
  simp only [F157, iteP_eq]
  have e : IntKind.wrap .i64 (IntKind.wrap .i64 ((n : Int) - 1) - (i : Int)) = ((n - 1 - i : Nat) : Int) := by
    rw [wrap_i64 (z := (n : Int) - 1) (by omega) (by omega), wrap_i64 (by omega) (by omega)]; omega
  rw [e, F99_pow hN _ (by omega), Option.bind_some, ifF (by omega)]
  congr 1
  unfold bitOf
  have e2 : Int.tdiv (c : Int) (2 ^ (n - 1 - i)) = ((c / 2 ^ (n - 1 - i) : Nat) : Int) := by
    rw [Int.tdiv_eq_ediv_of_nonneg (by omega)]; simp
  have hd : c / 2 ^ (n - 1 - i) ≤ c := Nat.div_le_self ..
  rw [e2, Nat.testBit_eq_decide_div_mod_eq]
  clear e2
  generalize c / 2 ^ (n - 1 - i) = q at *
  rw [wrap_i64 (by omega) (by omega), Int.tmod_eq_emod_of_nonneg (by omega)]
  have hq := Nat.mod_two_eq_zero_or_one q
  have e3 : (q : Int) % 2 = ((q % 2 : Nat) : Int) := by omega
  rw [e3]
  rcases hq with h | h <;> rw [h] <;> rfl
def beginsN (c n : Nat) (l : List Bool) : Bool := decide (l.length ≤ n) && (List.range l.length).all fun i => bitOf c n i == l.getD i false
theorem F129_loop {N : Nat} (hN : 61 < N) (c n : Nat) (hc : c < 1000000000) (hn : n ≤ 15) (l : List Bool) (hl : l.length ≤ n) : ∀ (d i f : Nat), i + d = l.length → d < f →
    ((∀ j, i ≤ j → j < l.length → bitOf c n j = l.getD j false) → F129_58 N f (l, (i : Int), (c : Int), (n : Int)) = some (.inr ())) ∧
    ((∃ j, i ≤ j ∧ j < l.length ∧ bitOf c n j ≠ l.getD j false) → F129_58 N f (l, (i : Int), (c : Int), (n : Int)) = some (.inl false)) := by
  intro d
  induction d with
  | zero =>
    intro i f hi hf
    cases f with
    | zero => omega
    | succ f =>
      simp only [F129_58, B129_58, iteP_eq]
      rw [ifF (by omega)]
      exact ⟨fun _ => rfl, fun ⟨j, h1, h2, _⟩ => by omega⟩
  | succ d ih =>
    intro i f hi hf
    cases f with
    | zero => omega
    | succ f =>
      obtain ⟨ih1, ih2⟩ := ih (i + 1) f (by omega) (by omega)
      have hil : i < l.length := by omega
      have hw : IntKind.wrap .i64 ((i : Int) + 1) = ((i + 1 : Nat) : Int) := by rw [wrap_i64 (by omega) (by omega)]; omega
      have hwi : within (i : Int) l.length = true := by unfold within; simp only [decide_eq_true_eq]; omega
      have hcc : decide ((i : Int) < (l.length : Int)) = true := by simp only [decide_eq_true_eq]; omega
      have hg : l[i]? = some (l.getD i false) := by rw [List.getD, List.getElem?_eq_getElem hil]; rfl
      simp only [F129_58, B129_58, hcc, hwi, hg, hw, Int.toNat_natCast, if_true, Option.bind_some, iteP_eq]
      rw [F157_bit hN c n i hc hn (by omega), Option.bind_some]
      by_cases he : bitOf c n i = l.getD i false
      · rw [he, if_neg (by simp)]
        refine ⟨fun h => by rw [ih1 fun j h1 h2 => h j (by omega) h2]; rfl, fun ⟨j, h1, h2, h3⟩ => ?_⟩
        rw [ih2 ⟨j, by
          by_cases e : j = i
          · subst e; exact absurd he h3
          · omega, h2, h3⟩]
        rfl
      · rw [if_pos (by simpa using he)]
        exact ⟨fun h => absurd (h i (Nat.le_refl _) hil) he, fun _ => by first | rfl | trivial⟩
theorem F129_begins {N : Nat} (hN : 61 < N) (c n : Nat) (hc : c < 1000000000) (hn : n ≤ 15) (l : List Bool) (hl : l.length ≤ 100) (hN2 : 101 < N) : F129 N ((c : Int), (n : Int), l) = some (beginsN c n l) := by
  unfold beginsN
  simp only [F129, iteP_eq]
  by_cases h : n < l.length
  · rw [ifT (by omega), decide_eq_false (by omega)]; rfl
  · rw [ifF (by omega), decide_eq_true (by omega), Bool.true_and]
    obtain ⟨h1, h2⟩ := F129_loop hN c n hc hn l (by omega) l.length 0 N (by omega) (by omega)
    rw [show ((0 : Nat) : Int) = 0 from rfl] at h1 h2
    cases ha : (List.range l.length).all fun i => bitOf c n i == l.getD i false with
    | true =>
      rw [h1 fun j _ hj => by simpa using List.all_eq_true.1 ha j (List.mem_range.2 hj), Option.bind_some]
    | false =>
      have : ∃ j, 0 ≤ j ∧ j < l.length ∧ bitOf c n j ≠ l.getD j false := by
        refine Classical.byContradiction fun hn => ?_
        have : (List.range l.length).all (fun i => bitOf c n i == l.getD i false) = true := List.all_eq_true.2 fun j hj => by
          have hj := List.mem_range.1 hj
          by_cases e : bitOf c n j = l.getD j false
          · simpa using e
          · exact absurd ⟨j, Nat.zero_le _, hj, e⟩ hn
        rw [ha] at this; cases this
      rw [h2 this, Option.bind_some]
def preB (c n : Nat → Nat) (l : List Bool) (j : Nat) : Bool := !(n j == 0) && beginsN (c j) (n j) l
def hitB (c n : Nat → Nat) (l : List Bool) (j : Nat) : Bool := preB c n l j && (n j == l.length)
def smF (c n : Nat → Nat) (l : List Bool) (i : Nat) : Int := bif (List.range i).any (preB c n l) then -1 else -2
theorem smF_succ (c n : Nat → Nat) (l : List Bool) (i : Nat) : smF c n l (i + 1) = bif preB c n l i then -1 else smF c n l i := by
  unfold smF
  rw [List.range_succ, List.any_append, List.any_cons, List.any_nil, Bool.or_false]
  cases (List.range i).any (preB c n l) <;> cases preB c n l i <;> rfl
theorem F100_loop {N : Nat} (hN : 101 < N) (C : List Cod) (c n : Nat → Nat) (hC : ∀ j, j < C.length → C[j]? = some ((c j : Int), (n j : Int), ()) ∧ c j < 1000000000 ∧ n j ≤ 15) (hl : C.length ≤ 1000) (l : List Bool) (hll : l.length ≤ 100) :
    ∀ (d i f : Nat), i + d = C.length → d < f →
    (∀ k, i ≤ k → k < C.length → hitB c n l k = true → (∀ j, i ≤ j → j < k → hitB c n l j = false) → F100_58 N f ((i : Int), smF c n l i, l, C) = some (.inl (k : Int))) ∧
    ((∀ j, i ≤ j → j < C.length → hitB c n l j = false) → F100_58 N f ((i : Int), smF c n l i, l, C) = some (.inr (smF c n l C.length))) := by
  intro d
  induction d with
  | zero =>
    intro i f hi hf
    cases f with
    | zero => omega
    | succ f =>
      simp only [F100_58, B100_58, iteP_eq]
      rw [ifF (by omega), show i = C.length by omega]
      exact ⟨fun k h1 h2 => by omega, fun _ => rfl⟩
  | succ d ih =>
    intro i f hi hf
    cases f with
    | zero => omega
    | succ f =>
      have hil : i < C.length := by omega
      obtain ⟨ih1, ih2⟩ := ih (i + 1) f (by omega) (by omega)
      obtain ⟨hg, hc, hn⟩ := hC i hil
      have hw : IntKind.wrap .i64 ((i : Int) + 1) = ((i + 1 : Nat) : Int) := by rw [wrap_i64 (by omega) (by omega)]; omega
      have hwi : within (i : Int) C.length = true := by unfold within; simp only [decide_eq_true_eq]; omega
      have hcc : decide ((i : Int) < (C.length : Int)) = true := by simp only [decide_eq_true_eq]; omega
      have hs := smF_succ c n l i
      simp only [F100_58, B100_58, hcc, hwi, hg, hw, Int.toNat_natCast, if_true, Option.bind_some, iteP_eq]
      by_cases h0 : n i = 0
      · have hp : preB c n l i = false := by unfold preB; rw [h0]; rfl
        have hh : hitB c n l i = false := by unfold hitB; rw [hp]; rfl
        rw [hp] at hs
        have hs : smF c n l (i + 1) = smF c n l i := hs
        rw [hs] at ih1 ih2
        rw [if_pos (by simp [h0])]
        refine ⟨fun k h1 h2 h3 h4 => ?_, fun h => ?_⟩
        · rw [ih1 k (by
            by_cases e : k = i
            · subst e; rw [hh] at h3; cases h3
            · omega) h2 h3 fun j g1 g2 => h4 j (by omega) g2]; rfl
        · rw [ih2 fun j g1 g2 => h j (by omega) g2]; rfl
      · have hn0 : (n i == 0) = false := by simpa using h0
        rw [if_neg (by simp; omega), F129_begins (by omega) (c i) (n i) hc hn l hll hN, Option.bind_some]
        cases hb : beginsN (c i) (n i) l with
        | false =>
          have hp : preB c n l i = false := by unfold preB; rw [hb, Bool.and_false]
          have hh : hitB c n l i = false := by unfold hitB; rw [hp]; rfl
          rw [hp] at hs
          have hs : smF c n l (i + 1) = smF c n l i := hs
          rw [hs] at ih1 ih2
          simp only [Bool.false_eq_true, if_false]
          refine ⟨fun k h1 h2 h3 h4 => ?_, fun h => ?_⟩
          · rw [ih1 k (by
              by_cases e : k = i
              · subst e; rw [hh] at h3; cases h3
              · omega) h2 h3 fun j g1 g2 => h4 j (by omega) g2]; rfl
          · rw [ih2 fun j g1 g2 => h j (by omega) g2]; rfl
        | true =>
          have hp : preB c n l i = true := by unfold preB; rw [hb, hn0]; rfl
          rw [hp] at hs
          have hs : smF c n l (i + 1) = -1 := hs
          rw [hs] at ih1 ih2
          simp only [if_true]
          by_cases he : n i = l.length
          · have hh : hitB c n l i = true := by unfold hitB; rw [hp, Bool.true_and]; simpa using he
            rw [if_pos (by simp [he])]
            refine ⟨fun k h1 h2 h3 h4 => ?_, fun h => ?_⟩
            · by_cases e : k = i
              · subst e; rfl
              · have := h4 i (Nat.le_refl _) (by omega)
                rw [hh] at this; cases this
            · have := h i (Nat.le_refl _) hil
              rw [hh] at this; cases this
          · have hh : hitB c n l i = false := by unfold hitB; rw [hp, Bool.true_and]; simpa using he
            rw [if_neg (by simp; omega)]
            refine ⟨fun k h1 h2 h3 h4 => ?_, fun h => ?_⟩
            · rw [ih1 k (by
                by_cases e : k = i
                · subst e; rw [hh] at h3; cases h3
                · omega) h2 h3 fun j g1 g2 => h4 j (by omega) g2]; rfl
            · rw [ih2 fun j g1 g2 => h j (by omega) g2]; rfl
theorem F100_hit {N : Nat} (hN : 2000 < N) {C : List Cod} {c n : Nat → Nat} (hC : ∀ j, j < C.length → C[j]? = some ((c j : Int), (n j : Int), ()) ∧ c j < 1000000000 ∧ n j ≤ 15) (hl : C.length ≤ 1000) (l : List Bool) (hll : l.length ≤ 100) {k : Nat} (hk : k < C.length) (hh : hitB c n l k = true) (hf : ∀ j, j < k → hitB c n l j = false) : F100 N (C, l) = some (k : Int) := by
  obtain ⟨h1, _⟩ := F100_loop (N := N) (by omega) C c n hC hl l hll C.length 0 N (by omega) (by omega)
  simp only [F100, iteP_eq]
  have := h1 k (Nat.zero_le _) hk hh fun j _ hj => hf j hj
  rw [show smF c n l 0 = -2 from rfl, show ((0 : Nat) : Int) = 0 from rfl] at this
  rw [this, Option.bind_some]
theorem F100_none {N : Nat} (hN : 2000 < N) {C : List Cod} {c n : Nat → Nat} (hC : ∀ j, j < C.length → C[j]? = some ((c j : Int), (n j : Int), ()) ∧ c j < 1000000000 ∧ n j ≤ 15) (hl : C.length ≤ 1000) (l : List Bool) (hll : l.length ≤ 100) (hf : ∀ j, j < C.length → hitB c n l j = false) : F100 N (C, l) = some (smF c n l C.length) := by
  obtain ⟨_, h2⟩ := F100_loop (N := N) (by omega) C c n hC hl l hll C.length 0 N (by omega) (by omega)
  simp only [F100, iteP_eq]
  have := h2 fun j _ hj => hf j hj
  rw [show smF c n l 0 = -2 from rfl, show ((0 : Nat) : Int) = 0 from rfl] at this
  rw [this, Option.bind_some]
def restR (lens : List Int) (lg : Nat) : Nat → Nat
  | 0 => 0
  | d + 1 => (restR lens lg d + lens.count ((lg - d : Nat) : Int) + 1) / 2
theorem lgUp_le (lens : List Int) : ∀ l, lgUp lens l ≤ l
  | 0 => Nat.le_refl _
  | l + 1 => by
    have := lgUp_le lens l
    rw [lgUp]
    unfold lgOr
    split <;> omega
theorem bitsOf_get : ∀ (l : List UInt8) (j : Nat), j < 8 * l.length → (bitsOf l)[j]? = some ((l.getD (j / 8) 0).toNat.testBit (j % 8))
  | [], j, h => by simp at h
  | x :: l, j, h => by
    have e : bitsOf (x :: l) = bitsN 8 x.toNat ++ bitsOf l := by unfold bitsOf; rw [List.flatMap_cons]
    rw [e]
    by_cases h8 : j < 8
    · rw [List.getElem?_append_left (by rw [bitsN_length]; exact h8), getD_bitsN, if_pos h8, show j / 8 = 0 by omega, show j % 8 = j by omega]
      rfl
    · rw [List.getElem?_append_right (by rw [bitsN_length]; omega), bitsN_length, bitsOf_get l (j - 8) (by rw [List.length_cons] at h; omega), show j / 8 = (j - 8) / 8 + 1 by omega, show (j - 8) % 8 = j % 8 by omega]
      simp
theorem sbits_eq (s : ByteArray) (p k : Nat) (h : p + k ≤ 8 * s.size) : sbits s p k = ((allB s).drop p).take k := by
  have hal := allB_length s
  have hsl : s.data.toList.length = s.size := by simp
  apply List.ext_getElem?
  intro i
  unfold sbits
  by_cases hi : i < k
  · rw [List.getElem?_map, List.getElem?_range hi, List.getElem?_take_of_lt hi, List.getElem?_drop]
    unfold allB
    rw [bitsOf_get _ _ (by omega)]
    rfl
  · rw [List.getElem?_eq_none (by simp; omega), List.getElem?_eq_none (by simp; omega)]
def rd (L : List Bool) (p : Nat) (e n : Int) : Nat × Nat × Int :=
  if e = 0 then (if p + clampN n ≤ L.length then (val ((L.drop p).take (clampN n)), p + clampN n, 0) else (0, p, 2)) else (0, p, e)
theorem first_next (lens : List Int) {l : Nat} (h : 0 < l) : first lens (l + 1) = 2 * (first lens l + lens.count (l : Int)) := by
  match l, h with
  | k + 1, _ => rfl
theorem symsUp_step (lens : List Int) {l : Nat} (h : 0 < l) : (symsUp lens l).length = (symsUp lens (l - 1)).length + lens.count (l : Int) := by
  match l, h with
  | k + 1, _ =>
    rw [symsUp, List.length_append, symsTo_len lens (k + 1) lens.length (Nat.le_refl _), List.take_length]
    rfl
theorem symsUp_mono (lens : List Int) (l : Nat) : ∀ k, (symsUp lens l).length ≤ (symsUp lens (l + k)).length
  | 0 => Nat.le_refl _
  | k + 1 => by
    have := symsUp_mono lens l k
    rw [← Nat.add_assoc, symsUp, List.length_append]
    omega
def codeN (lens : List Int) (j : Nat) : Nat := first lens (lens.getD j 0).toNat + (lens.take j).count (lens.getD j 0)
theorem getD_at {lens : List Int} {j : Nat} (h : j < lens.length) : lens.getD j 0 = lens[j] := by
  rw [List.getD, List.getElem?_eq_getElem h]; rfl
theorem codeAt_eq (lens : List Int) (j : Nat) : codeAt lens j = if 0 < lens.getD j 0 then ((codeN lens j : Int), lens.getD j 0, ()) else (0, 0, ()) := rfl
theorem count_take_lt {lens : List Int} {j : Nat} (h : j < lens.length) : (lens.take j).count (lens.getD j 0) < lens.count (lens.getD j 0) := by
  have e : lens.count (lens.getD j 0) = (lens.take (j + 1) ++ lens.drop (j + 1)).count (lens.getD j 0) := by rw [List.take_append_drop]
  rw [e, take_snoc h, List.count_append, List.count_append, getD_at h, List.count_singleton_self]
  omega
theorem symsTo_at (lens : List Int) (l : Nat) : ∀ n, n ≤ lens.length → ∀ r, r < (symsTo lens l n).length → ∃ j, j < n ∧ lens.getD j 0 = (l : Int) ∧ (lens.take j).count (l : Int) = r ∧ (symsTo lens l n).getD r 0 = (j : Int)
  | 0, _, r, h => by simp [symsTo] at h
  | n + 1, hn, r, h => by
    have ih := symsTo_at lens l n (by omega)
    have hlen := symsTo_len lens l n (by omega)
    by_cases e : lens.getD n 0 = (l : Int)
    · have es : symsTo lens l (n + 1) = symsTo lens l n ++ [(n : Int)] := by rw [symsTo, if_pos e]
      rw [es] at h ⊢
      rw [List.length_append, List.length_singleton] at h
      by_cases hr : r < (symsTo lens l n).length
      · obtain ⟨j, h1, h2, h3, h4⟩ := ih r hr
        refine ⟨j, by omega, h2, h3, ?_⟩
        rw [List.getD, List.getElem?_append_left hr]
        exact h4
      · have : r = (symsTo lens l n).length := by omega
        subst this
        refine ⟨n, by omega, e, hlen.symm, ?_⟩
        rw [List.getD, List.getElem?_append_right (Nat.le_refl _), Nat.sub_self]
        rfl
    · have es : symsTo lens l (n + 1) = symsTo lens l n := by rw [symsTo, if_neg e]
      rw [es] at h ⊢
      obtain ⟨j, h1, h2⟩ := ih r h
      exact ⟨j, by omega, h2⟩
theorem symsUp_get (lens : List Int) {l : Nat} (h0 : 0 < l) {r : Nat} (hr : r < lens.count (l : Int)) : ∀ k, (symsUp lens (l + k)).getD ((symsUp lens (l - 1)).length + r) 0 = (symsTo lens l lens.length).getD r 0
  | 0 => by
    obtain ⟨m, rfl⟩ : ∃ m, l = m + 1 := ⟨l - 1, by omega⟩
    have hlen := symsTo_len lens (m + 1) lens.length (Nat.le_refl _)
    rw [List.take_length] at hlen
    rw [Nat.add_zero, Nat.add_sub_cancel, symsUp, List.getD, List.getD, List.getElem?_append_right (by omega), Nat.add_sub_cancel_left]
  | k + 1 => by
    have ih := symsUp_get lens h0 hr k
    have hst := symsUp_step lens h0
    have hm := symsUp_mono lens l k
    rw [← Nat.add_assoc, symsUp, List.getD, List.getElem?_append_left (by omega)]
    exact ih
theorem sym_at (lens : List Int) {l : Nat} (h0 : 0 < l) (hl : l ≤ 15) {w : Nat} (h1 : first lens l ≤ w) (h2 : w < first lens l + lens.count (l : Int)) :
    ∃ j, j < lens.length ∧ lens.getD j 0 = (l : Int) ∧ codeN lens j = w ∧ (symsUp lens 15).getD ((symsUp lens (l - 1)).length + (w - first lens l)) 0 = (j : Int) := by
  have hlen := symsTo_len lens l lens.length (Nat.le_refl _)
  rw [List.take_length] at hlen
  have hg := symsUp_get lens h0 (show w - first lens l < lens.count (l : Int) by omega) (15 - l)
  rw [show l + (15 - l) = 15 by omega] at hg
  obtain ⟨j, a1, a2, a3, a4⟩ := symsTo_at lens l lens.length (Nat.le_refl _) (w - first lens l) (by omega)
  refine ⟨j, a1, a2, ?_, by rw [hg, a4]⟩
  unfold codeN
  rw [a2, a3, Int.toNat_natCast]
  omega
theorem codeN_range {lens : List Int} {j : Nat} (hj : j < lens.length) {l : Nat} (hl : lens.getD j 0 = (l : Int)) : first lens l ≤ codeN lens j ∧ codeN lens j < first lens l + lens.count (l : Int) := by
  have h := count_take_lt hj
  unfold codeN
  rw [hl] at h ⊢
  rw [Int.toNat_natCast]
  omega
theorem codeN_inj {lens : List Int} {i j : Nat} (hi : i < lens.length) (hj : j < lens.length) (h1 : lens.getD i 0 = lens.getD j 0) (h2 : codeN lens i = codeN lens j) : i = j := by
  have key : ∀ a b, a < b → b < lens.length → lens.getD a 0 = lens.getD b 0 → (lens.take a).count (lens.getD a 0) < (lens.take b).count (lens.getD a 0) := by
    intro a b hab hb he
    have e : lens.take b = (lens.take b).take (a + 1) ++ (lens.take b).drop (a + 1) := (List.take_append_drop ..).symm
    rw [e, List.count_append, List.take_take, Nat.min_eq_left (by omega), take_snoc (show a < lens.length by omega), List.count_append, getD_at (show a < lens.length by omega), List.count_singleton_self]
    omega
  unfold codeN at h2
  rw [h1] at h2
  rcases Nat.lt_trichotomy i j with h | h | h
  · have := key i j h hj h1
    rw [h1] at this
    omega
  · exact h
  · have := key j i h hi h1.symm
    omega
theorem lgUp_none (lens : List Int) : ∀ n l, lgUp lens n < l → l ≤ n → lens.count (l : Int) = 0
  | 0, l, h1, h2 => by omega
  | n + 1, l, h1, h2 => by
    have hlen := symsTo_len lens (n + 1) lens.length (Nat.le_refl _)
    rw [List.take_length] at hlen
    rw [lgUp] at h1
    unfold lgOr at h1
    by_cases he : (symsTo lens (n + 1) lens.length).isEmpty = true
    · rw [if_pos he] at h1
      by_cases h : l = n + 1
      · subst h
        rw [List.isEmpty_iff] at he
        rw [← hlen, he]; rfl
      · exact lgUp_none lens n l h1 (by omega)
    · rw [if_neg he] at h1
      omega
theorem len_le_lg {lens : List Int} (hok : okB lens = true) {j : Nat} (hj : j < lens.length) : (lens.getD j 0).toNat ≤ lgUp lens 15 := by
  obtain ⟨a, b⟩ := okB_at hok hj
  rw [← getD_at hj] at a b
  refine Classical.byContradiction fun hn => ?_
  have h := lgUp_none lens 15 (lens.getD j 0).toNat (by omega) (by omega)
  have e : (((lens.getD j 0).toNat : Nat) : Int) = lens.getD j 0 := by omega
  rw [e] at h
  have := count_take_lt hj
  omega
theorem div_pow_succ (a b : Nat) : a / 2 ^ (b + 1) = a / 2 ^ b / 2 := by rw [Nat.pow_succ, Nat.div_div_eq_div_mul]
theorem pre_range {lens : List Int} (hok : okB lens = true) : ∀ d l, 0 < l → l + d = lgUp lens 15 → ∀ w,
    (∃ j, j < lens.length ∧ (l : Int) < lens.getD j 0 ∧ codeN lens j / 2 ^ ((lens.getD j 0).toNat - l) = w) ↔ (first lens l + lens.count (l : Int) ≤ w ∧ w < first lens l + lens.count (l : Int) + restR lens (lgUp lens 15) d)
  | 0, l, h0, h1, w => by
    constructor
    · rintro ⟨j, hj, h2, _⟩
      have := len_le_lg hok hj
      omega
    · rintro ⟨h2, h3⟩
      rw [restR] at h3
      omega
  | d + 1, l, h0, h1, w => by
    have ih := pre_range hok d (l + 1) (by omega) (by omega)
    have hf := first_next lens h0
    have hr : restR lens (lgUp lens 15) (d + 1) = (restR lens (lgUp lens 15) d + lens.count ((l + 1 : Nat) : Int) + 1) / 2 := by
      rw [restR, show lgUp lens 15 - d = l + 1 by omega]
    have hlg := lgUp_le lens 15
    constructor
    · rintro ⟨j, hj, h2, h3⟩
      by_cases e : lens.getD j 0 = ((l + 1 : Nat) : Int)
      · obtain ⟨r1, r2⟩ := codeN_range hj e
        rw [e, show ((l + 1 : Nat) : Int).toNat - l = 1 by omega] at h3
        omega
      · have h4 := (ih (codeN lens j / 2 ^ ((lens.getD j 0).toNat - (l + 1)))).1 ⟨j, hj, by omega, rfl⟩
        rw [show (lens.getD j 0).toNat - l = (lens.getD j 0).toNat - (l + 1) + 1 by omega, div_pow_succ] at h3
        omega
    · rintro ⟨h2, h3⟩
      by_cases e : 2 * w < first lens (l + 1) + lens.count ((l + 1 : Nat) : Int)
      · obtain ⟨j, a1, a2, a3, _⟩ := sym_at lens (l := l + 1) (w := 2 * w) (by omega) (by omega) (by omega) e
        refine ⟨j, a1, by omega, ?_⟩
        rw [a2, a3, show ((l + 1 : Nat) : Int).toNat - l = 1 by omega]
        omega
      · obtain ⟨j, a1, a2, a3⟩ := (ih (2 * w)).2 (by omega)
        refine ⟨j, a1, by omega, ?_⟩
        rw [show (lens.getD j 0).toNat - l = (lens.getD j 0).toNat - (l + 1) + 1 by omega, div_pow_succ, a3]
        omega
theorem room {lens : List Int} : ∀ l, lf lens (l + 1) = 2 ^ (l + 1) - ((first lens (l + 1) + lens.count ((l + 1 : Nat) : Int) : Nat) : Int)
  | 0 => by simp [lf, first]
  | l + 1 => by
    have hf := first_next lens (Nat.succ_pos l)
    rw [Nat.succ_eq_add_one] at hf
    rw [lf, room l, hf, Int.pow_succ 2 (l + 1)]
    omega
theorem chk_room {lens : List Int} (h : (chk lens).2 = 0) {l : Nat} (h0 : 0 < l) (hl : l ≤ 15) : first lens l + lens.count (l : Int) ≤ 2 ^ l := by
  have h15 : 0 ≤ lf lens 15 := by
    unfold chk at h
    by_cases hh : okL lens = true ∧ 0 ≤ lf lens 15
    · exact hh.2
    · rw [if_neg hh] at h; cases h
  have hl0 : 0 ≤ lf lens l := Int.not_lt.1 fun hn => by
    have := lf_neg lens l (15 - l) hn
    rw [show l + (15 - l) = 15 by omega] at this
    omega
  obtain ⟨m, rfl⟩ : ∃ m, l = m + 1 := ⟨l - 1, by omega⟩
  rw [room] at hl0
  have : ((2 ^ (m + 1) : Nat) : Int) = (2 : Int) ^ (m + 1) := by simp
  omega
theorem codeN_lt {lens : List Int} (h : (chk lens).2 = 0) {j : Nat} (hj : j < lens.length) (h0 : 0 < lens.getD j 0) : codeN lens j < 2 ^ (lens.getD j 0).toNat := by
  obtain ⟨a1, a2⟩ := chk_ok h
  obtain ⟨b1, b2⟩ := okB_at a2 hj
  rw [← getD_at hj] at b1 b2
  have e : lens.getD j 0 = (((lens.getD j 0).toNat : Nat) : Int) := by omega
  obtain ⟨r1, r2⟩ := codeN_range hj e
  have := chk_room h (l := (lens.getD j 0).toNat) (by omega) (by omega)
  omega
theorem snoc_ind {α : Type} {motive : List α → Prop} (h0 : motive []) (h1 : ∀ l b, motive l → motive (l ++ [b])) (l : List α) : motive l := by
  have key : ∀ m : List α, motive m.reverse := fun m => by
    induction m with
    | nil => exact h0
    | cons b m ih => rw [List.reverse_cons]; exact h1 _ _ ih
  have := key l.reverse
  rwa [List.reverse_reverse] at this
def valB (l : List Bool) : Nat := l.foldl (fun n b => 2 * n + b.toNat) 0
theorem valB_snoc (l : List Bool) (b : Bool) : valB (l ++ [b]) = 2 * valB l + b.toNat := by unfold valB; rw [List.foldl_append]; rfl
theorem beginsN_snoc (c n : Nat) (l : List Bool) (b : Bool) : beginsN c n (l ++ [b]) = (beginsN c n l && (decide (l.length < n) && (bitOf c n l.length == b))) := by
  unfold beginsN
  rw [List.length_append, List.length_singleton, List.range_succ, List.all_append]
  have e1 : ((List.range l.length).all fun i => bitOf c n i == (l ++ [b]).getD i false) = (List.range l.length).all fun i => bitOf c n i == l.getD i false := by
    apply Bool.eq_iff_iff.2
    rw [List.all_eq_true, List.all_eq_true]
    constructor
    · intro h i hi
      have := h i hi
      rwa [List.getD, List.getElem?_append_left (List.mem_range.1 hi)] at this
    · intro h i hi
      rw [List.getD, List.getElem?_append_left (List.mem_range.1 hi)]
      exact h i hi
  have e2 : (l ++ [b]).getD l.length false = b := by rw [List.getD, List.getElem?_append_right (Nat.le_refl _), Nat.sub_self]; rfl
  rw [e1]
  simp only [List.all_cons, List.all_nil, Bool.and_true, e2]
  by_cases h : l.length + 1 ≤ n
  · rw [decide_eq_true h, decide_eq_true (show l.length ≤ n by omega), decide_eq_true (show l.length < n by omega)]
    simp only [Bool.true_and]
  · rw [decide_eq_false h, decide_eq_false (show ¬ l.length < n by omega)]
    simp only [Bool.false_and, Bool.and_false]
theorem beginsN_iff {c n : Nat} (hc : c < 2 ^ n) (l : List Bool) : beginsN c n l = true ↔ l.length ≤ n ∧ c / 2 ^ (n - l.length) = valB l := by
  refine snoc_ind (motive := fun l => beginsN c n l = true ↔ l.length ≤ n ∧ c / 2 ^ (n - l.length) = valB l) ?_ (fun l b ih => ?_) l
  · have : c / 2 ^ n = 0 := Nat.div_eq_of_lt hc
    simp [beginsN, valB, this]
  · rw [beginsN_snoc, Bool.and_eq_true, Bool.and_eq_true, ih, valB_snoc, List.length_append, List.length_singleton, decide_eq_true_eq, beq_iff_eq]
    unfold bitOf
    constructor
    · rintro ⟨⟨h1, h2⟩, h3, h4⟩
      refine ⟨h3, ?_⟩
      rw [show n - l.length = n - (l.length + 1) + 1 by omega, div_pow_succ] at h2
      rw [show n - 1 - l.length = n - (l.length + 1) by omega, Nat.testBit_eq_decide_div_mod_eq] at h4
      generalize c / 2 ^ (n - (l.length + 1)) = q at *
      rcases Nat.mod_two_eq_zero_or_one q with h | h <;> rw [h] at h4 <;> subst h4 <;> simp <;> omega
    · rintro ⟨h3, h4⟩
      rw [show n - l.length = n - (l.length + 1) + 1 by omega, div_pow_succ, show n - 1 - l.length = n - (l.length + 1) by omega, Nat.testBit_eq_decide_div_mod_eq]
      generalize c / 2 ^ (n - (l.length + 1)) = q at *
      subst h4
      refine ⟨⟨by omega, ?_⟩, h3, ?_⟩ <;> cases b <;> simp <;> omega
theorem codesOf_at (lens : List Int) {j : Nat} (hj : j < lens.length) : (codesOf lens)[j]? = some (codeAt lens j) := by
  unfold codesOf; rw [List.getElem?_map, List.getElem?_range hj]; rfl
def cN (lens : List Int) (j : Nat) : Nat := if 0 < lens.getD j 0 then codeN lens j else 0
def nN (lens : List Int) (j : Nat) : Nat := (lens.getD j 0).toNat
theorem codes_hyp {lens : List Int} (h : (chk lens).2 = 0) : ∀ j, j < (codesOf lens).length → (codesOf lens)[j]? = some ((cN lens j : Int), (nN lens j : Int), ()) ∧ cN lens j < 1000000000 ∧ nN lens j ≤ 15 := by
  intro j hj
  rw [codesOf_len] at hj
  obtain ⟨a1, a2⟩ := chk_ok h
  obtain ⟨b1, b2⟩ := okB_at a2 hj
  rw [← getD_at hj] at b1 b2
  rw [codesOf_at lens hj, codeAt_eq]
  unfold cN nN
  by_cases h0 : 0 < lens.getD j 0
  · rw [if_pos h0, if_pos h0]
    have := codeN_lt h hj h0
    have hp : 2 ^ (lens.getD j 0).toNat ≤ 2 ^ 15 := Nat.pow_le_pow_right (by decide) (by omega)
    refine ⟨?_, by omega, by omega⟩
    rw [Int.toNat_of_nonneg b1]
  · rw [if_neg h0, if_neg h0]
    have e : lens.getD j 0 = 0 := by omega
    rw [e]
    exact ⟨rfl, by omega, by decide⟩
theorem preB_iff {lens : List Int} (h : (chk lens).2 = 0) {j : Nat} (hj : j < lens.length) (l : List Bool) :
    preB (cN lens) (nN lens) l j = true ↔ 0 < lens.getD j 0 ∧ l.length ≤ (lens.getD j 0).toNat ∧ codeN lens j / 2 ^ ((lens.getD j 0).toNat - l.length) = valB l := by
  obtain ⟨a1, a2⟩ := chk_ok h
  obtain ⟨b1, b2⟩ := okB_at a2 hj
  rw [← getD_at hj] at b1 b2
  unfold preB
  rw [Bool.and_eq_true, Bool.not_eq_true', beq_eq_false_iff_ne]
  by_cases h0 : 0 < lens.getD j 0
  · have e : cN lens j = codeN lens j := by unfold cN; rw [if_pos h0]
    unfold nN
    rw [e, beginsN_iff (codeN_lt h hj h0)]
    constructor
    · rintro ⟨x, y⟩; exact ⟨h0, y⟩
    · rintro ⟨x, y⟩; exact ⟨by omega, y⟩
  · constructor
    · rintro ⟨x, y⟩; unfold nN at x; omega
    · rintro ⟨x, y⟩; exact absurd x h0
theorem hitB_iff {lens : List Int} (h : (chk lens).2 = 0) {j : Nat} (hj : j < lens.length) (l : List Bool) :
    hitB (cN lens) (nN lens) l j = true ↔ 0 < l.length ∧ lens.getD j 0 = (l.length : Int) ∧ codeN lens j = valB l := by
  unfold hitB
  rw [Bool.and_eq_true, preB_iff h hj, beq_iff_eq]
  unfold nN
  constructor
  · rintro ⟨⟨x, y, z⟩, w⟩
    rw [w, Nat.sub_self, Nat.pow_zero, Nat.div_one] at z
    exact ⟨by omega, by omega, z⟩
  · rintro ⟨x, y, z⟩
    rw [y, Int.toNat_natCast, Nat.sub_self, Nat.pow_zero, Nat.div_one]
    exact ⟨⟨by omega, Nat.le_refl _, z⟩, rfl⟩
theorem bool_false {b : Bool} (h : ¬ b = true) : b = false := by cases b <;> simp_all
theorem smF_any {c n : Nat → Nat} {l : List Bool} {i : Nat} (h : ∃ j, j < i ∧ preB c n l j = true) : smF c n l i = -1 := by
  obtain ⟨j, h1, h2⟩ := h
  have : (List.range i).any (preB c n l) = true := List.any_eq_true.2 ⟨j, List.mem_range.2 h1, h2⟩
  unfold smF; rw [this]; rfl
theorem allB_strF (m : List Bool) : allB (strF m) = alignL m := by
  have h1 := allB_length (strF m)
  have h2 := strF_size m
  have h3 := alignL_length m
  apply List.ext_getElem?
  intro j
  by_cases h : j < 8 * (strF m).size
  · have e := sbits_eq (strF m) j 1 (by omega)
    have e2 : (allB (strF m))[j]? = some (sbit (strF m) j) := by
      have := congrArg (fun l : List Bool => l[0]?) e
      simp only [sbits, List.range_one, List.map_cons, List.map_nil, List.getElem?_cons_zero, Nat.add_zero] at this
      rw [List.getElem?_take_of_lt (by omega), List.getElem?_drop] at this
      exact this.symm
    rw [e2, sbit_strF]
    unfold alignL
    by_cases hj : j < m.length
    · rw [List.getElem?_append_left hj, List.getD, List.getElem?_eq_getElem hj]; rfl
    · rw [List.getElem?_append_right (by omega), List.getElem?_replicate, if_pos (by unfold padN; omega), List.getD, List.getElem?_eq_none (by omega)]; rfl
  · rw [List.getElem?_eq_none (by omega), List.getElem?_eq_none (by omega)]
theorem bitsN_val (l : List Bool) : bitsN l.length (val l) = l := by
  apply List.ext_getElem?
  intro i
  rw [getD_bitsN]
  by_cases h : i < l.length
  · rw [if_pos h, val_bit, List.getD, List.getElem?_eq_getElem h]; rfl
  · rw [if_neg h, List.getElem?_eq_none (by omega)]
theorem putB_val (n : Int) (l : List Bool) (h : l.length = clampN n) : putB n (val l : Int) = l := by
  unfold putB lowN
  have hv := val_lt l
  rw [h] at hv
  have hc := clampN_le n
  have hp := pow_le32 hc
  rw [BitVec.ofInt_natCast, BitVec.toNat_ofNat, Nat.mod_eq_of_lt (a := val l) (by omega), Nat.mod_eq_of_lt hv, ← h, bitsN_val]
def codeBits (c : Cod) : List Bool := (putB c.2.1 c.1).reverse
theorem codeBits_len (c : Cod) : (codeBits c).length ≤ 32 := by
  unfold codeBits; rw [List.length_reverse, putB_length]; exact clampN_le _
theorem F59_code {N : Nat} (hN : 6 ≤ N) (m : List Bool) (hm : m.length ≤ 1000000000) (c : Cod) :
    F59 N (c.1, c.2.1, lastF m, nF m, bF m) = some (lastF (m ++ codeBits c), nF (m ++ codeBits c), bF (m ++ codeBits c)) := by
  simp only [F59]
  rw [F98_rev, Option.bind_some, F14_bits hN m hm, Option.bind_some, revN_val, putB_val _ _ (by rw [List.length_reverse, putB_length])]
  rfl
theorem code_bits_at {lens : List Int} (h : (chk lens).2 = 0) {j : Nat} (hj : j < lens.length) (h0 : 0 < lens.getD j 0) :
    (codeBits (codeAt lens j)).length = (lens.getD j 0).toNat ∧ ∀ k, k < (lens.getD j 0).toNat → (codeBits (codeAt lens j))[k]? = some ((codeN lens j).testBit ((lens.getD j 0).toNat - 1 - k)) := by
  obtain ⟨a1, a2⟩ := chk_ok h
  obtain ⟨b1, b2⟩ := okB_at a2 hj
  rw [← getD_at hj] at b1 b2
  have hlt := codeN_lt h hj h0
  have hp : 2 ^ (lens.getD j 0).toNat ≤ 2 ^ 15 := Nat.pow_le_pow_right (by decide) (by omega)
  have hc : clampN (lens.getD j 0) = (lens.getD j 0).toNat := by unfold clampN; omega
  have hlen : (codeBits (codeAt lens j)).length = (lens.getD j 0).toNat := by
    unfold codeBits
    rw [codeAt_eq, if_pos h0, List.length_reverse, putB_length, hc]
  refine ⟨hlen, fun k hk => ?_⟩
  unfold codeBits at hlen ⊢
  rw [codeAt_eq, if_pos h0] at hlen ⊢
  simp only at hlen ⊢
  rw [List.length_reverse] at hlen
  rw [List.getElem?_reverse (by omega), hlen]
  unfold putB lowN
  rw [getD_bitsN, hc, if_pos (by omega), BitVec.ofInt_natCast, BitVec.toNat_ofNat, Nat.mod_eq_of_lt (a := codeN lens j) (by omega), Nat.mod_eq_of_lt hlt]
theorem F23_rd {N : Nat} (hN : 63 ≤ N) (L : List Bool) (p : Nat) (e n : Int) (hL : L.length ≤ 1000000000) (hp : p ≤ L.length) :
    F23 N (n, (p : Int), e, L) = some (((rd L p e n).1 : Int), ((rd L p e n).2.1 : Int), (rd L p e n).2.2, L) := by
  have hc := clampN_le n
  unfold rd
  simp only [F23, iteP_eq]
  rw [F50_clamp, Option.bind_some]
  by_cases he : e = 0
  · subst he
    rw [if_pos (by simp), if_pos rfl, wrap_i64 (z := (L.length : Int) - p) (by omega) (by omega)]
    by_cases h : p + clampN n ≤ L.length
    · have w1 : IntKind.wrap .i64 ((p : Int) + (clampN n : Int)) = ((p + clampN n : Nat) : Int) := by rw [wrap_i64 (by omega) (by omega)]; omega
      have w2 : IntKind.wrap .i64 (((p + clampN n : Nat) : Int) - (clampN n : Int)) = (p : Int) := by rw [wrap_i64 (by omega) (by omega)]; omega
      rw [ifF (by omega), if_neg (by simp), w1, w2, ifT (by omega), ifT (by omega), if_pos h, Int.toNat_natCast, Int.toNat_natCast, show p + clampN n - p = clampN n by omega]
      rw [F51_number _ (by rw [List.length_take]; omega) hN, Option.bind_some]
    · rw [ifT (by omega), if_neg h]
      rfl
  · rw [if_neg (by simpa using he), if_neg he, if_pos (by simpa using he)]
    rfl
theorem rd_put {N : Nat} (hN : 63 ≤ N) (a r : List Bool) (n v : Int) (hL : (a ++ (putB n v ++ r)).length ≤ 1000000000) :
    F23 N (n, (a.length : Int), 0, a ++ (putB n v ++ r)) = some ((lowN (clampN n) v : Int), ((a.length + clampN n : Nat) : Int), 0, a ++ (putB n v ++ r)) := by
  have h1 : a.length + clampN n ≤ (a ++ (putB n v ++ r)).length := by rw [List.length_append, List.length_append, putB_length]; omega
  rw [F23_rd hN _ _ _ _ hL (by rw [List.length_append]; omega)]
  unfold rd
  rw [if_pos rfl, if_pos h1, List.drop_left, List.take_left' (putB_length n v), val_putB]
theorem lowN_nat {k v : Nat} (hk : k ≤ 62) (h : v < 2 ^ k) : lowN k (v : Int) = v := by
  unfold lowN
  have h62 : v < 2 ^ 62 := Nat.lt_of_lt_of_le h (Nat.pow_le_pow_right (by decide) hk)
  rw [BitVec.ofInt_natCast, BitVec.toNat_ofNat, Nat.mod_eq_of_lt (Nat.lt_of_lt_of_le h62 (by decide)), Nat.mod_eq_of_lt h]
theorem rd_bit {N : Nat} (hN : 63 ≤ N) (L : List Bool) (p : Nat) (hL : L.length ≤ 1000000000) (b : Bool) (hb : L[p]? = some b) :
    F23 N (1, (p : Int), 0, L) = some ((b.toNat : Int), ((p + 1 : Nat) : Int), 0, L) := by
  have hp : p < L.length := (List.getElem?_eq_some_iff.1 hb).1
  rw [F23_rd hN _ _ _ _ hL (by omega)]
  unfold rd
  have hc : clampN 1 = 1 := rfl
  rw [if_pos rfl, hc, if_pos (by omega)]
  have : (L.drop p).take 1 = [b] := by
    rw [List.drop_eq_getElem_cons hp, List.take_succ_cons, List.take_zero]
    rw [List.getElem?_eq_getElem hp] at hb
    cases hb
    rfl
  rw [this]
  have : val [b] = b.toNat := by unfold val; unfold val; omega
  rw [this]
theorem code_begins {lens : List Int} (h : (chk lens).2 = 0) {j : Nat} (hj : j < lens.length) (h0 : 0 < lens.getD j 0) (k : Nat) (hk : k ≤ (lens.getD j 0).toNat) :
    preB (cN lens) (nN lens) ((codeBits (codeAt lens j)).take k) j = true := by
  obtain ⟨c1, c2⟩ := code_bits_at h hj h0
  unfold preB
  have e : cN lens j = codeN lens j := by unfold cN; rw [if_pos h0]
  have hl : ((codeBits (codeAt lens j)).take k).length = k := by rw [List.length_take, c1]; omega
  rw [Bool.and_eq_true, Bool.not_eq_true', beq_eq_false_iff_ne, e]
  unfold nN
  refine ⟨by omega, ?_⟩
  unfold beginsN
  rw [Bool.and_eq_true, decide_eq_true_eq, List.all_eq_true, hl]
  refine ⟨hk, fun i hi => ?_⟩
  have hi := List.mem_range.1 hi
  have e2 : ((codeBits (codeAt lens j)).take k).getD i false = (codeN lens j).testBit ((lens.getD j 0).toNat - 1 - i) := by
    rw [List.getD, List.getElem?_take_of_lt hi, c2 i (by omega)]
    rfl
  rw [e2]
  unfold bitOf
  exact beq_self_eq_true _
theorem valB_code {lens : List Int} (h : (chk lens).2 = 0) {j : Nat} (hj : j < lens.length) (h0 : 0 < lens.getD j 0) (k : Nat) (hk : k ≤ (lens.getD j 0).toNat) :
    codeN lens j / 2 ^ ((lens.getD j 0).toNat - k) = valB ((codeBits (codeAt lens j)).take k) := by
  have h1 := ((preB_iff h hj _).1 (code_begins h hj h0 k hk)).2.2
  obtain ⟨c1, c2⟩ := code_bits_at h hj h0
  rwa [show ((codeBits (codeAt lens j)).take k).length = k by rw [List.length_take, c1]; omega] at h1
theorem find_way {N : Nat} (hN : 2000 < N) {lens : List Int} (h : (chk lens).2 = 0) {j : Nat} (hj : j < lens.length) (h0 : 0 < lens.getD j 0) (k : Nat) (hk : k < (lens.getD j 0).toNat) :
    F100 N (codesOf lens, (codeBits (codeAt lens j)).take k) = some (-1) := by
  obtain ⟨a1, a2⟩ := chk_ok h
  obtain ⟨b1, b2⟩ := okB_at a2 hj
  rw [← getD_at hj] at b1 b2
  obtain ⟨c1, c2⟩ := code_bits_at h hj h0
  have hl : ((codeBits (codeAt lens j)).take k).length = k := by rw [List.length_take, c1]; omega
  have hC := codesOf_len lens
  rw [F100_none hN (codes_hyp h) (by omega) _ (by omega), smF_any ⟨j, by omega, code_begins h hj h0 k (by omega)⟩]
  intro i hi
  refine bool_false fun hh => ?_
  obtain ⟨g1, g2, g3⟩ := (hitB_iff h (show i < lens.length by omega) _).1 hh
  rw [hl] at g1 g2
  obtain ⟨r1, r2⟩ := codeN_range (show i < lens.length by omega) g2
  have hlg := len_le_lg a2 hj
  have hp := (pre_range a2 (lgUp lens 15 - k) k g1 (by omega) (codeN lens j / 2 ^ ((lens.getD j 0).toNat - k))).1 ⟨j, hj, by omega, rfl⟩
  rw [valB_code h hj h0 k (by omega), ← g3] at hp
  omega
theorem find_code {N : Nat} (hN : 2000 < N) {lens : List Int} (h : (chk lens).2 = 0) {j : Nat} (hj : j < lens.length) (h0 : 0 < lens.getD j 0) :
    F100 N (codesOf lens, codeBits (codeAt lens j)) = some (j : Int) := by
  obtain ⟨a1, a2⟩ := chk_ok h
  obtain ⟨b1, b2⟩ := okB_at a2 hj
  rw [← getD_at hj] at b1 b2
  obtain ⟨c1, c2⟩ := code_bits_at h hj h0
  have hC := codesOf_len lens
  have hv := valB_code h hj h0 _ (Nat.le_refl _)
  rw [Nat.sub_self, Nat.pow_zero, Nat.div_one, ← c1, List.take_length] at hv
  have hj1 : hitB (cN lens) (nN lens) (codeBits (codeAt lens j)) j = true := (hitB_iff h hj _).2 ⟨by omega, by omega, hv⟩
  refine F100_hit hN (codes_hyp h) (by omega) _ (by omega) (by omega) hj1 fun i hi => bool_false fun hh => ?_
  obtain ⟨g1, g2, g3⟩ := (hitB_iff h (show i < lens.length by omega) _).1 hh
  have := codeN_inj (show i < lens.length by omega) hj (by omega) (by omega)
  omega
theorem F63_loop {N : Nat} (hN : 2000 < N) {lens : List Int} (h : (chk lens).2 = 0) {j : Nat} (hj : j < lens.length) (h0 : 0 < lens.getD j 0) (a r : List Bool) (hL : (a ++ (codeBits (codeAt lens j) ++ r)).length ≤ 1000000000) :
    ∀ (d k f : Nat), k + d = (lens.getD j 0).toNat → d < f → F63_14 N f (codesOf lens, ((a.length + k : Nat) : Int), 0, (codeBits (codeAt lens j)).take k, a ++ (codeBits (codeAt lens j) ++ r)) =
      some ((j : Int), 0, ((a.length + (lens.getD j 0).toNat : Nat) : Int), 0, a ++ (codeBits (codeAt lens j) ++ r)) := by
  obtain ⟨c1, c2⟩ := code_bits_at h hj h0
  obtain ⟨a1, a2⟩ := chk_ok h
  obtain ⟨b1, b2⟩ := okB_at a2 hj
  rw [← getD_at hj] at b1 b2
  intro d
  induction d with
  | zero =>
    intro k f hk hf
    cases f with
    | zero => omega
    | succ f =>
      have e : (codeBits (codeAt lens j)).take k = codeBits (codeAt lens j) := List.take_of_length_le (by omega)
      simp only [F63_14, B63_14, iteP_eq]
      rw [e, find_code hN h hj h0, Option.bind_some, ifT (by omega), show k = (lens.getD j 0).toNat by omega]
  | succ d ih =>
    intro k f hk hf
    cases f with
    | zero => omega
    | succ f =>
      have hb : (a ++ (codeBits (codeAt lens j) ++ r))[a.length + k]? = some ((codeBits (codeAt lens j)).getD k false) := by
        rw [List.getElem?_append_right (by omega), show a.length + k - a.length = k by omega, List.getElem?_append_left (by omega), List.getD, List.getElem?_eq_getElem (show k < (codeBits (codeAt lens j)).length by omega), Option.getD_some]
      have ht : (codeBits (codeAt lens j)).take (k + 1) = (codeBits (codeAt lens j)).take k ++ [(codeBits (codeAt lens j)).getD k false] := by
        rw [List.take_add_one, List.getD, List.getElem?_eq_getElem (show k < (codeBits (codeAt lens j)).length by omega)]
        rfl
      have hbit : ((((codeBits (codeAt lens j)).getD k false).toNat : Int) == 1) = (codeBits (codeAt lens j)).getD k false := by
        cases (codeBits (codeAt lens j)).getD k false <;> rfl
      have hln : ((codeBits (codeAt lens j)).take k).length = k := by rw [List.length_take]; omega
      have hI := ih (k + 1) f (by omega) (by omega)
      simp only [F63_14, B63_14, iteP_eq]
      rw [find_way hN h hj h0 k (by omega), Option.bind_some, if_neg (by decide), if_neg (by decide), rd_bit (by omega) _ _ hL _ hb, Option.bind_some, if_neg (by simp), if_pos (by simp only [decide_eq_true_eq, List.length_singleton, hln]; omega), hbit, ← ht, Nat.add_assoc, hI]
      rfl
theorem F63_symbol {N : Nat} (hN : 2000 < N) {lens : List Int} (h : (chk lens).2 = 0) {j : Nat} (hj : j < lens.length) (h0 : 0 < lens.getD j 0) (a r : List Bool) (hL : (a ++ (codeBits (codeAt lens j) ++ r)).length ≤ 1000000000) :
    F63 N (codesOf lens, (a.length : Int), 0, a ++ (codeBits (codeAt lens j) ++ r)) = some ((j : Int), 0, ((a.length + (codeBits (codeAt lens j)).length : Nat) : Int), 0, a ++ (codeBits (codeAt lens j) ++ r)) := by
  obtain ⟨c1, c2⟩ := code_bits_at h hj h0
  obtain ⟨a1, a2⟩ := chk_ok h
  obtain ⟨b1, b2⟩ := okB_at a2 hj
  rw [← getD_at hj] at b1 b2
  have := F63_loop hN h hj h0 a r hL (lens.getD j 0).toNat 0 N (by omega) (by omega)
  rw [List.take_zero, Nat.add_zero] at this
  simp only [F63]
  rw [this, Option.bind_some, c1]
end Go.Proofs.YteddgkplkjldcaaGreat.Am
