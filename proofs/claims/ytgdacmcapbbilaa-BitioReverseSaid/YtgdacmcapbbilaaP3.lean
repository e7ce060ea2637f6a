/- The Lean function that BitioReverse comes to answers true at every input. -/
import Derived.Test.YtgdacmcapbbilaaS1
import Derived.Test.YtgdacmcapbbilaaAmC
namespace Go.Proofs.Ytgdacmcapbbilaa.Am
open Go.Am
set_option linter.unusedSimpArgs false
set_option linter.unusedVariables false

theorem F33_rev (N : Nat) (X : BitVec 64) : F33 N (U X) = some (U (rev64 X)) := by
  simp only [F33, F40, wrapU, ofU, shr1, shr2, shr4, shr8, shr16, shr32, shl1, shl2, shl4, shl8, shl16, shl32, Option.bind_some]
  rfl

def clampN (b : Int) : Nat := min b.toNat 32
theorem clampN_le (b : Int) : clampN b ≤ 32 := Nat.min_le_right ..
theorem clamp_eq (b : Int) : (if (32 : Int) < (if (0 : Int) > b then (0 : Int) else b) then (32 : Int) else if (0 : Int) > b then (0 : Int) else b) = (clampN b : Int) := by
  unfold clampN
  split <;> split at * <;> omega
theorem F32_clamp (N : Nat) (b : Int) : F32 N b = some (clampN b : Int) := by
  show some _ = _
  rw [← clamp_eq]

def lowN (n : Nat) (v : Int) : Nat := (BitVec.ofInt 64 v).toNat % 2 ^ n
theorem lowN_lt (n : Nat) (v : Int) : lowN n v < 2 ^ n := Nat.mod_lt _ (Nat.pow_pos (by decide))
theorem pow_le32 {n : Nat} (h : n ≤ 32) : 2 ^ n ≤ 4294967296 := Nat.pow_le_pow_right (n := 2) (by decide) h

theorem mask_eq {n : Nat} (hn : n ≤ 32) : IntKind.wrap .i64 ((1 : Int) * 2 ^ min (Int.toNat (n : Int)) 64) = ((2 ^ n : Nat) : Int) := by
  have := pow_le32 hn
  have h1 : min (Int.toNat (n : Int)) 64 = n := by simp; omega
  rw [h1, Int.one_mul, show ((2 : Int) ^ n) = ((2 ^ n : Nat) : Int) by simp]
  generalize 2 ^ n = k at *
  exact wrap_i64 (by omega) (by omega)

theorem low_eq {n : Nat} (hn : n ≤ 32) (v : Int) : IntKind.wrap .i64 ((BitVec.toNat (BitVec.ofInt 64 v &&& BitVec.ofInt 64 (IntKind.wrap .i64 (IntKind.wrap .i64 ((1 : Int) * 2 ^ min (Int.toNat (n : Int)) 64) - 1))) : Nat) : Int) = (lowN n v : Int) := by
  have hp := pow_le32 hn
  have hpos : 0 < 2 ^ n := Nat.pow_pos (by decide)
  have hw : IntKind.wrap .i64 (((2 ^ n : Nat) : Int) - 1) = ((2 ^ n : Nat) : Int) - 1 := by
    generalize 2 ^ n = k at *
    exact wrap_i64 (by omega) (by omega)
  rw [mask_eq hn, hw]
  have e : BitVec.ofInt 64 (((2 ^ n : Nat) : Int) - 1) = BitVec.ofNat 64 (2 ^ n - 1) := by
    rw [show ((2 ^ n : Nat) : Int) - 1 = ((2 ^ n - 1 : Nat) : Int) by generalize 2 ^ n = k at *; omega]
    exact BitVec.ofInt_natCast ..
  have e2 : (BitVec.ofInt 64 v &&& BitVec.ofNat 64 (2 ^ n - 1)).toNat = lowN n v := by
    rw [BitVec.toNat_and, BitVec.toNat_ofNat, Nat.mod_eq_of_lt (by omega), Nat.and_two_pow_sub_one_eq_mod]
    rfl
  rw [e, e2]
  have := lowN_lt n v
  exact wrap_i64 (by omega) (by omega)

theorem F34_low (N : Nat) {n : Nat} (hn : n ≤ 32) (v : Int) : F34 N ((n : Int), v) = some (lowN n v : Int) := by
  show (if decide ((n : Int) < 0) = true then none else some _) = _
  rw [if_neg (by simp)]
  exact congrArg some (low_eq hn v)

def revN (n : Nat) (L : Nat) : Nat := (rev64 (BitVec.ofNat 64 L)).toNat >>> (64 - n)

theorem revN_lt {n : Nat} (hn : n ≤ 32) (L : Nat) : revN n L < 2 ^ n := by
  unfold revN
  rw [Nat.shiftRight_eq_div_pow]
  apply Nat.div_lt_of_lt_mul
  rw [← Nat.pow_add, show 64 - n + n = 64 by omega]
  exact (rev64 _).isLt

theorem revN_bit {n : Nat} (hn : n ≤ 32) {L : Nat} (i : Nat) : (revN n L).testBit i = (decide (i < n) && L.testBit (n - 1 - i)) := by
  unfold revN
  rw [Nat.testBit_shiftRight]
  by_cases h : i < n
  · have := rev64_bit (BitVec.ofNat 64 L) (i := 64 - n + i) (by omega)
    rw [BitVec.getLsbD, BitVec.getLsbD] at this
    rw [this, BitVec.toNat_ofNat, Nat.testBit_mod_two_pow]
    have e : 63 - (64 - n + i) = n - 1 - i := by omega
    rw [e]
    simp [h]; omega
  · have : (rev64 (BitVec.ofNat 64 L)).getLsbD (64 - n + i) = false := BitVec.getLsbD_of_ge _ _ (by omega)
    rw [BitVec.getLsbD] at this
    rw [this]
    simp [h]

theorem F9_rev (N : Nat) (a b : Int) : F9 N (a, b) = some (revN (clampN b) (lowN (clampN b) a) : Int) := by
  have hc := clampN_le b
  have hp := pow_le32 hc
  have hl := lowN_lt (clampN b) a
  simp only [F9]
  rw [F32_clamp, Option.bind_some, F34_low N hc, Option.bind_some]
  have e1 : IntKind.wrap .u64 ((lowN (clampN b) a : Nat) : Int) = U (BitVec.ofNat 64 (lowN (clampN b) a)) := by
    rw [wrap_u64]; unfold U
    rw [BitVec.toNat_ofNat]
    omega
  rw [e1, F33_rev, Option.bind_some]
  have e2 : IntKind.wrap .i64 ((64 : Int) - (clampN b : Int)) = ((64 - clampN b : Nat) : Int) := by
    rw [wrap_i64 (by omega) (by omega)]; omega
  rw [e2, if_neg (by simp)]
  have e3 : min (Int.toNat ((64 - clampN b : Nat) : Int)) 64 = 64 - clampN b := by
    simp
  rw [e3, shrU]
  congr 1
  have hr := revN_lt hc (lowN (clampN b) a)
  have e4 : U (rev64 (BitVec.ofNat 64 (lowN (clampN b) a)) >>> (64 - clampN b)) = (revN (clampN b) (lowN (clampN b) a) : Int) := by
    unfold U revN
    rw [BitVec.toNat_ushiftRight]
  rw [e4]
  exact wrap_i64 (by omega) (by omega)
end Go.Proofs.Ytgdacmcapbbilaa.Am

namespace Go.Proofs.Ytgdacmcapbbilaa.Am
open Go.Am
set_option linter.unusedSimpArgs false
set_option linter.unusedVariables false

theorem works8 : F8 100 () = some true := by kernel_rfl

theorem bit1 (z : Int) : IntKind.wrap .i64 ((BitVec.toNat (BitVec.ofInt 64 z &&& BitVec.ofInt 64 1) : Nat) : Int) = z % 2 := by
  have e : (BitVec.ofInt 64 z &&& BitVec.ofInt 64 1).toNat = (z % 2).toNat := by
    rw [BitVec.toNat_and, show (BitVec.ofInt 64 1).toNat = 2 ^ 1 - 1 from rfl, Nat.and_two_pow_sub_one_eq_mod, BitVec.toNat_ofInt]
    omega
  rw [e]
  rw [wrap_i64 (by omega) (by omega)]
  omega

theorem bit_low {n k : Nat} (hn : n ≤ 32) (hk : k < n) (a : Int) : (Int.fdiv a (2 ^ k)) % 2 = ((lowN n a / 2 ^ k % 2 : Nat) : Int) := by
  have hpos : (0 : Int) < 2 ^ k := Int.pow_pos (by decide)
  rw [Int.fdiv_eq_ediv_of_nonneg _ (Int.le_of_lt hpos)]
  have hL : (lowN n a : Int) = a % (2 ^ n : Int) := by
    unfold lowN
    rw [BitVec.toNat_ofInt]
    have h64 : (2 ^ n : Int) ∣ (2 ^ 64 : Int) := by
      refine ⟨2 ^ (64 - n), ?_⟩
      rw [← Int.pow_add, show n + (64 - n) = 64 by omega]
    have hm : a % (2 ^ 64 : Int) % (2 ^ n : Int) = a % (2 ^ n : Int) := Int.emod_emod_of_dvd a h64
    rw [← hm]
    have hnn : 0 ≤ a % (2 ^ 64 : Int) := Int.emod_nonneg _ (by decide)
    rw [Int.natCast_emod, Int.toNat_of_nonneg (by simpa using hnn)]
    simp
  obtain ⟨m, hm⟩ : ∃ m : Int, a = (lowN n a : Int) + 2 ^ k * (2 * m) := by
    refine ⟨2 ^ (n - k - 1) * (a / 2 ^ n), ?_⟩
    have e : (2 : Int) ^ k * (2 * (2 ^ (n - k - 1) * (a / 2 ^ n))) = 2 ^ n * (a / 2 ^ n) := by
      rw [← Int.mul_assoc, ← Int.mul_assoc, ← Int.pow_succ, ← Int.pow_add, show k + 1 + (n - k - 1) = n by omega]
    rw [e, hL]
    have := Int.emod_add_mul_ediv a (2 ^ n)
    omega
  have e2 : a / 2 ^ k = (lowN n a : Int) / 2 ^ k + 2 * m := by
    rw [hm, Int.add_mul_ediv_left _ _ (by omega)]
    rw [← hm]
  rw [e2]
  have e3 : ((lowN n a / 2 ^ k % 2 : Nat) : Int) = (lowN n a : Int) / 2 ^ k % 2 := by simp
  rw [e3]
  omega

theorem rev_rev {n : Nat} (hn : n ≤ 32) (a : Int) : revN n (lowN n ((revN n (lowN n a) : Nat) : Int)) = lowN n a := by
  have hr := revN_lt hn (lowN n a)
  have hp := pow_le32 hn
  have e : lowN n ((revN n (lowN n a) : Nat) : Int) = revN n (lowN n a) := by
    show (BitVec.ofInt 64 ((revN n (lowN n a) : Nat) : Int)).toNat % 2 ^ n = revN n (lowN n a)
    rw [BitVec.ofInt_natCast, BitVec.toNat_ofNat]
    generalize 2 ^ n = q at *
    rw [Nat.mod_eq_of_lt (show revN n (lowN n a) < 2 ^ 64 by omega), Nat.mod_eq_of_lt hr]
  rw [e]
  apply Nat.eq_of_testBit_eq
  intro i
  rw [revN_bit hn, revN_bit hn]
  by_cases h : i < n
  · have h2 : n - 1 - i < n := by omega
    rw [show n - 1 - (n - 1 - i) = i by omega]
    simp [h, h2]
  · have : (lowN n a).testBit i = false := Nat.testBit_lt_two_pow (Nat.lt_of_lt_of_le (lowN_lt n a) (Nat.pow_le_pow_right (by decide) (by omega)))
    simp [h, this]

theorem law3 (a b c : Int) : ∃ N, F3 N (a, b, c) = some true := by
  refine ⟨100, ?_⟩
  have hn := clampN_le b
  simp only [F3, clamp_eq]
  rw [works8, Option.bind_some, if_neg (by decide), F9_rev, Option.bind_some, F9_rev, Option.bind_some]
  generalize clampN b = n at *
  have hr := revN_lt hn (lowN n a)
  rw [if_neg (by simp), low_eq hn, rev_rev hn, if_neg (by simp), if_neg (by simp), if_neg (by simp), mask_eq hn, if_neg (by simp only [decide_eq_true_eq]; omega)]
  by_cases h1 : c < 0
  · rw [if_pos (by simp [h1])]
  · rw [if_neg (by simp [h1])]
    by_cases h2 : c ≥ (n : Int)
    · rw [if_pos (by simp [h2])]
    · rw [if_neg (by simpa using h2), if_pos rfl, if_neg (by simp [h1])]
      have e : IntKind.wrap .i64 (IntKind.wrap .i64 ((n : Int) - 1) - c) = ((n - 1 - c.toNat : Nat) : Int) := by
        rw [wrap_i64 (z := (n : Int) - 1) (by omega) (by omega), wrap_i64 (by omega) (by omega)]
        omega
      rw [e, if_neg (by simp), bit1, bit1]
      have m1 : min (Int.toNat c) 64 = c.toNat := by omega
      have m2 : min (Int.toNat ((n - 1 - c.toNat : Nat) : Int)) 64 = n - 1 - c.toNat := by omega
      rw [m1, m2, bit_low hn (by omega) a]
      have hb := revN_bit hn (L := lowN n a) c.toNat
      have hlt : c.toNat < n := by omega
      simp only [hlt, decide_true, Bool.true_and, Nat.testBit_eq_decide_div_mod_eq] at hb
      have el : (Int.fdiv ((revN n (lowN n a) : Nat) : Int) (2 ^ c.toNat)) % 2 = ((revN n (lowN n a) / 2 ^ c.toNat % 2 : Nat) : Int) := by
        rw [Int.fdiv_eq_ediv_of_nonneg _ (Int.pow_nonneg (by decide))]
        simp
      rw [el]
      have := decide_eq_decide.1 hb
      have u1 := Nat.mod_two_eq_zero_or_one (revN n (lowN n a) / 2 ^ c.toNat)
      have u2 := Nat.mod_two_eq_zero_or_one (lowN n a / 2 ^ (n - 1 - c.toNat))
      congr 1
      simp only [beq_iff_eq]
      generalize revN n (lowN n a) / 2 ^ c.toNat % 2 = p at *
      generalize lowN n a / 2 ^ (n - 1 - c.toNat) % 2 = q at *
      omega
end Go.Proofs.Ytgdacmcapbbilaa.Am
