/- The Lean function that BitioSplit comes to answers true at every input. -/
import Derived.Test.YtgdacmcapbbilaaS1
import Derived.Test.YtgdacmcapbbilaaAmC
namespace Go.Proofs.Ytgdacmcapbbilaa.Am
open Go.Am
set_option linter.unusedSimpArgs false
set_option linter.unusedVariables false

theorem F33_rev (N : Nat) (X : BitVec 64) : F33 N (U X) = some (U (rev64 X)) := by
  simp only [F33, F40, wrapU, ofU, shr1, shr2, shr4, shr8, shr16, shr32, shl1, shl2, shl4, shl8, shl16, shl32, Option.bind_some]
  rfl

def clampN (b : Int) : Nat := min b.toNat 32
theorem clampN_le (b : Int) : clampN b ≤ 32 := Nat.min_le_right ..
theorem clamp_eq (b : Int) : (if (32 : Int) < (if (0 : Int) > b then (0 : Int) else b) then (32 : Int) else if (0 : Int) > b then (0 : Int) else b) = (clampN b : Int) := by
  unfold clampN
  split <;> split at * <;> omega
theorem F32_clamp (N : Nat) (b : Int) : F32 N b = some (clampN b : Int) := by
  show some _ = _
  rw [← clamp_eq]

def lowN (n : Nat) (v : Int) : Nat := (BitVec.ofInt 64 v).toNat % 2 ^ n
theorem lowN_lt (n : Nat) (v : Int) : lowN n v < 2 ^ n := Nat.mod_lt _ (Nat.pow_pos (by decide))
theorem pow_le32 {n : Nat} (h : n ≤ 32) : 2 ^ n ≤ 4294967296 := Nat.pow_le_pow_right (n := 2) (by decide) h

theorem mask_eq {n : Nat} (hn : n ≤ 32) : IntKind.wrap .i64 ((1 : Int) * 2 ^ min (Int.toNat (n : Int)) 64) = ((2 ^ n : Nat) : Int) := by
  have := pow_le32 hn
  have h1 : min (Int.toNat (n : Int)) 64 = n := by simp; omega
  rw [h1, Int.one_mul, show ((2 : Int) ^ n) = ((2 ^ n : Nat) : Int) by simp]
  generalize 2 ^ n = k at *
  exact wrap_i64 (by omega) (by omega)

theorem low_eq {n : Nat} (hn : n ≤ 32) (v : Int) : IntKind.wrap .i64 ((BitVec.toNat (BitVec.ofInt 64 v &&& BitVec.ofInt 64 (IntKind.wrap .i64 (IntKind.wrap .i64 ((1 : Int) * 2 ^ min (Int.toNat (n : Int)) 64) - 1))) : Nat) : Int) = (lowN n v : Int) := by
  have hp := pow_le32 hn
  have hpos : 0 < 2 ^ n := Nat.pow_pos (by decide)
  have hw : IntKind.wrap .i64 (((2 ^ n : Nat) : Int) - 1) = ((2 ^ n : Nat) : Int) - 1 := by
    generalize 2 ^ n = k at *
    exact wrap_i64 (by omega) (by omega)
  rw [mask_eq hn, hw]
  have e : BitVec.ofInt 64 (((2 ^ n : Nat) : Int) - 1) = BitVec.ofNat 64 (2 ^ n - 1) := by
    rw [show ((2 ^ n : Nat) : Int) - 1 = ((2 ^ n - 1 : Nat) : Int) by generalize 2 ^ n = k at *; omega]
    exact BitVec.ofInt_natCast ..
  have e2 : (BitVec.ofInt 64 v &&& BitVec.ofNat 64 (2 ^ n - 1)).toNat = lowN n v := by
    rw [BitVec.toNat_and, BitVec.toNat_ofNat, Nat.mod_eq_of_lt (by omega), Nat.and_two_pow_sub_one_eq_mod]
    rfl
  rw [e, e2]
  have := lowN_lt n v
  exact wrap_i64 (by omega) (by omega)

theorem F34_low (N : Nat) {n : Nat} (hn : n ≤ 32) (v : Int) : F34 N ((n : Int), v) = some (lowN n v : Int) := by
  show (if decide ((n : Int) < 0) = true then none else some _) = _
  rw [if_neg (by simp)]
  exact congrArg some (low_eq hn v)

def revN (n : Nat) (L : Nat) : Nat := (rev64 (BitVec.ofNat 64 L)).toNat >>> (64 - n)

theorem revN_lt {n : Nat} (hn : n ≤ 32) (L : Nat) : revN n L < 2 ^ n := by
  unfold revN
  rw [Nat.shiftRight_eq_div_pow]
  apply Nat.div_lt_of_lt_mul
  rw [← Nat.pow_add, show 64 - n + n = 64 by omega]
  exact (rev64 _).isLt

theorem revN_bit {n : Nat} (hn : n ≤ 32) {L : Nat} (i : Nat) : (revN n L).testBit i = (decide (i < n) && L.testBit (n - 1 - i)) := by
  unfold revN
  rw [Nat.testBit_shiftRight]
  by_cases h : i < n
  · have := rev64_bit (BitVec.ofNat 64 L) (i := 64 - n + i) (by omega)
    rw [BitVec.getLsbD, BitVec.getLsbD] at this
    rw [this, BitVec.toNat_ofNat, Nat.testBit_mod_two_pow]
    have e : 63 - (64 - n + i) = n - 1 - i := by omega
    rw [e]
    simp [h]; omega
  · have : (rev64 (BitVec.ofNat 64 L)).getLsbD (64 - n + i) = false := BitVec.getLsbD_of_ge _ _ (by omega)
    rw [BitVec.getLsbD] at this
    rw [this]
    simp [h]

theorem F9_rev (N : Nat) (a b : Int) : F9 N (a, b) = some (revN (clampN b) (lowN (clampN b) a) : Int) := by
  have hc := clampN_le b
  have hp := pow_le32 hc
  have hl := lowN_lt (clampN b) a
  simp only [F9]
  rw [F32_clamp, Option.bind_some, F34_low N hc, Option.bind_some]
  have e1 : IntKind.wrap .u64 ((lowN (clampN b) a : Nat) : Int) = U (BitVec.ofNat 64 (lowN (clampN b) a)) := by
    rw [wrap_u64]; unfold U
    rw [BitVec.toNat_ofNat]
    omega
  rw [e1, F33_rev, Option.bind_some]
  have e2 : IntKind.wrap .i64 ((64 : Int) - (clampN b : Int)) = ((64 - clampN b : Nat) : Int) := by
    rw [wrap_i64 (by omega) (by omega)]; omega
  rw [e2, if_neg (by simp)]
  have e3 : min (Int.toNat ((64 - clampN b : Nat) : Int)) 64 = 64 - clampN b := by
    simp
  rw [e3, shrU]
  congr 1
  have hr := revN_lt hc (lowN (clampN b) a)
  have e4 : U (rev64 (BitVec.ofNat 64 (lowN (clampN b) a)) >>> (64 - clampN b)) = (revN (clampN b) (lowN (clampN b) a) : Int) := by
    unfold U revN
    rw [BitVec.toNat_ushiftRight]
  rw [e4]
  exact wrap_i64 (by omega) (by omega)
end Go.Proofs.Ytgdacmcapbbilaa.Am

namespace Go.Proofs.Ytgdacmcapbbilaa.Am
open Go.Am
set_option linter.unusedSimpArgs false
set_option linter.unusedVariables false

theorem works8 : F8 100 () = some true := by kernel_rfl

theorem bit1 (z : Int) : IntKind.wrap .i64 ((BitVec.toNat (BitVec.ofInt 64 z &&& BitVec.ofInt 64 1) : Nat) : Int) = z % 2 := by
  have e : (BitVec.ofInt 64 z &&& BitVec.ofInt 64 1).toNat = (z % 2).toNat := by
    rw [BitVec.toNat_and, show (BitVec.ofInt 64 1).toNat = 2 ^ 1 - 1 from rfl, Nat.and_two_pow_sub_one_eq_mod, BitVec.toNat_ofInt]
    omega
  rw [e]
  rw [wrap_i64 (by omega) (by omega)]
  omega

theorem bit_low {n k : Nat} (hn : n ≤ 32) (hk : k < n) (a : Int) : (Int.fdiv a (2 ^ k)) % 2 = ((lowN n a / 2 ^ k % 2 : Nat) : Int) := by
  have hpos : (0 : Int) < 2 ^ k := Int.pow_pos (by decide)
  rw [Int.fdiv_eq_ediv_of_nonneg _ (Int.le_of_lt hpos)]
  have hL : (lowN n a : Int) = a % (2 ^ n : Int) := by
    unfold lowN
    rw [BitVec.toNat_ofInt]
    have h64 : (2 ^ n : Int) ∣ (2 ^ 64 : Int) := by
      refine ⟨2 ^ (64 - n), ?_⟩
      rw [← Int.pow_add, show n + (64 - n) = 64 by omega]
    have hm : a % (2 ^ 64 : Int) % (2 ^ n : Int) = a % (2 ^ n : Int) := Int.emod_emod_of_dvd a h64
    rw [← hm]
    have hnn : 0 ≤ a % (2 ^ 64 : Int) := Int.emod_nonneg _ (by decide)
    rw [Int.natCast_emod, Int.toNat_of_nonneg (by simpa using hnn)]
    simp
  obtain ⟨m, hm⟩ : ∃ m : Int, a = (lowN n a : Int) + 2 ^ k * (2 * m) := by
    refine ⟨2 ^ (n - k - 1) * (a / 2 ^ n), ?_⟩
    have e : (2 : Int) ^ k * (2 * (2 ^ (n - k - 1) * (a / 2 ^ n))) = 2 ^ n * (a / 2 ^ n) := by
      rw [← Int.mul_assoc, ← Int.mul_assoc, ← Int.pow_succ, ← Int.pow_add, show k + 1 + (n - k - 1) = n by omega]
    rw [e, hL]
    have := Int.emod_add_mul_ediv a (2 ^ n)
    omega
  have e2 : a / 2 ^ k = (lowN n a : Int) / 2 ^ k + 2 * m := by
    rw [hm, Int.add_mul_ediv_left _ _ (by omega)]
    rw [← hm]
  rw [e2]
  have e3 : ((lowN n a / 2 ^ k % 2 : Nat) : Int) = (lowN n a : Int) / 2 ^ k % 2 := by simp
  rw [e3]
  omega

theorem rev_rev {n : Nat} (hn : n ≤ 32) (a : Int) : revN n (lowN n ((revN n (lowN n a) : Nat) : Int)) = lowN n a := by
  have hr := revN_lt hn (lowN n a)
  have hp := pow_le32 hn
  have e : lowN n ((revN n (lowN n a) : Nat) : Int) = revN n (lowN n a) := by
    show (BitVec.ofInt 64 ((revN n (lowN n a) : Nat) : Int)).toNat % 2 ^ n = revN n (lowN n a)
    rw [BitVec.ofInt_natCast, BitVec.toNat_ofNat]
    generalize 2 ^ n = q at *
    rw [Nat.mod_eq_of_lt (show revN n (lowN n a) < 2 ^ 64 by omega), Nat.mod_eq_of_lt hr]
  rw [e]
  apply Nat.eq_of_testBit_eq
  intro i
  rw [revN_bit hn, revN_bit hn]
  by_cases h : i < n
  · have h2 : n - 1 - i < n := by omega
    rw [show n - 1 - (n - 1 - i) = i by omega]
    simp [h, h2]
  · have : (lowN n a).testBit i = false := Nat.testBit_lt_two_pow (Nat.lt_of_lt_of_le (lowN_lt n a) (Nat.pow_le_pow_right (by decide) (by omega)))
    simp [h, this]

theorem law3 (a b c : Int) : ∃ N, F3 N (a, b, c) = some true := by
  refine ⟨100, ?_⟩
  have hn := clampN_le b
  simp only [F3, clamp_eq]
  rw [works8, Option.bind_some, if_neg (by decide), F9_rev, Option.bind_some, F9_rev, Option.bind_some]
  generalize clampN b = n at *
  have hr := revN_lt hn (lowN n a)
  rw [if_neg (by simp), low_eq hn, rev_rev hn, if_neg (by simp), if_neg (by simp), if_neg (by simp), mask_eq hn, if_neg (by simp only [decide_eq_true_eq]; omega)]
  by_cases h1 : c < 0
  · rw [if_pos (by simp [h1])]
  · rw [if_neg (by simp [h1])]
    by_cases h2 : c ≥ (n : Int)
    · rw [if_pos (by simp [h2])]
    · rw [if_neg (by simpa using h2), if_pos rfl, if_neg (by simp [h1])]
      have e : IntKind.wrap .i64 (IntKind.wrap .i64 ((n : Int) - 1) - c) = ((n - 1 - c.toNat : Nat) : Int) := by
        rw [wrap_i64 (z := (n : Int) - 1) (by omega) (by omega), wrap_i64 (by omega) (by omega)]
        omega
      rw [e, if_neg (by simp), bit1, bit1]
      have m1 : min (Int.toNat c) 64 = c.toNat := by omega
      have m2 : min (Int.toNat ((n - 1 - c.toNat : Nat) : Int)) 64 = n - 1 - c.toNat := by omega
      rw [m1, m2, bit_low hn (by omega) a]
      have hb := revN_bit hn (L := lowN n a) c.toNat
      have hlt : c.toNat < n := by omega
      simp only [hlt, decide_true, Bool.true_and, Nat.testBit_eq_decide_div_mod_eq] at hb
      have el : (Int.fdiv ((revN n (lowN n a) : Nat) : Int) (2 ^ c.toNat)) % 2 = ((revN n (lowN n a) / 2 ^ c.toNat % 2 : Nat) : Int) := by
        rw [Int.fdiv_eq_ediv_of_nonneg _ (Int.pow_nonneg (by decide))]
        simp
      rw [el]
      have := decide_eq_decide.1 hb
      have u1 := Nat.mod_two_eq_zero_or_one (revN n (lowN n a) / 2 ^ c.toNat)
      have u2 := Nat.mod_two_eq_zero_or_one (lowN n a / 2 ^ (n - 1 - c.toNat))
      congr 1
      simp only [beq_iff_eq]
      generalize revN n (lowN n a) / 2 ^ c.toNat % 2 = p at *
      generalize lowN n a / 2 ^ (n - 1 - c.toNat) % 2 = q at *
      omega
end Go.Proofs.Ytgdacmcapbbilaa.Am

namespace Go.Proofs.Ytgdacmcapbbilaa.Am
open Go.Am
set_option linter.unusedSimpArgs false
set_option linter.unusedVariables false

theorem F10_loop (N : Nat) : ∀ (k : Nat) (r : List Bool) (b : List Int), r.length / 8 < k → b.length + r.length ≤ 140737488355328 →
    F10_30 N k ((val r : Int), (r.length : Int), b) = some (lastF r, nF r, b ++ bF r) := by
  intro k
  induction k with
  | zero => intro r b h; omega
  | succ k ih =>
    intro r b h hb
    simp only [F10_30, B10_30]
    by_cases h8 : 8 ≤ r.length
    · rw [if_pos (by simp; omega), if_pos (by simp; omega)]
      have e1 : Int.fdiv (val r : Int) 256 = (val (r.drop 8) : Int) := by
        rw [Int.fdiv_eq_ediv_of_nonneg _ (by decide), ← val_div r 8 h8]; simp
      have e2 : IntKind.wrap .i64 ((r.length : Int) - 8) = ((r.drop 8).length : Int) := by
        rw [wrap_i64 (by omega) (by omega), List.length_drop]; omega
      have e3 : IntKind.wrap .u8 (val r : Int) = (val (r.take 8) : Int) := by
        rw [wrap_u8, ← val_mod r 8 h8]; simp
      rw [e1, e2, e3, ih (r.drop 8) _ (by rw [List.length_drop]; omega) (by simp; omega)]
      have hk : r.length / 8 = (r.drop 8).length / 8 + 1 := by rw [List.length_drop]; omega
      have f1 : bF r = (val (r.take 8) : Int) :: bF (r.drop 8) := by
        unfold bF; rw [hk, bytesF]
      have f2 : restF r = restF (r.drop 8) := by
        unfold restF; rw [List.drop_drop, hk]; congr 1; omega
      have f3 : nF r = nF (r.drop 8) := by
        unfold nF; rw [List.length_drop]; congr 1; omega
      simp only [Option.bind_some, lastF, f1, f2, f3, List.append_assoc, List.singleton_append]
    · rw [if_neg (by simp; omega)]
      have hk : r.length / 8 = 0 := by omega
      have f1 : bF r = [] := by unfold bF; rw [hk]; rfl
      have f2 : restF r = r := by unfold restF; rw [hk]; rfl
      have f3 : nF r = (r.length : Int) := by unfold nF; congr 1; omega
      simp only [lastF, f1, f2, f3, List.append_nil]

/-- What 'Bits' puts in. -/
def putB (n v : Int) : List Bool := bitsN (clampN n) (lowN (clampN n) v)

theorem F10_bits {N : Nat} (hN : 6 ≤ N) (m : List Bool) (hm : m.length ≤ 1000000000) (n v : Int) :
    F10 N (n, v, lastF m, nF m, bF m) = some (lastF (m ++ putB n v), nF (m ++ putB n v), bF (m ++ putB n v)) := by
  have hc := clampN_le n
  have hl := lowN_lt (clampN n) v
  have hr := val_lt (restF m)
  have hrl := restF_length m
  have h8 : (restF m).length < 8 := by omega
  simp only [F10]
  rw [F32_clamp, Option.bind_some, F34_low N hc, Option.bind_some, if_neg (by unfold nF; simp only [decide_eq_true_eq]; omega)]
  have e1 : IntKind.wrap .i64 ((BitVec.toNat (BitVec.ofInt 64 (lastF m) ||| BitVec.ofInt 64 (IntKind.wrap .i64 (((lowN (clampN n) v : Nat) : Int) * 2 ^ min (Int.toNat (nF m)) 64))) : Nat) : Int) = (val (restF m ++ putB n v) : Int) := by
    unfold lastF nF
    rw [← hrl, or_eq hr hl (by omega), val_append]
    unfold putB
    rw [val_bitsN, Nat.mod_eq_of_lt hl]
  have e2 : IntKind.wrap .i64 (nF m + (clampN n : Int)) = ((restF m ++ putB n v).length : Int) := by
    unfold nF putB
    rw [wrap_i64 (by omega) (by omega), List.length_append, bitsN_length, hrl]; omega
  have hlen : (restF m ++ putB n v).length < 40 := by
    unfold putB; rw [List.length_append, bitsN_length]; omega
  have hb := bF_len m
  rw [e1, e2, F10_loop N N _ _ (by omega) (by omega), Option.bind_some]
  obtain ⟨p1, p2, p3⟩ := parts m (putB n v)
  simp only [lastF, p1, p2, p3]
end Go.Proofs.Ytgdacmcapbbilaa.Am

namespace Go.Proofs.Ytgdacmcapbbilaa.Am
open Go.Am
set_option linter.unusedSimpArgs false
set_option linter.unusedVariables false

def sbit (s : ByteArray) (j : Nat) : Bool := (s.data.toList.getD (j / 8) 0).toNat.testBit (j % 8)
def sbits (s : ByteArray) (at_ k : Nat) : List Bool := (List.range k).map fun i => sbit s (at_ + i)
theorem sbits_length (s : ByteArray) (p k : Nat) : (sbits s p k).length = k := by simp [sbits]
theorem sbits_succ (s : ByteArray) (p k : Nat) : sbits s p (k + 1) = sbits s p k ++ [sbit s (p + k)] := by
  unfold sbits; rw [List.range_succ, List.map_append]; rfl

theorem byte_at (s : ByteArray) (i : Nat) (h : i < s.size) : s[i]? = some (s.data.toList.getD i 0) := by
  have h' : i < s.data.toList.length := by simpa using h
  rw [getElem?_pos s i h]
  congr 1
  have h2 : i < s.data.size := h
  simp only [List.getD, ByteArray.getElem_eq_getElem_data, Array.getElem?_toList]
  rw [Array.getElem?_eq_getElem h2]; rfl

theorem F13_loop (N : Nat) (s : ByteArray) (p : Nat) (n3 err : Int) (hs : s.size ≤ 1000000000) {k : Nat} (hk : k ≤ 32) (hp : p + k ≤ 8 * s.size) : ∀ (d i f : Nat), i + d = k → d < f →
    F13_250 N f ((val (sbits s p i) : Int), (i : Int), (k : Int), n3, s, (p : Int), err) = some (n3, (val (sbits s p k) : Int), s, (p : Int), err) := by
  intro d
  induction d with
  | zero =>
    intro i f hi hf
    cases f with
    | zero => omega
    | succ f =>
      simp only [F13_250, B13_250]
      rw [if_neg (by simp; omega), show i = k by omega]
  | succ d ih =>
    intro i f hi hf
    cases f with
    | zero => omega
    | succ f =>
      simp only [F13_250, B13_250]
      have e0 : IntKind.wrap .i64 ((p : Int) + (i : Int)) = ((p + i : Nat) : Int) := by
        rw [wrap_i64 (by omega) (by omega)]; omega
      have e1 : Int.tdiv ((p + i : Nat) : Int) 8 = (((p + i) / 8 : Nat) : Int) := by
        rw [Int.tdiv_eq_ediv_of_nonneg (by omega)]; omega
      have e2 : IntKind.wrap .i64 ((((p + i) / 8 : Nat)) : Int) = (((p + i) / 8 : Nat) : Int) := wrap_i64 (by omega) (by omega)
      have e3 : Int.tmod ((p + i : Nat) : Int) 8 = (((p + i) % 8 : Nat) : Int) := by
        rw [Int.tmod_eq_emod_of_nonneg (by omega)]; omega
      rw [if_pos (by simp; omega)]
      simp only [e0, e1, e2, e3, Int.toNat_natCast]
      rw [if_pos (by simp only [decide_eq_true_eq]; omega), byte_at s _ (by omega), Option.bind_some, if_neg (by simp; omega), if_neg (by simp)]
      have hy := (s.data.toList.getD ((p + i) / 8) 0).toNat_lt
      have e4 : IntKind.wrap .i64 (((s.data.toList.getD ((p + i) / 8) 0).toNat : Nat) : Int) = (((s.data.toList.getD ((p + i) / 8) 0).toNat : Nat) : Int) := wrap_i64 (by omega) (by omega)
      have e5 : min ((p + i) % 8) 64 = (p + i) % 8 := by omega
      have e6 : (Int.fdiv (((s.data.toList.getD ((p + i) / 8) 0).toNat : Nat) : Int) (2 ^ ((p + i) % 8))) % 2 = (((sbit s (p + i)).toNat : Nat) : Int) := by
        rw [Int.fdiv_eq_ediv_of_nonneg _ (Int.pow_nonneg (by decide))]
        unfold sbit
        rw [Nat.toNat_testBit]
        simp
      rw [e4, e5, bit1, e6]
      have hA := val_lt (sbits s p i)
      rw [sbits_length] at hA
      have hB : (sbit s (p + i)).toNat < 2 ^ 1 := by cases sbit s (p + i) <;> decide
      have e7 := or_eq hA hB (by omega)
      rw [Int.toNat_natCast] at e7
      rw [e7]
      have e8 : val (sbits s p i) + 2 ^ i * (sbit s (p + i)).toNat = val (sbits s p (i + 1)) := by
        rw [sbits_succ, val_append, sbits_length]
        simp [val]
      have e9 : IntKind.wrap .i64 ((i : Int) + 1) = ((i + 1 : Nat) : Int) := by
        rw [wrap_i64 (by omega) (by omega)]; omega
      rw [e8, e9, ih (i + 1) f (by omega) (by omega), Option.bind_some]

/-- So many bits are left: they are read. -/
theorem F13_read {N : Nat} (hN : 33 ≤ N) (s : ByteArray) (p : Nat) (n : Int) (hs : s.size ≤ 1000000000) (hp : p + clampN n ≤ 8 * s.size) :
    F13 N (n, s, (p : Int), 0) = some ((val (sbits s p (clampN n)) : Int), s, ((p + clampN n : Nat) : Int), 0) := by
  have hc := clampN_le n
  simp only [F13, F35, F30]
  rw [F32_clamp, Option.bind_some, if_pos (by simp), Option.bind_some]
  have e1 : IntKind.wrap .i64 (IntKind.wrap .i64 ((8 : Int) * (s.size : Int)) - (p : Int)) = ((8 * s.size - p : Nat) : Int) := by
    rw [wrap_i64 (z := (8 : Int) * (s.size : Int)) (by omega) (by omega), wrap_i64 (by omega) (by omega)]; omega
  simp only [e1]
  rw [if_neg (by simp; omega)]
  simp only [Option.bind_some]
  rw [if_neg (by simp)]
  have h0 : (0 : Int) = (val (sbits s p 0) : Int) := by simp [sbits, val]
  have hl := F13_loop N s p ((clampN n : Nat) : Int) 0 hs hc hp (clampN n) 0 N (by omega) (by omega)
  rw [show ((0 : Nat) : Int) = 0 from rfl, ← h0] at hl
  rw [hl, Option.bind_some]
  simp only
  rw [wrap_i64 (by omega) (by omega)]
  simp
end Go.Proofs.Ytgdacmcapbbilaa.Am

namespace Go.Proofs.Ytgdacmcapbbilaa.Am
open Go.Am
set_option linter.unusedSimpArgs false
set_option linter.unusedVariables false

theorem stringOf_append (xs ys : List Int) : stringOf xs ++ stringOf ys = stringOf (xs ++ ys) := by
  unfold stringOf
  apply ByteArray.ext
  simp

theorem stringOf_size (xs : List Int) : (stringOf xs).size = xs.length := by
  unfold stringOf
  show (List.toArray _).size = _
  simp

/-- All the bytes, the last one filled up. -/
def allF (m : List Bool) : List Int := bytesF ((m.length + 7) / 8) m
def strF (m : List Bool) : ByteArray := stringOf (allF m)

theorem strF_size (m : List Bool) : (strF m).size = (m.length + 7) / 8 := by
  unfold strF allF; rw [stringOf_size, bytesF_len]

theorem F12_string (N : Nat) (m : List Bool) (hm : m.length ≤ 1000000000) : F12 N (lastF m, nF m, bF m) = some (strF m, lastF m, nF m, bF m) := by
  simp only [F12]
  have hb := bF_len m
  have hr := val_lt (restF m)
  rw [restF_length] at hr
  by_cases h : m.length % 8 = 0
  · rw [if_neg (by unfold nF; simp only [decide_eq_true_eq]; omega)]
    have : allF m = bF m := by unfold allF bF; congr 1; omega
    unfold strF; rw [this]
  · rw [if_pos (by unfold nF; simp only [decide_eq_true_eq]; omega)]
    have hp : 2 ^ (m.length % 8) ≤ 256 := Nat.pow_le_pow_right (n := 2) (by decide) (show m.length % 8 ≤ 8 by omega)
    have e : IntKind.wrap .u8 (lastF m) = lastF m := by
      rw [wrap_u8]; unfold lastF; omega
    rw [if_neg (by rw [stringOf_size, stringOf_size]; simp only [decide_eq_true_eq, List.length_singleton]; omega), e, stringOf_append]
    have : allF m = bF m ++ [lastF m] := by
      unfold allF bF lastF restF
      rw [show (m.length + 7) / 8 = m.length / 8 + 1 by omega, bytesF_snoc, List.take_of_length_le (by rw [List.length_drop]; omega)]
    unfold strF; rw [this]

theorem F14_len (N : Nat) (m : List Bool) (hm : m.length ≤ 1000000000) : F14 N (lastF m, nF m, bF m) = some ((m.length : Int), lastF m, nF m, bF m) := by
  simp only [F14]
  have hb := bF_len m
  have e : IntKind.wrap .i64 (IntKind.wrap .i64 ((8 : Int) * ((bF m).length : Int)) + nF m) = (m.length : Int) := by
    unfold nF
    rw [wrap_i64 (z := (8 : Int) * ((bF m).length : Int)) (by omega) (by omega), wrap_i64 (by omega) (by omega)]; omega
  rw [e]

theorem bytesF_get : ∀ (k : Nat) (m : List Bool) (i : Nat), i < k → (bytesF k m)[i]? = some ((val ((m.drop (8 * i)).take 8) : Nat) : Int)
  | 0, m, i, h => by omega
  | k + 1, m, 0, h => by simp [bytesF]
  | k + 1, m, i + 1, h => by
    rw [bytesF, List.getElem?_cons_succ, bytesF_get k _ i (by omega), List.drop_drop, show 8 + 8 * i = 8 * (i + 1) by omega]

/-- The bits of the bytes are the bits. -/
theorem sbit_strF (m : List Bool) (j : Nat) : sbit (strF m) j = m.getD j false := by
  unfold sbit
  have hd : (strF m).data.toList = (allF m).map fun n => UInt8.ofNat n.toNat := by unfold strF stringOf; simp
  rw [hd]
  by_cases h : j / 8 < (m.length + 7) / 8
  · have e : ((allF m).map fun n => UInt8.ofNat n.toNat).getD (j / 8) 0 = UInt8.ofNat (val ((m.drop (8 * (j / 8))).take 8)) := by
      unfold allF
      rw [List.getD, List.getElem?_map, bytesF_get _ _ _ h]
      simp
    have hv := val_lt ((m.drop (8 * (j / 8))).take 8)
    have hp : 2 ^ ((m.drop (8 * (j / 8))).take 8).length ≤ 256 := Nat.pow_le_pow_right (n := 2) (by decide) (show _ ≤ 8 by rw [List.length_take]; omega)
    rw [e, UInt8.toNat_ofNat', Nat.mod_eq_of_lt (by show _ < 256; omega), val_bit, List.getD, List.getElem?_take_of_lt (by omega), List.getElem?_drop, show 8 * (j / 8) + j % 8 = j by omega]
    rfl
  · have e : ((allF m).map fun n => UInt8.ofNat n.toNat).getD (j / 8) 0 = 0 := by
      unfold allF
      rw [List.getD, List.getElem?_eq_none (by rw [List.length_map, bytesF_len]; omega)]; rfl
    rw [e, List.getD, List.getElem?_eq_none (by omega)]
    simp

theorem sbits_strF (a s r : List Bool) : sbits (strF (a ++ s ++ r)) a.length s.length = s := by
  apply List.ext_getElem?
  intro i
  unfold sbits
  by_cases h : i < s.length
  · rw [List.getElem?_map, List.getElem?_range h]
    simp only [Option.map_some, sbit_strF, List.getD]
    rw [List.append_assoc, List.getElem?_append_right (by omega), show a.length + i - a.length = i by omega, List.getElem?_append_left h, List.getElem?_eq_getElem h]
    rfl
  · rw [List.getElem?_eq_none (by simp; omega), List.getElem?_eq_none (by omega)]
end Go.Proofs.Ytgdacmcapbbilaa.Am

namespace Go.Proofs.Ytgdacmcapbbilaa.Am
open Go.Am
set_option linter.unusedSimpArgs false
set_option linter.unusedVariables false

theorem putB_length (n v : Int) : (putB n v).length = clampN n := by simp [putB]
theorem val_putB (n v : Int) : val (putB n v) = lowN (clampN n) v := by
  unfold putB
  rw [val_bitsN, Nat.mod_eq_of_lt (lowN_lt _ _)]

theorem getD_bitsN (n L i : Nat) : (bitsN n L)[i]? = if i < n then some (L.testBit i) else none := by
  unfold bitsN
  by_cases h : i < n
  · simp [h]
  · simp [h]

theorem low_testBit (n : Nat) (v : Int) (i : Nat) : (lowN n v).testBit i = (decide (i < n) && (BitVec.ofInt 64 v).toNat.testBit i) := Nat.testBit_mod_two_pow ..

/-- A number's bits in two pieces. -/
theorem put_split {a b : Nat} (h : a + b ≤ 32) (v : Int) (hv1 : -9223372036854775808 ≤ v) (hv2 : v ≤ 9223372036854775807) :
    putB (a : Int) v ++ putB (b : Int) (Int.fdiv v (2 ^ a)) = putB ((a + b : Nat) : Int) v := by
  have c1 : clampN (a : Int) = a := by unfold clampN; omega
  have c2 : clampN (b : Int) = b := by unfold clampN; omega
  have c3 : clampN ((a + b : Nat) : Int) = a + b := by unfold clampN; omega
  unfold putB
  rw [c1, c2, c3]
  apply List.ext_getElem?
  intro i
  by_cases hi : i < a
  · rw [List.getElem?_append_left (by simpa using hi), getD_bitsN, getD_bitsN, if_pos hi, if_pos (by omega), low_testBit, low_testBit]
    simp [hi]; omega
  · rw [List.getElem?_append_right (by simp; omega), bitsN_length, getD_bitsN, getD_bitsN]
    by_cases hj : i < a + b
    · rw [if_pos (by omega), if_pos hj, low_testBit, low_testBit]
      have hs : Int.fdiv v (2 ^ a) = ((BitVec.ofInt 64 v).sshiftRight a).toInt := by
        rw [BitVec.toInt_sshiftRight, BitVec.toInt_ofInt, Int.shiftRight_eq_div_pow, Int.fdiv_eq_ediv_of_nonneg _ (Int.pow_nonneg (by decide))]
        rw [Int.bmod_eq_of_le (by omega) (by omega)]
        simp
      have hb : ((BitVec.ofInt 64 v).sshiftRight a).getLsbD (i - a) = (BitVec.ofInt 64 v).getLsbD i := by
        rw [BitVec.getLsbD_sshiftRight, if_pos (by omega), show a + (i - a) = i by omega]
        simp; omega
      rw [hs, BitVec.ofInt_toInt]
      unfold BitVec.getLsbD at hb
      rw [hb]
      simp [hj]; omega
    · rw [if_neg (by omega), if_neg hj]

theorem law4 (v a b c : Int) (hv1 : -9223372036854775808 ≤ v) (hv2 : v ≤ 9223372036854775807) (ha1 : -9223372036854775808 ≤ a) (hb2 : b ≤ 9223372036854775807) : ∃ N, F4 N (v, a, b, c) = some true := by
  refine ⟨100, ?_⟩
  simp only [F4]
  rw [works8, Option.bind_some, if_neg (by decide)]
  by_cases h1 : a < 0
  · rw [if_pos (by simpa using h1)]
  rw [if_neg (by simpa using h1)]
  by_cases h2 : b < 0
  · rw [if_pos (by simpa using h2)]
  rw [if_neg (by simpa using h2)]
  by_cases h3 : a > 32
  · rw [if_pos (by simpa using h3)]
  rw [if_neg (by simpa using h3), wrap_i64 (z := 32 - a) (by omega) (by omega)]
  by_cases h4 : b > 32 - a
  · rw [if_pos (by simpa using h4)]
  rw [if_neg (by simpa using h4)]
  obtain ⟨a, rfl⟩ := Int.eq_ofNat_of_zero_le (show 0 ≤ a by omega)
  obtain ⟨b, rfl⟩ := Int.eq_ofNat_of_zero_le (show 0 ≤ b by omega)
  have hab : a + b ≤ 32 := by omega
  have c1 : clampN (a : Int) = a := by unfold clampN; omega
  have c2 : clampN (b : Int) = b := by unfold clampN; omega
  have cc := clampN_le c
  -- what is written
  have w0 : F10 100 (c, 0, 0, 0, []) = some (lastF (putB c 0), nF (putB c 0), bF (putB c 0)) := F10_bits (by decide) [] (by decide) c 0
  have l0 := putB_length c 0
  have la := putB_length (a : Int) v
  have lb := putB_length (b : Int) (Int.fdiv v (2 ^ a))
  rw [c1] at la
  rw [c2] at lb
  have w1 := F10_bits (N := 100) (by decide) (putB c 0) (by omega) (a : Int) v
  have w2 := F10_bits (N := 100) (by decide) (putB c 0 ++ putB (a : Int) v) (by rw [List.length_append]; omega) (b : Int) (Int.fdiv v (2 ^ a))
  have w3 := F10_bits (N := 100) (by decide) (putB c 0) (by omega) ((a + b : Nat) : Int) v
  have hm : min (Int.toNat (a : Int)) 64 = a := by simp; omega
  have hw : IntKind.wrap .i64 ((a : Int) + (b : Int)) = ((a + b : Nat) : Int) := by rw [wrap_i64 (by omega) (by omega)]; omega
  have hsp := put_split hab v hv1 hv2
  rw [w0, Option.bind_some, Option.bind_some, w1, Option.bind_some, if_neg (by simp), hm, w2, Option.bind_some, hw, w3, Option.bind_some]
  rw [List.append_assoc, hsp]
  have c3 : clampN ((a + b : Nat) : Int) = a + b := by unfold clampN; omega
  have l3 := putB_length ((a + b : Nat) : Int) v
  rw [c3] at l3
  have hlen : (putB c 0 ++ putB ((a + b : Nat) : Int) v).length ≤ 64 := by rw [List.length_append]; omega
  have s1 := F12_string 100 (putB c 0 ++ putB ((a + b : Nat) : Int) v) (by omega)
  rw [s1, Option.bind_some]
  have t := F14_len 100 (putB c 0 ++ putB ((a + b : Nat) : Int) v) (by omega)
  generalize hM : putB c 0 ++ putB ((a + b : Nat) : Int) v = M at *
  have hsz := strF_size M
  have hlM : M.length = clampN c + (a + b) := by rw [← hM, List.length_append, l0, l3]
  simp only [F11, Option.bind_some]
  have r1 := F13_read (N := 100) (by decide) (strF M) 0 c (by omega) (by omega)
  have r2 := F13_read (N := 100) (by decide) (strF M) (0 + clampN c) (a : Int) (by omega) (by omega)
  have r3 := F13_read (N := 100) (by decide) (strF M) (0 + clampN c + clampN (a : Int)) (b : Int) (by omega) (by omega)
  rw [show ((0 : Nat) : Int) = 0 from rfl] at r1
  rw [r1, Option.bind_some, r2, Option.bind_some, r3, Option.bind_some, if_pos trivial, s1, Option.bind_some]
  simp only [beq_self_eq_true, ↓reduceIte, t, Option.bind_some]
  rw [if_neg (by simp), if_neg (by simp only [decide_eq_true_eq]; omega)]
  -- what is read
  have ea : sbits (strF M) (0 + clampN c) (clampN (a : Int)) = putB (a : Int) v := by
    have := sbits_strF (putB c 0) (putB (a : Int) v) (putB (b : Int) (Int.fdiv v (2 ^ a)))
    rw [List.append_assoc, hsp, hM, l0, la] at this
    rw [c1, Nat.zero_add]; exact this
  have eb : sbits (strF M) (0 + clampN c + clampN (a : Int)) (clampN (b : Int)) = putB (b : Int) (Int.fdiv v (2 ^ a)) := by
    have := sbits_strF (putB c 0 ++ putB (a : Int) v) (putB (b : Int) (Int.fdiv v (2 ^ a))) []
    rw [List.append_nil, List.append_assoc, hsp, hM, List.length_append, l0, la, lb] at this
    rw [c1, c2, Nat.zero_add]; exact this
  simp only [ea, eb]
  have va := val_lt (putB (a : Int) v)
  have vb := val_lt (putB (b : Int) (Int.fdiv v (2 ^ a)))
  rw [la] at va
  rw [lb] at vb
  have o := or_eq va vb (by omega)
  rw [hm] at o
  rw [o, low_eq hab]
  have e : val (putB (a : Int) v) + 2 ^ a * val (putB (b : Int) (Int.fdiv v (2 ^ a))) = lowN (a + b) v := by
    have := val_append (putB (a : Int) v) (putB (b : Int) (Int.fdiv v (2 ^ a)))
    rw [hsp, la, val_putB, c3] at this
    exact this.symm
  rw [e]
  simp
end Go.Proofs.Ytgdacmcapbbilaa.Am
