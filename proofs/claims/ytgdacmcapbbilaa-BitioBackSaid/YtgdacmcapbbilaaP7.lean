/- The Lean function that BitioBack comes to answers true at every input. -/
import Derived.Test.YtgdacmcapbbilaaS1
import Derived.Test.YtgdacmcapbbilaaAmC
namespace Go.Proofs.Ytgdacmcapbbilaa.Am
open Go.Am
set_option linter.unusedSimpArgs false
set_option linter.unusedVariables false

theorem F33_rev (N : Nat) (X : BitVec 64) : F33 N (U X) = some (U (rev64 X)) := by
  simp only [F33, F40, wrapU, ofU, shr1, shr2, shr4, shr8, shr16, shr32, shl1, shl2, shl4, shl8, shl16, shl32, Option.bind_some]
  rfl

def clampN (b : Int) : Nat := min b.toNat 32
theorem clampN_le (b : Int) : clampN b ≤ 32 := Nat.min_le_right ..
theorem clamp_eq (b : Int) : (if (32 : Int) < (if (0 : Int) > b then (0 : Int) else b) then (32 : Int) else if (0 : Int) > b then (0 : Int) else b) = (clampN b : Int) := by
  unfold clampN
  split <;> split at * <;> omega
theorem F32_clamp (N : Nat) (b : Int) : F32 N b = some (clampN b : Int) := by
  show some _ = _
  rw [← clamp_eq]

def lowN (n : Nat) (v : Int) : Nat := (BitVec.ofInt 64 v).toNat % 2 ^ n
theorem lowN_lt (n : Nat) (v : Int) : lowN n v < 2 ^ n := Nat.mod_lt _ (Nat.pow_pos (by decide))
theorem pow_le32 {n : Nat} (h : n ≤ 32) : 2 ^ n ≤ 4294967296 := Nat.pow_le_pow_right (n := 2) (by decide) h

theorem mask_eq {n : Nat} (hn : n ≤ 32) : IntKind.wrap .i64 ((1 : Int) * 2 ^ min (Int.toNat (n : Int)) 64) = ((2 ^ n : Nat) : Int) := by
  have := pow_le32 hn
  have h1 : min (Int.toNat (n : Int)) 64 = n := by simp; omega
  rw [h1, Int.one_mul, show ((2 : Int) ^ n) = ((2 ^ n : Nat) : Int) by simp]
  generalize 2 ^ n = k at *
  exact wrap_i64 (by omega) (by omega)

theorem low_eq {n : Nat} (hn : n ≤ 32) (v : Int) : IntKind.wrap .i64 ((BitVec.toNat (BitVec.ofInt 64 v &&& BitVec.ofInt 64 (IntKind.wrap .i64 (IntKind.wrap .i64 ((1 : Int) * 2 ^ min (Int.toNat (n : Int)) 64) - 1))) : Nat) : Int) = (lowN n v : Int) := by
  have hp := pow_le32 hn
  have hpos : 0 < 2 ^ n := Nat.pow_pos (by decide)
  have hw : IntKind.wrap .i64 (((2 ^ n : Nat) : Int) - 1) = ((2 ^ n : Nat) : Int) - 1 := by
    generalize 2 ^ n = k at *
    exact wrap_i64 (by omega) (by omega)
  rw [mask_eq hn, hw]
  have e : BitVec.ofInt 64 (((2 ^ n : Nat) : Int) - 1) = BitVec.ofNat 64 (2 ^ n - 1) := by
    rw [show ((2 ^ n : Nat) : Int) - 1 = ((2 ^ n - 1 : Nat) : Int) by generalize 2 ^ n = k at *; omega]
    exact BitVec.ofInt_natCast ..
  have e2 : (BitVec.ofInt 64 v &&& BitVec.ofNat 64 (2 ^ n - 1)).toNat = lowN n v := by
    rw [BitVec.toNat_and, BitVec.toNat_ofNat, Nat.mod_eq_of_lt (by omega), Nat.and_two_pow_sub_one_eq_mod]
    rfl
  rw [e, e2]
  have := lowN_lt n v
  exact wrap_i64 (by omega) (by omega)

theorem F34_low (N : Nat) {n : Nat} (hn : n ≤ 32) (v : Int) : F34 N ((n : Int), v) = some (lowN n v : Int) := by
  show (if decide ((n : Int) < 0) = true then none else some _) = _
  rw [if_neg (by simp)]
  exact congrArg some (low_eq hn v)

def revN (n : Nat) (L : Nat) : Nat := (rev64 (BitVec.ofNat 64 L)).toNat >>> (64 - n)

theorem revN_lt {n : Nat} (hn : n ≤ 32) (L : Nat) : revN n L < 2 ^ n := by
  unfold revN
  rw [Nat.shiftRight_eq_div_pow]
  apply Nat.div_lt_of_lt_mul
  rw [← Nat.pow_add, show 64 - n + n = 64 by omega]
  exact (rev64 _).isLt

theorem revN_bit {n : Nat} (hn : n ≤ 32) {L : Nat} (i : Nat) : (revN n L).testBit i = (decide (i < n) && L.testBit (n - 1 - i)) := by
  unfold revN
  rw [Nat.testBit_shiftRight]
  by_cases h : i < n
  · have := rev64_bit (BitVec.ofNat 64 L) (i := 64 - n + i) (by omega)
    rw [BitVec.getLsbD, BitVec.getLsbD] at this
    rw [this, BitVec.toNat_ofNat, Nat.testBit_mod_two_pow]
    have e : 63 - (64 - n + i) = n - 1 - i := by omega
    rw [e]
    simp [h]; omega
  · have : (rev64 (BitVec.ofNat 64 L)).getLsbD (64 - n + i) = false := BitVec.getLsbD_of_ge _ _ (by omega)
    rw [BitVec.getLsbD] at this
    rw [this]
    simp [h]

theorem F9_rev (N : Nat) (a b : Int) : F9 N (a, b) = some (revN (clampN b) (lowN (clampN b) a) : Int) := by
  have hc := clampN_le b
  have hp := pow_le32 hc
  have hl := lowN_lt (clampN b) a
  simp only [F9]
  rw [F32_clamp, Option.bind_some, F34_low N hc, Option.bind_some]
  have e1 : IntKind.wrap .u64 ((lowN (clampN b) a : Nat) : Int) = U (BitVec.ofNat 64 (lowN (clampN b) a)) := by
    rw [wrap_u64]; unfold U
    rw [BitVec.toNat_ofNat]
    omega
  rw [e1, F33_rev, Option.bind_some]
  have e2 : IntKind.wrap .i64 ((64 : Int) - (clampN b : Int)) = ((64 - clampN b : Nat) : Int) := by
    rw [wrap_i64 (by omega) (by omega)]; omega
  rw [e2, if_neg (by simp)]
  have e3 : min (Int.toNat ((64 - clampN b : Nat) : Int)) 64 = 64 - clampN b := by
    simp
  rw [e3, shrU]
  congr 1
  have hr := revN_lt hc (lowN (clampN b) a)
  have e4 : U (rev64 (BitVec.ofNat 64 (lowN (clampN b) a)) >>> (64 - clampN b)) = (revN (clampN b) (lowN (clampN b) a) : Int) := by
    unfold U revN
    rw [BitVec.toNat_ushiftRight]
  rw [e4]
  exact wrap_i64 (by omega) (by omega)

theorem works8 : F8 100000 () = some true := by kernel_rfl

theorem bit1 (z : Int) : IntKind.wrap .i64 ((BitVec.toNat (BitVec.ofInt 64 z &&& BitVec.ofInt 64 1) : Nat) : Int) = z % 2 := by
  have e : (BitVec.ofInt 64 z &&& BitVec.ofInt 64 1).toNat = (z % 2).toNat := by
    rw [BitVec.toNat_and, show (BitVec.ofInt 64 1).toNat = 2 ^ 1 - 1 from rfl, Nat.and_two_pow_sub_one_eq_mod, BitVec.toNat_ofInt]
    omega
  rw [e]
  rw [wrap_i64 (by omega) (by omega)]
  omega

theorem bit_low {n k : Nat} (hn : n ≤ 32) (hk : k < n) (a : Int) : (Int.fdiv a (2 ^ k)) % 2 = ((lowN n a / 2 ^ k % 2 : Nat) : Int) := by
  have hpos : (0 : Int) < 2 ^ k := Int.pow_pos (by decide)
  rw [Int.fdiv_eq_ediv_of_nonneg _ (Int.le_of_lt hpos)]
  have hL : (lowN n a : Int) = a % (2 ^ n : Int) := by
    unfold lowN
    rw [BitVec.toNat_ofInt]
    have h64 : (2 ^ n : Int) ∣ (2 ^ 64 : Int) := by
      refine ⟨2 ^ (64 - n), ?_⟩
      rw [← Int.pow_add, show n + (64 - n) = 64 by omega]
    have hm : a % (2 ^ 64 : Int) % (2 ^ n : Int) = a % (2 ^ n : Int) := Int.emod_emod_of_dvd a h64
    rw [← hm]
    have hnn : 0 ≤ a % (2 ^ 64 : Int) := Int.emod_nonneg _ (by decide)
    rw [Int.natCast_emod, Int.toNat_of_nonneg (by simpa using hnn)]
    simp
  obtain ⟨m, hm⟩ : ∃ m : Int, a = (lowN n a : Int) + 2 ^ k * (2 * m) := by
    refine ⟨2 ^ (n - k - 1) * (a / 2 ^ n), ?_⟩
    have e : (2 : Int) ^ k * (2 * (2 ^ (n - k - 1) * (a / 2 ^ n))) = 2 ^ n * (a / 2 ^ n) := by
      rw [← Int.mul_assoc, ← Int.mul_assoc, ← Int.pow_succ, ← Int.pow_add, show k + 1 + (n - k - 1) = n by omega]
    rw [e, hL]
    have := Int.emod_add_mul_ediv a (2 ^ n)
    omega
  have e2 : a / 2 ^ k = (lowN n a : Int) / 2 ^ k + 2 * m := by
    rw [hm, Int.add_mul_ediv_left _ _ (by omega)]
    rw [← hm]
  rw [e2]
  have e3 : ((lowN n a / 2 ^ k % 2 : Nat) : Int) = (lowN n a : Int) / 2 ^ k % 2 := by simp
  rw [e3]
  omega

theorem rev_rev {n : Nat} (hn : n ≤ 32) (a : Int) : revN n (lowN n ((revN n (lowN n a) : Nat) : Int)) = lowN n a := by
  have hr := revN_lt hn (lowN n a)
  have hp := pow_le32 hn
  have e : lowN n ((revN n (lowN n a) : Nat) : Int) = revN n (lowN n a) := by
    show (BitVec.ofInt 64 ((revN n (lowN n a) : Nat) : Int)).toNat % 2 ^ n = revN n (lowN n a)
    rw [BitVec.ofInt_natCast, BitVec.toNat_ofNat]
    generalize 2 ^ n = q at *
    rw [Nat.mod_eq_of_lt (show revN n (lowN n a) < 2 ^ 64 by omega), Nat.mod_eq_of_lt hr]
  rw [e]
  apply Nat.eq_of_testBit_eq
  intro i
  rw [revN_bit hn, revN_bit hn]
  by_cases h : i < n
  · have h2 : n - 1 - i < n := by omega
    rw [show n - 1 - (n - 1 - i) = i by omega]
    simp [h, h2]
  · have : (lowN n a).testBit i = false := Nat.testBit_lt_two_pow (Nat.lt_of_lt_of_le (lowN_lt n a) (Nat.pow_le_pow_right (by decide) (by omega)))
    simp [h, this]


theorem F10_loop (N : Nat) : ∀ (k : Nat) (r : List Bool) (b : List Int), r.length / 8 < k → b.length + r.length ≤ 140737488355328 →
    F10_30 N k ((val r : Int), (r.length : Int), b) = some (lastF r, nF r, b ++ bF r) := by
  intro k
  induction k with
  | zero => intro r b h; omega
  | succ k ih =>
    intro r b h hb
    simp only [F10_30, B10_30]
    by_cases h8 : 8 ≤ r.length
    · rw [if_pos (by simp; omega), if_pos (by simp; omega)]
      have e1 : Int.fdiv (val r : Int) 256 = (val (r.drop 8) : Int) := by
        rw [Int.fdiv_eq_ediv_of_nonneg _ (by decide), ← val_div r 8 h8]; simp
      have e2 : IntKind.wrap .i64 ((r.length : Int) - 8) = ((r.drop 8).length : Int) := by
        rw [wrap_i64 (by omega) (by omega), List.length_drop]; omega
      have e3 : IntKind.wrap .u8 (val r : Int) = (val (r.take 8) : Int) := by
        rw [wrap_u8, ← val_mod r 8 h8]; simp
      rw [e1, e2, e3, ih (r.drop 8) _ (by rw [List.length_drop]; omega) (by simp; omega)]
      have hk : r.length / 8 = (r.drop 8).length / 8 + 1 := by rw [List.length_drop]; omega
      have f1 : bF r = (val (r.take 8) : Int) :: bF (r.drop 8) := by
        unfold bF; rw [hk, bytesF]
      have f2 : restF r = restF (r.drop 8) := by
        unfold restF; rw [List.drop_drop, hk]; congr 1; omega
      have f3 : nF r = nF (r.drop 8) := by
        unfold nF; rw [List.length_drop]; congr 1; omega
      simp only [Option.bind_some, lastF, f1, f2, f3, List.append_assoc, List.singleton_append]
    · rw [if_neg (by simp; omega)]
      have hk : r.length / 8 = 0 := by omega
      have f1 : bF r = [] := by unfold bF; rw [hk]; rfl
      have f2 : restF r = r := by unfold restF; rw [hk]; rfl
      have f3 : nF r = (r.length : Int) := by unfold nF; congr 1; omega
      simp only [lastF, f1, f2, f3, List.append_nil]

/-- What 'Bits' puts in. -/
def putB (n v : Int) : List Bool := bitsN (clampN n) (lowN (clampN n) v)

theorem F10_bits {N : Nat} (hN : 6 ≤ N) (m : List Bool) (hm : m.length ≤ 1000000000) (n v : Int) :
    F10 N (n, v, lastF m, nF m, bF m) = some (lastF (m ++ putB n v), nF (m ++ putB n v), bF (m ++ putB n v)) := by
  have hc := clampN_le n
  have hl := lowN_lt (clampN n) v
  have hr := val_lt (restF m)
  have hrl := restF_length m
  have h8 : (restF m).length < 8 := by omega
  simp only [F10]
  rw [F32_clamp, Option.bind_some, F34_low N hc, Option.bind_some, if_neg (by unfold nF; simp only [decide_eq_true_eq]; omega)]
  have e1 : IntKind.wrap .i64 ((BitVec.toNat (BitVec.ofInt 64 (lastF m) ||| BitVec.ofInt 64 (IntKind.wrap .i64 (((lowN (clampN n) v : Nat) : Int) * 2 ^ min (Int.toNat (nF m)) 64))) : Nat) : Int) = (val (restF m ++ putB n v) : Int) := by
    unfold lastF nF
    rw [← hrl, or_eq hr hl (by omega), val_append]
    unfold putB
    rw [val_bitsN, Nat.mod_eq_of_lt hl]
  have e2 : IntKind.wrap .i64 (nF m + (clampN n : Int)) = ((restF m ++ putB n v).length : Int) := by
    unfold nF putB
    rw [wrap_i64 (by omega) (by omega), List.length_append, bitsN_length, hrl]; omega
  have hlen : (restF m ++ putB n v).length < 40 := by
    unfold putB; rw [List.length_append, bitsN_length]; omega
  have hb := bF_len m
  rw [e1, e2, F10_loop N N _ _ (by omega) (by omega), Option.bind_some]
  obtain ⟨p1, p2, p3⟩ := parts m (putB n v)
  simp only [lastF, p1, p2, p3]

def sbit (s : ByteArray) (j : Nat) : Bool := (s.data.toList.getD (j / 8) 0).toNat.testBit (j % 8)
def sbits (s : ByteArray) (at_ k : Nat) : List Bool := (List.range k).map fun i => sbit s (at_ + i)
theorem sbits_length (s : ByteArray) (p k : Nat) : (sbits s p k).length = k := by simp [sbits]
theorem sbits_succ (s : ByteArray) (p k : Nat) : sbits s p (k + 1) = sbits s p k ++ [sbit s (p + k)] := by
  unfold sbits; rw [List.range_succ, List.map_append]; rfl

theorem byte_at (s : ByteArray) (i : Nat) (h : i < s.size) : s[i]? = some (s.data.toList.getD i 0) := by
  have h' : i < s.data.toList.length := by simpa using h
  rw [getElem?_pos s i h]
  congr 1
  have h2 : i < s.data.size := h
  simp only [List.getD, ByteArray.getElem_eq_getElem_data, Array.getElem?_toList]
  rw [Array.getElem?_eq_getElem h2]; rfl

theorem F13_loop (N : Nat) (s : ByteArray) (p : Nat) (n3 err : Int) (hs : s.size ≤ 1000000000) {k : Nat} (hk : k ≤ 32) (hp : p + k ≤ 8 * s.size) : ∀ (d i f : Nat), i + d = k → d < f →
    F13_250 N f ((val (sbits s p i) : Int), (i : Int), (k : Int), n3, s, (p : Int), err) = some (n3, (val (sbits s p k) : Int), s, (p : Int), err) := by
  intro d
  induction d with
  | zero =>
    intro i f hi hf
    cases f with
    | zero => omega
    | succ f =>
      simp only [F13_250, B13_250]
      rw [if_neg (by simp; omega), show i = k by omega]
  | succ d ih =>
    intro i f hi hf
    cases f with
    | zero => omega
    | succ f =>
      simp only [F13_250, B13_250]
      have e0 : IntKind.wrap .i64 ((p : Int) + (i : Int)) = ((p + i : Nat) : Int) := by
        rw [wrap_i64 (by omega) (by omega)]; omega
      have e1 : Int.tdiv ((p + i : Nat) : Int) 8 = (((p + i) / 8 : Nat) : Int) := by
        rw [Int.tdiv_eq_ediv_of_nonneg (by omega)]; omega
      have e2 : IntKind.wrap .i64 ((((p + i) / 8 : Nat)) : Int) = (((p + i) / 8 : Nat) : Int) := wrap_i64 (by omega) (by omega)
      have e3 : Int.tmod ((p + i : Nat) : Int) 8 = (((p + i) % 8 : Nat) : Int) := by
        rw [Int.tmod_eq_emod_of_nonneg (by omega)]; omega
      rw [if_pos (by simp; omega)]
      simp only [e0, e1, e2, e3, Int.toNat_natCast]
      rw [if_pos (by simp only [decide_eq_true_eq]; omega), byte_at s _ (by omega), Option.bind_some, if_neg (by simp; omega), if_neg (by simp)]
      have hy := (s.data.toList.getD ((p + i) / 8) 0).toNat_lt
      have e4 : IntKind.wrap .i64 (((s.data.toList.getD ((p + i) / 8) 0).toNat : Nat) : Int) = (((s.data.toList.getD ((p + i) / 8) 0).toNat : Nat) : Int) := wrap_i64 (by omega) (by omega)
      have e5 : min ((p + i) % 8) 64 = (p + i) % 8 := by omega
      have e6 : (Int.fdiv (((s.data.toList.getD ((p + i) / 8) 0).toNat : Nat) : Int) (2 ^ ((p + i) % 8))) % 2 = (((sbit s (p + i)).toNat : Nat) : Int) := by
        rw [Int.fdiv_eq_ediv_of_nonneg _ (Int.pow_nonneg (by decide))]
        unfold sbit
        rw [Nat.toNat_testBit]
        simp
      rw [e4, e5, bit1, e6]
      have hA := val_lt (sbits s p i)
      rw [sbits_length] at hA
      have hB : (sbit s (p + i)).toNat < 2 ^ 1 := by cases sbit s (p + i) <;> decide
      have e7 := or_eq hA hB (by omega)
      rw [Int.toNat_natCast] at e7
      rw [e7]
      have e8 : val (sbits s p i) + 2 ^ i * (sbit s (p + i)).toNat = val (sbits s p (i + 1)) := by
        rw [sbits_succ, val_append, sbits_length]
        simp [val]
      have e9 : IntKind.wrap .i64 ((i : Int) + 1) = ((i + 1 : Nat) : Int) := by
        rw [wrap_i64 (by omega) (by omega)]; omega
      rw [e8, e9, ih (i + 1) f (by omega) (by omega), Option.bind_some]

/-- So many bits are left: they are read. -/
theorem F13_read {N : Nat} (hN : 33 ≤ N) (s : ByteArray) (p : Nat) (n : Int) (hs : s.size ≤ 1000000000) (hp : p + clampN n ≤ 8 * s.size) :
    F13 N (n, s, (p : Int), 0) = some ((val (sbits s p (clampN n)) : Int), s, ((p + clampN n : Nat) : Int), 0) := by
  have hc := clampN_le n
  simp only [F13, F35, F30]
  rw [F32_clamp, Option.bind_some, if_pos (by simp), Option.bind_some]
  have e1 : IntKind.wrap .i64 (IntKind.wrap .i64 ((8 : Int) * (s.size : Int)) - (p : Int)) = ((8 * s.size - p : Nat) : Int) := by
    rw [wrap_i64 (z := (8 : Int) * (s.size : Int)) (by omega) (by omega), wrap_i64 (by omega) (by omega)]; omega
  simp only [e1]
  rw [if_neg (by simp; omega)]
  simp only [Option.bind_some]
  rw [if_neg (by simp)]
  have h0 : (0 : Int) = (val (sbits s p 0) : Int) := by simp [sbits, val]
  have hl := F13_loop N s p ((clampN n : Nat) : Int) 0 hs hc hp (clampN n) 0 N (by omega) (by omega)
  rw [show ((0 : Nat) : Int) = 0 from rfl, ← h0] at hl
  rw [hl, Option.bind_some]
  simp only
  rw [wrap_i64 (by omega) (by omega)]
  simp

theorem stringOf_append (xs ys : List Int) : stringOf xs ++ stringOf ys = stringOf (xs ++ ys) := by
  unfold stringOf
  apply ByteArray.ext
  simp

theorem stringOf_size (xs : List Int) : (stringOf xs).size = xs.length := by
  unfold stringOf
  show (List.toArray _).size = _
  simp

/-- All the bytes, the last one filled up. -/
def allF (m : List Bool) : List Int := bytesF ((m.length + 7) / 8) m
def strF (m : List Bool) : ByteArray := stringOf (allF m)

theorem strF_size (m : List Bool) : (strF m).size = (m.length + 7) / 8 := by
  unfold strF allF; rw [stringOf_size, bytesF_len]

theorem F12_string (N : Nat) (m : List Bool) (hm : m.length ≤ 1000000000) : F12 N (bF m, lastF m, nF m, ()) = some (strF m) := by
  simp only [F12]
  have hb := bF_len m
  have hr := val_lt (restF m)
  rw [restF_length] at hr
  by_cases h : m.length % 8 = 0
  · rw [if_neg (by unfold nF; simp only [decide_eq_true_eq]; omega)]
    have : allF m = bF m := by unfold allF bF; congr 1; omega
    unfold strF; rw [this]
  · rw [if_pos (by unfold nF; simp only [decide_eq_true_eq]; omega)]
    have hp : 2 ^ (m.length % 8) ≤ 256 := Nat.pow_le_pow_right (n := 2) (by decide) (show m.length % 8 ≤ 8 by omega)
    have e : IntKind.wrap .u8 (lastF m) = lastF m := by
      rw [wrap_u8]; unfold lastF; omega
    rw [if_neg (by rw [stringOf_size, stringOf_size]; simp only [decide_eq_true_eq, List.length_singleton]; omega), e, stringOf_append]
    have : allF m = bF m ++ [lastF m] := by
      unfold allF bF lastF restF
      rw [show (m.length + 7) / 8 = m.length / 8 + 1 by omega, bytesF_snoc, List.take_of_length_le (by rw [List.length_drop]; omega)]
    unfold strF; rw [this]

theorem F14_len (N : Nat) (m : List Bool) (hm : m.length ≤ 1000000000) : F14 N (bF m, lastF m, nF m, ()) = some (m.length : Int) := by
  simp only [F14]
  have hb := bF_len m
  have e : IntKind.wrap .i64 (IntKind.wrap .i64 ((8 : Int) * ((bF m).length : Int)) + nF m) = (m.length : Int) := by
    unfold nF
    rw [wrap_i64 (z := (8 : Int) * ((bF m).length : Int)) (by omega) (by omega), wrap_i64 (by omega) (by omega)]; omega
  rw [e]

theorem bytesF_get : ∀ (k : Nat) (m : List Bool) (i : Nat), i < k → (bytesF k m)[i]? = some ((val ((m.drop (8 * i)).take 8) : Nat) : Int)
  | 0, m, i, h => by omega
  | k + 1, m, 0, h => by simp [bytesF]
  | k + 1, m, i + 1, h => by
    rw [bytesF, List.getElem?_cons_succ, bytesF_get k _ i (by omega), List.drop_drop, show 8 + 8 * i = 8 * (i + 1) by omega]

/-- The bits of the bytes are the bits. -/
theorem sbit_strF (m : List Bool) (j : Nat) : sbit (strF m) j = m.getD j false := by
  unfold sbit
  have hd : (strF m).data.toList = (allF m).map fun n => UInt8.ofNat n.toNat := by unfold strF stringOf; simp
  rw [hd]
  by_cases h : j / 8 < (m.length + 7) / 8
  · have e : ((allF m).map fun n => UInt8.ofNat n.toNat).getD (j / 8) 0 = UInt8.ofNat (val ((m.drop (8 * (j / 8))).take 8)) := by
      unfold allF
      rw [List.getD, List.getElem?_map, bytesF_get _ _ _ h]
      simp
    have hv := val_lt ((m.drop (8 * (j / 8))).take 8)
    have hp : 2 ^ ((m.drop (8 * (j / 8))).take 8).length ≤ 256 := Nat.pow_le_pow_right (n := 2) (by decide) (show _ ≤ 8 by rw [List.length_take]; omega)
    rw [e, UInt8.toNat_ofNat', Nat.mod_eq_of_lt (by show _ < 256; omega), val_bit, List.getD, List.getElem?_take_of_lt (by omega), List.getElem?_drop, show 8 * (j / 8) + j % 8 = j by omega]
    rfl
  · have e : ((allF m).map fun n => UInt8.ofNat n.toNat).getD (j / 8) 0 = 0 := by
      unfold allF
      rw [List.getD, List.getElem?_eq_none (by rw [List.length_map, bytesF_len]; omega)]; rfl
    rw [e, List.getD, List.getElem?_eq_none (by omega)]
    simp

theorem sbits_strF (a s r : List Bool) : sbits (strF (a ++ s ++ r)) a.length s.length = s := by
  apply List.ext_getElem?
  intro i
  unfold sbits
  by_cases h : i < s.length
  · rw [List.getElem?_map, List.getElem?_range h]
    simp only [Option.map_some, sbit_strF, List.getD]
    rw [List.append_assoc, List.getElem?_append_right (by omega), show a.length + i - a.length = i by omega, List.getElem?_append_left h, List.getElem?_eq_getElem h]
    rfl
  · rw [List.getElem?_eq_none (by simp; omega), List.getElem?_eq_none (by omega)]

theorem putB_length (n v : Int) : (putB n v).length = clampN n := by simp [putB]
theorem val_putB (n v : Int) : val (putB n v) = lowN (clampN n) v := by
  unfold putB
  rw [val_bitsN, Nat.mod_eq_of_lt (lowN_lt _ _)]

theorem getD_bitsN (n L i : Nat) : (bitsN n L)[i]? = if i < n then some (L.testBit i) else none := by
  unfold bitsN
  by_cases h : i < n
  · simp [h]
  · simp [h]

theorem low_testBit (n : Nat) (v : Int) (i : Nat) : (lowN n v).testBit i = (decide (i < n) && (BitVec.ofInt 64 v).toNat.testBit i) := Nat.testBit_mod_two_pow ..

/-- A number's bits in two pieces. -/
theorem put_split {a b : Nat} (h : a + b ≤ 32) (v : Int) (hv1 : -9223372036854775808 ≤ v) (hv2 : v ≤ 9223372036854775807) :
    putB (a : Int) v ++ putB (b : Int) (Int.fdiv v (2 ^ a)) = putB ((a + b : Nat) : Int) v := by
  have c1 : clampN (a : Int) = a := by unfold clampN; omega
  have c2 : clampN (b : Int) = b := by unfold clampN; omega
  have c3 : clampN ((a + b : Nat) : Int) = a + b := by unfold clampN; omega
  unfold putB
  rw [c1, c2, c3]
  apply List.ext_getElem?
  intro i
  by_cases hi : i < a
  · rw [List.getElem?_append_left (by simpa using hi), getD_bitsN, getD_bitsN, if_pos hi, if_pos (by omega), low_testBit, low_testBit]
    simp [hi]; omega
  · rw [List.getElem?_append_right (by simp; omega), bitsN_length, getD_bitsN, getD_bitsN]
    by_cases hj : i < a + b
    · rw [if_pos (by omega), if_pos hj, low_testBit, low_testBit]
      have hs : Int.fdiv v (2 ^ a) = ((BitVec.ofInt 64 v).sshiftRight a).toInt := by
        rw [BitVec.toInt_sshiftRight, BitVec.toInt_ofInt, Int.shiftRight_eq_div_pow, Int.fdiv_eq_ediv_of_nonneg _ (Int.pow_nonneg (by decide))]
        rw [Int.bmod_eq_of_le (by omega) (by omega)]
        simp
      have hb : ((BitVec.ofInt 64 v).sshiftRight a).getLsbD (i - a) = (BitVec.ofInt 64 v).getLsbD i := by
        rw [BitVec.getLsbD_sshiftRight, if_pos (by omega), show a + (i - a) = i by omega]
        simp; omega
      rw [hs, BitVec.ofInt_toInt]
      unfold BitVec.getLsbD at hb
      rw [hb]
      simp [hj]; omega
    · rw [if_neg (by omega), if_neg hj]

end Go.Proofs.Ytgdacmcapbbilaa.Am

namespace Go.Proofs.Ytgdacmcapbbilaa.Am
open Go.Am
set_option linter.unusedSimpArgs false
set_option linter.unusedVariables false

/-! ### The document's functions, by lists of bits -/
theorem F36_clamp (N : Nat) (b : Int) : F36 N b = some (clampN b : Int) := by
  show some _ = _
  rw [← clamp_eq]

theorem fdiv_two (v : Int) (i : Nat) : Int.fdiv (Int.fdiv v (2 ^ i)) 2 = Int.fdiv v (2 ^ (i + 1)) := by
  have h : (0 : Int) ≤ 2 ^ i := Int.pow_nonneg (by decide)
  rw [Int.fdiv_eq_ediv_of_nonneg _ (by decide), Int.fdiv_eq_ediv_of_nonneg _ h, Int.fdiv_eq_ediv_of_nonneg _ (Int.pow_nonneg (by decide)), Int.ediv_ediv_of_nonneg h, Int.pow_succ]

theorem bit_at {n i : Nat} (hn : n ≤ 32) (hi : i < n) (v : Int) :
    (IntKind.wrap .i64 ((BitVec.toNat (BitVec.ofInt 64 (Int.fdiv v (2 ^ i)) &&& BitVec.ofInt 64 1) : Nat) : Int) == 1) = (lowN n v).testBit i := by
  rw [bit1, bit_low hn hi, Nat.testBit_eq_decide_div_mod_eq]
  have := Nat.mod_two_eq_zero_or_one (lowN n v / 2 ^ i)
  generalize lowN n v / 2 ^ i % 2 = q at *
  rcases this with rfl | rfl <;> rfl

theorem F16_loop (N : Nat) (n v : Int) : ∀ (d i f : Nat), i + d = clampN n → d < f → F16_58 N f (Int.fdiv v (2 ^ i), (i : Int), n, (putB n v).take i) = some (putB n v) := by
  have hc := clampN_le n
  have hl := putB_length n v
  intro d
  induction d with
  | zero =>
    intro i f hi hf
    cases f with
    | zero => omega
    | succ f =>
      simp only [F16_58, B16_58]
      rw [F36_clamp, Option.bind_some, if_neg (by simp; omega), List.take_of_length_le (by omega)]
  | succ d ih =>
    intro i f hi hf
    cases f with
    | zero => omega
    | succ f =>
      simp only [F16_58, B16_58]
      rw [F36_clamp, Option.bind_some, if_pos (by simp; omega), if_pos (by simp; omega), fdiv_two, bit_at hc (by omega), wrap_i64 (by omega) (by omega)]
      have e : (putB n v).take i ++ [(lowN (clampN n) v).testBit i] = (putB n v).take (i + 1) := by
        rw [List.take_add_one]
        unfold putB
        rw [getD_bitsN, if_pos (by omega)]; rfl
      rw [e, show ((i : Int) + 1) = ((i + 1 : Nat) : Int) by omega, ih (i + 1) f (by omega) (by omega), Option.bind_some]

theorem F16_of {N : Nat} (hN : 33 ≤ N) (n v : Int) : F16 N (n, v) = some (putB n v) := by
  have hc := clampN_le n
  simp only [F16]
  have h := F16_loop N n v (clampN n) 0 N (by omega) (by omega)
  simp only [Int.pow_zero, Int.fdiv_one, List.take_zero] at h
  rw [show ((0 : Nat) : Int) = 0 from rfl] at h
  rw [h, Option.bind_some]

theorem F37_loop (N : Nat) (l : List Bool) (hl : l.length ≤ 62) : ∀ (i f : Nat), i ≤ l.length → i < f → F37_58 N f ((val (l.drop i) : Int), (i : Int) - 1, l) = some (val l : Int) := by
  intro i
  induction i with
  | zero =>
    intro f _ hf
    cases f with
    | zero => omega
    | succ f =>
      simp only [F37_58, B37_58]
      rw [if_neg (by simp)]
      rfl
  | succ i ih =>
    intro f hi hf
    cases f with
    | zero => omega
    | succ f =>
      simp only [F37_58, B37_58]
      have hv := val_lt (l.drop (i + 1))
      rw [List.length_drop] at hv
      have hp : 2 ^ (l.length - (i + 1)) ≤ 2305843009213693952 := Nat.pow_le_pow_right (n := 2) (by decide) (show _ ≤ 61 by omega)
      have e0 : (((i + 1 : Nat) : Int) - 1) = (i : Int) := by omega
      have hd : l.drop i = l[i] :: l.drop (i + 1) := List.drop_eq_getElem_cons (by omega)
      rw [e0, if_pos (by simp), if_pos (by unfold within; simp; omega), Int.toNat_natCast, List.getElem?_eq_getElem (by omega), Option.bind_some, wrap_i64 (z := (val (l.drop (i + 1)) : Int) * 2) (by omega) (by omega)]
      rw [wrap_i64 (z := (val (l.drop (i + 1)) : Int) * 2 + 1) (by omega) (by omega), wrap_i64 (z := (i : Int) - 1) (by omega) (by omega)]
      have ih' := ih f (by omega) (by omega)
      rw [hd, val] at ih'
      cases hb : l[i] with
      | true =>
        rw [hb] at ih'
        rw [if_pos rfl]
        rw [show (val (l.drop (i + 1)) : Int) * 2 + 1 = ((true.toNat + 2 * val (l.drop (i + 1)) : Nat) : Int) by simp; omega, ih', Option.bind_some]
      | false =>
        rw [hb] at ih'
        rw [if_neg (by simp)]
        rw [show (val (l.drop (i + 1)) : Int) * 2 = ((false.toNat + 2 * val (l.drop (i + 1)) : Nat) : Int) by simp; omega, ih', Option.bind_some]

theorem F37_number {N : Nat} (l : List Bool) (hl : l.length ≤ 62) (hN : 63 ≤ N) : F37 N l = some (val l : Int) := by
  simp only [F37]
  have h := F37_loop N l hl l.length N (Nat.le_refl _) (by omega)
  rw [List.drop_length, show (val [] : Int) = 0 from rfl] at h
  rw [wrap_i64 (by omega) (by omega), h, Option.bind_some]

theorem F18_loop (N : Nat) (l : List Bool) (hl : l.length ≤ 62) : ∀ (i f : Nat), i ≤ l.length → i < f → F18_122 N f ((i : Int) - 1, (l.drop i).reverse, l) = some l.reverse := by
  intro i
  induction i with
  | zero =>
    intro f _ hf
    cases f with
    | zero => omega
    | succ f =>
      simp only [F18_122, B18_122]
      rw [if_neg (by simp)]
      rfl
  | succ i ih =>
    intro f hi hf
    cases f with
    | zero => omega
    | succ f =>
      simp only [F18_122, B18_122]
      have e0 : (((i + 1 : Nat) : Int) - 1) = (i : Int) := by omega
      have hd : l.drop i = l[i] :: l.drop (i + 1) := List.drop_eq_getElem_cons (by omega)
      rw [e0, if_pos (by simp), if_pos (by unfold within; simp; omega), Int.toNat_natCast, List.getElem?_eq_getElem (by omega), Option.bind_some, if_pos (by simp; omega), wrap_i64 (by omega) (by omega)]
      have ih' := ih f (by omega) (by omega)
      rw [hd, List.reverse_cons] at ih'
      rw [ih', Option.bind_some]

theorem F18_rev {N : Nat} (hN : 63 ≤ N) (v n : Int) : F18 N (v, n) = some (val (putB n v).reverse : Int) := by
  have hc := clampN_le n
  have hl := putB_length n v
  simp only [F18]
  rw [F16_of (by omega), Option.bind_some]
  have h := F18_loop N (putB n v) (by omega) (putB n v).length N (Nat.le_refl _) (by omega)
  rw [List.drop_length, List.reverse_nil] at h
  rw [wrap_i64 (by omega) (by omega), h, Option.bind_some, F37_number _ (by rw [List.length_reverse]; omega) (by omega), Option.bind_some]

/-- The code's and the document's number of a code the other way round. -/
theorem revN_val (n v : Int) : revN (clampN n) (lowN (clampN n) v) = val (putB n v).reverse := by
  have hc := clampN_le n
  apply Nat.eq_of_testBit_eq
  intro i
  rw [revN_bit hc, val_bit]
  have hl := putB_length n v
  by_cases h : i < clampN n
  · rw [List.getD, List.getElem?_reverse (by omega), hl]
    unfold putB
    rw [getD_bitsN, if_pos (by omega)]
    simp [h]
  · rw [List.getD, List.getElem?_eq_none (by rw [List.length_reverse]; omega)]
    simp [h]

/-! ### Whole bytes -/
def padN (m : List Bool) : Nat := (8 - m.length % 8) % 8
def alignL (m : List Bool) : List Bool := m ++ List.replicate (padN m) false

theorem alignL_length (m : List Bool) : (alignL m).length = 8 * ((m.length + 7) / 8) := by
  unfold alignL padN; rw [List.length_append, List.length_replicate]; omega

theorem F20_loop (N : Nat) : ∀ (d : Nat) (m : List Bool) (f : Nat), padN m = d → d < f → m.length ≤ 1000000000 → F20_12 N f m = some (alignL m) := by
  intro d
  induction d with
  | zero =>
    intro m f hd hf hm
    cases f with
    | zero => omega
    | succ f =>
      simp only [F20_12, B20_12]
      have : m.length % 8 = 0 := by unfold padN at hd; omega
      rw [if_neg (by rw [Int.tmod_eq_emod_of_nonneg (by omega)]; simp; omega)]
      unfold alignL; rw [hd]; simp
  | succ d ih =>
    intro m f hd hf hm
    cases f with
    | zero => omega
    | succ f =>
      simp only [F20_12, B20_12]
      have h8 : m.length % 8 ≠ 0 := by unfold padN at hd; omega
      have hp : padN (m ++ [false]) = d := by unfold padN at *; rw [List.length_append, List.length_singleton]; omega
      rw [if_pos (by rw [Int.tmod_eq_emod_of_nonneg (by omega)]; simp; omega), if_pos (by simp; omega), ih (m ++ [false]) f hp (by omega) (by simp; unfold padN at hd; omega), Option.bind_some]
      unfold alignL
      rw [hp, hd, List.append_assoc, List.replicate_succ]
      rfl

theorem F20_align {N : Nat} (hN : 8 ≤ N) (m : List Bool) (hm : m.length ≤ 1000000000) : F20 N m = some (alignL m) := by
  simp only [F20]
  rw [F20_loop N _ m N rfl (by unfold padN; omega) hm, Option.bind_some]

theorem putB_zero (k : Nat) (hk : k ≤ 32) : putB (k : Int) 0 = List.replicate k false := by
  have c : clampN (k : Int) = k := by unfold clampN; omega
  unfold putB lowN
  rw [c]
  apply List.ext_getElem?
  intro i
  rw [getD_bitsN, List.getElem?_replicate]
  simp

theorem F19_align {N : Nat} (hN : 6 ≤ N) (m : List Bool) (hm : m.length ≤ 1000000000) : F19 N (lastF m, nF m, bF m) = some (lastF (alignL m), nF (alignL m), bF (alignL m)) := by
  simp only [F19]
  have e : Int.tmod (IntKind.wrap .i64 ((8 : Int) - nF m)) (8 : Int) = ((padN m : Nat) : Int) := by
    unfold nF
    rw [wrap_i64 (by omega) (by omega), Int.tmod_eq_emod_of_nonneg (by omega)]
    unfold padN; omega
  rw [e, F10_bits hN m hm, Option.bind_some, putB_zero _ (by unfold padN; omega)]
  rfl

theorem val_pad : ∀ (l : List Bool) (k : Nat), val (l ++ List.replicate k false) = val l := by
  intro l k
  rw [val_append]
  have : val (List.replicate k false) = 0 := by
    induction k with
    | zero => rfl
    | succ k ih => rw [List.replicate_succ, val, ih]; rfl
  rw [this]; simp

theorem bytesF_pad : ∀ (k : Nat) (m : List Bool) (j : Nat), bytesF k (m ++ List.replicate j false) = bytesF k m
  | 0, _, _ => rfl
  | k + 1, m, j => by
    rw [bytesF, bytesF]
    have e1 : val ((m ++ List.replicate j false).take 8) = val (m.take 8) := by
      rw [List.take_append, List.take_replicate, val_pad]
    have e2 : (m ++ List.replicate j false).drop 8 = m.drop 8 ++ List.replicate (j - (8 - m.length)) false := by
      rw [List.drop_append, List.drop_replicate]
    rw [e1, e2, bytesF_pad k]

theorem allF_align (m : List Bool) : bytesF ((m.length + 7) / 8) (alignL m) = allF m := bytesF_pad _ _ _

theorem stringOf_nil : stringOf [] = ByteArray.mk #[] := rfl

theorem F23_loop (N : Nat) (hN : 63 ≤ N) (q : List Bool) (k : Nat) (hq : q.length = 8 * k) (hk : k ≤ 100000000) : ∀ (d j f : Nat), j + d = k → d < f →
    F23_506 N f (stringOf ((bytesF k q).take j), ((8 * j : Nat) : Int), q) = some (stringOf (bytesF k q)) := by
  have hlen := bytesF_len k q
  intro d
  induction d with
  | zero =>
    intro j f hj hf
    cases f with
    | zero => omega
    | succ f =>
      simp only [F23_506, B23_506]
      rw [if_neg (by simp; omega), List.take_of_length_le (by omega)]
  | succ d ih =>
    intro j f hj hf
    cases f with
    | zero => omega
    | succ f =>
      simp only [F23_506, B23_506]
      have e1 : IntKind.wrap .i64 (((8 * j : Nat) : Int) + 8) = ((8 * (j + 1) : Nat) : Int) := by
        rw [wrap_i64 (by omega) (by omega)]; omega
      rw [e1, if_pos (by simp; omega), if_pos (by simp; omega), if_pos (by simp; omega), Int.toNat_natCast, Int.toNat_natCast, show 8 * (j + 1) - 8 * j = 8 by omega]
      rw [F37_number _ (by rw [List.length_take, List.length_drop]; omega) hN, Option.bind_some]
      have hv := val_lt ((q.drop (8 * j)).take 8)
      have hp : 2 ^ ((q.drop (8 * j)).take 8).length ≤ 256 := Nat.pow_le_pow_right (n := 2) (by decide) (show _ ≤ 8 by rw [List.length_take]; omega)
      have e2 : IntKind.wrap .u8 (val ((q.drop (8 * j)).take 8) : Int) = (val ((q.drop (8 * j)).take 8) : Int) := by rw [wrap_u8]; omega
      rw [e2, if_neg (by rw [stringOf_size, stringOf_size, List.length_take]; simp; omega), stringOf_append]
      have e3 : (bytesF k q).take j ++ [(val ((q.drop (8 * j)).take 8) : Int)] = (bytesF k q).take (j + 1) := by
        rw [List.take_add_one (i := j), bytesF_get k q j (by omega)]; rfl
      rw [e3, ih (j + 1) f (by omega) (by omega), Option.bind_some]

theorem F23_text {N : Nat} (m : List Bool) (hm : m.length ≤ 100000) (hN : 100000 ≤ N) : F23 N m = some (strF m) := by
  simp only [F23]
  rw [if_pos (by simp; omega), F20_align (by omega) m (by omega), Option.bind_some]
  have h := F23_loop N (by omega) (alignL m) ((m.length + 7) / 8) (alignL_length m) (by omega) ((m.length + 7) / 8) 0 N (by omega) (by omega)
  simp only [List.take_zero, stringOf_nil, Nat.mul_zero] at h
  rw [show ((0 : Nat) : Int) = 0 from rfl] at h
  rw [h, Option.bind_some, allF_align]
  rfl

/-! ### A text's bits -/
def bitsOf (l : List UInt8) : List Bool := l.flatMap fun x => bitsN 8 x.toNat
def allB (s : ByteArray) : List Bool := bitsOf s.data.toList

theorem bitsOf_length : ∀ l : List UInt8, (bitsOf l).length = 8 * l.length
  | [] => rfl
  | x :: l => by
    unfold bitsOf
    rw [List.flatMap_cons, List.length_append, bitsN_length]
    have := bitsOf_length l
    unfold bitsOf at this
    rw [this, List.length_cons]; omega
theorem allB_length (s : ByteArray) : (allB s).length = 8 * s.size := by
  unfold allB; rw [bitsOf_length]; simp

theorem bitsOf_append (a b : List UInt8) : bitsOf (a ++ b) = bitsOf a ++ bitsOf b := List.flatMap_append

theorem putB_byte (x : UInt8) : putB 8 (x.toNat : Int) = bitsN 8 x.toNat := by
  have c : clampN 8 = 8 := rfl
  have := x.toNat_lt
  unfold putB lowN
  rw [c, BitVec.ofInt_natCast, BitVec.toNat_ofNat, Nat.mod_eq_of_lt (show x.toNat < 2 ^ 64 by omega), Nat.mod_eq_of_lt (show x.toNat < 2 ^ 8 by omega)]

theorem F22_loop (N : Nat) (hN : 33 ≤ N) (s : ByteArray) (hs : s.size ≤ 1000000000) : ∀ (d i f : Nat), i + d = s.size → d < f → F22_58 N f ((i : Int), s, bitsOf (s.data.toList.take i)) = some (allB s) := by
  intro d
  have hsl : s.data.toList.length = s.size := by simp
  induction d with
  | zero =>
    intro i f hi hf
    cases f with
    | zero => omega
    | succ f =>
      simp only [F22_58, B22_58]
      rw [if_neg (by simp; omega), List.take_of_length_le (by omega)]
      rfl
  | succ d ih =>
    intro i f hi hf
    cases f with
    | zero => omega
    | succ f =>
      simp only [F22_58, B22_58]
      have hb := (s.data.toList.getD i 0).toNat_lt
      rw [if_pos (by simp; omega), if_pos (by simp), Int.toNat_natCast, byte_at s i (by omega), Option.bind_some, wrap_i64 (z := ((s.data.toList.getD i 0).toNat : Int)) (by omega) (by omega), F16_of hN, Option.bind_some, putB_byte]
      have hL := bitsOf_length (s.data.toList.take i)
      rw [List.length_take] at hL
      rw [if_pos (by rw [hL, bitsN_length]; simp; omega), wrap_i64 (by omega) (by omega)]
      have e : bitsOf (s.data.toList.take i) ++ bitsN 8 (s.data.toList.getD i 0).toNat = bitsOf (s.data.toList.take (i + 1)) := by
        rw [List.take_add_one, bitsOf_append, List.getElem?_eq_getElem (by omega), List.getD, List.getElem?_eq_getElem (by omega)]
        simp [bitsOf]
      rw [e, show ((i : Int) + 1) = ((i + 1 : Nat) : Int) by omega, ih (i + 1) f (by omega) (by omega), Option.bind_some]

theorem F22_all {N : Nat} (s : ByteArray) (hs : s.size ≤ 10000) (hN : 100000 ≤ N) : F22 N s = some (allB s) := by
  simp only [F22]
  have h := F22_loop N (by omega) s (by omega) s.size 0 N (by omega) (by omega)
  rw [List.take_zero, show bitsOf [] = [] from rfl, show ((0 : Nat) : Int) = 0 from rfl] at h
  rw [h, Option.bind_some]

theorem val_bits8 (x : UInt8) : val (bitsN 8 x.toNat) = x.toNat := by
  have := x.toNat_lt
  rw [val_bitsN, Nat.mod_eq_of_lt (by omega)]

theorem bytesF_bitsOf : ∀ l : List UInt8, bytesF l.length (bitsOf l) = l.map fun x => (x.toNat : Int)
  | [] => rfl
  | x :: l => by
    have e : bitsOf (x :: l) = bitsN 8 x.toNat ++ bitsOf l := by unfold bitsOf; rw [List.flatMap_cons]
    rw [List.length_cons, bytesF, e, List.take_left' (bitsN_length ..), List.drop_left' (bitsN_length ..), val_bits8, bytesF_bitsOf l]
    rfl

theorem toList_data (s : ByteArray) : s.toList = s.data.toList := by
  exact ByteArray.toList_eq s

theorem bytesOf_eq (s : ByteArray) : bytesOf s = s.data.toList.map fun x => (x.toNat : Int) := by
  unfold bytesOf; rw [toList_data]
end Go.Proofs.Ytgdacmcapbbilaa.Am

namespace Go.Proofs.Ytgdacmcapbbilaa.Am
open Go.Am
set_option linter.unusedSimpArgs false
set_option linter.unusedVariables false

abbrev Act := Int × (Int × (Int × (ByteArray × Unit)))

theorem restF_whole {q : List Bool} (h : q.length % 8 = 0) : restF q = [] := by
  apply List.length_eq_zero_iff.1
  rw [restF_length]; exact h

theorem F21_bytes {N : Nat} (hN : 6 ≤ N) (m : List Bool) (hm : m.length ≤ 1000000000) (s : ByteArray) (hs : s.size ≤ 1000000000) :
    F21 N (s, lastF m, nF m, bF m) = some (lastF (alignL m ++ allB s), nF (alignL m ++ allB s), bF (alignL m ++ allB s)) := by
  simp only [F21]
  have hq := alignL_length m
  have hb := bF_len (alignL m)
  have hbo : (bytesOf s).length = s.size := by rw [bytesOf_eq, List.length_map]; simp
  rw [F19_align hN m hm, Option.bind_some, if_pos (by simp only [hb, hbo, decide_eq_true_eq]; omega)]
  obtain ⟨p1, p2, p3⟩ := parts (alignL m) (allB s)
  have hal := allB_length s
  rw [restF_whole (q := alignL m) (by omega), List.nil_append] at p1 p2 p3
  have e1 : bF (allB s) = bytesOf s := by
    unfold bF
    have hsl : s.data.toList.length = s.size := by simp
    rw [hal, show 8 * s.size / 8 = s.data.toList.length by omega, bytesOf_eq]
    exact bytesF_bitsOf _
  have e2 : restF (allB s) = [] := restF_whole (by omega)
  have e3 : nF (alignL m) = nF (allB s) := by unfold nF; congr 1; omega
  rw [p1, p3, e1]
  simp only [lastF, p2, e2, restF_whole (q := alignL m) (by omega), e3]

theorem F15_loop (N : Nat) (l : List Act) (hl : l.length ≤ 60) : ∀ (d i f : Nat), i + d = l.length → d < f →
    F15_58 N f (l, (i : Int)) = some (.inl true) ∨ (F15_58 N f (l, (i : Int)) = some (.inr ()) ∧ ∀ (j : Nat) (a : Act), i ≤ j → l[j]? = some a → a.2.2.2.1.size ≤ 60) := by
  intro d
  induction d with
  | zero =>
    intro i f hi hf
    cases f with
    | zero => omega
    | succ f =>
      simp only [F15_58, B15_58]
      rw [if_neg (by simp; omega)]
      refine .inr ⟨rfl, fun j a hj h => ?_⟩
      have := (List.getElem?_eq_some_iff.1 h).1
      omega
  | succ d ih =>
    intro i f hi hf
    cases f with
    | zero => omega
    | succ f =>
      simp only [F15_58, B15_58]
      rw [if_pos (by simp; omega), if_pos (by unfold within; simp; omega), Int.toNat_natCast, List.getElem?_eq_getElem (by omega), Option.bind_some]
      by_cases h : (60 : Int) < (l[i].2.2.2.1.size : Int)
      · rw [if_pos (by simpa using h)]
        exact .inl rfl
      · rw [if_neg (by simpa using h), wrap_i64 (by omega) (by omega), show ((i : Int) + 1) = ((i + 1 : Nat) : Int) by omega]
        rcases ih (i + 1) f (by omega) (by omega) with e | ⟨e, hs⟩
        · rw [e]; exact .inl rfl
        · rw [e]
          refine .inr ⟨rfl, fun j a hj ha => ?_⟩
          by_cases hij : j = i
          · subst hij
            rw [List.getElem?_eq_getElem (by omega)] at ha
            cases ha
            omega
          · exact hs j a (by omega) ha

/-- Are acts more than is looked at? -/
theorem F15_over {N : Nat} (hN : 61 ≤ N) (l : List Act) : F15 N l = some true ∨ (F15 N l = some false ∧ l.length ≤ 60 ∧ ∀ (j : Nat) (a : Act), l[j]? = some a → a.2.2.2.1.size ≤ 60) := by
  simp only [F15]
  by_cases h : (60 : Int) < (l.length : Int)
  · rw [if_pos (by simpa using h)]
    exact .inl rfl
  · rw [if_neg (by simpa using h)]
    rcases F15_loop N l (by omega) l.length 0 N (by omega) (by omega) with e | ⟨e, hs⟩
    · rw [show ((0 : Nat) : Int) = 0 from rfl] at e
      rw [e]; exact .inl rfl
    · rw [show ((0 : Nat) : Int) = 0 from rfl] at e
      rw [e]; exact .inr ⟨rfl, by omega, fun j a ha => hs j a (by omega) ha⟩

theorem law5_loop (l : List Act) (hl : l.length ≤ 60) (hS : ∀ (j : Nat) (a : Act), l[j]? = some a → a.2.2.2.1.size ≤ 60) : ∀ (d i f : Nat) (m : List Bool), i + d = l.length → d < f → m.length ≤ 500 * i →
    F5_2042 100000 f (true, l, (i : Int), m, lastF m, nF m, bF m) = some (.inr true) := by
  intro d
  induction d with
  | zero =>
    intro i f m hi hf hm
    cases f with
    | zero => omega
    | succ f =>
      simp only [F5_2042, B5_2042]
      rw [if_neg (by simp; omega)]
  | succ d ih =>
    intro i f m hi hf hm
    cases f with
    | zero => omega
    | succ f =>
      simp only [F5_2042, B5_2042]
      rw [if_pos (by simp; omega), if_pos (by unfold within; simp; omega), Int.toNat_natCast]
      have hli : l[i]? = some l[i] := List.getElem?_eq_getElem (by omega)
      have hs := hS i _ hli
      rw [hli, Option.bind_some]
      generalize l[i] = a at *
      obtain ⟨K, n, v, s, u⟩ := a
      simp only at hs ⊢
      have hw : IntKind.wrap .i64 ((i : Int) + 1) = ((i + 1 : Nat) : Int) := by rw [wrap_i64 (by omega) (by omega)]; omega
      rw [hw]
      have hp := putB_length n
      have hc := clampN_le n
      have hal := alignL_length m
      have hab := allB_length s
      -- what stands there afterwards
      have fin : ∀ m' : List Bool, m'.length ≤ 500 * (i + 1) → F5_2042 100000 f (true, l, ((i + 1 : Nat) : Int), m', lastF m', nF m', bF m') = some (.inr true) := fun m' h => ih (i + 1) f m' (by omega) (by omega) h
      by_cases h0 : Int.tmod K 4 = 0
      · rw [if_pos (by simpa using h0), F10_bits (by decide) m (by omega), Option.bind_some, F16_of (by decide), Option.bind_some, if_pos (by rw [hp]; simp; omega)]
        have hlen : (m ++ putB n v).length ≤ 500 * (i + 1) := by rw [List.length_append, hp]; omega
        rw [F14_len _ _ (by omega), Option.bind_some, if_neg (by simp), F12_string _ _ (by omega), Option.bind_some, F23_text _ (by omega) (by decide), Option.bind_some, if_neg (by simp), fin _ hlen]
        rfl
      rw [if_neg (by simpa using h0)]
      by_cases h1 : Int.tmod K 4 = 1
      · rw [if_pos (by simpa using h1)]
        simp only [F17]
        rw [F9_rev, Option.bind_some, F10_bits (by decide) m (by omega), Option.bind_some, Option.bind_some, F18_rev (by decide), Option.bind_some, F16_of (by decide), Option.bind_some, revN_val, if_pos (by rw [hp]; simp; omega), Option.bind_some, Option.bind_some, if_neg (by simp)]
        generalize (val (putB n v).reverse : Int) = r
        have hlen : (m ++ putB n r).length ≤ 500 * (i + 1) := by rw [List.length_append, hp]; omega
        rw [F14_len _ _ (by omega), Option.bind_some, if_neg (by simp), F12_string _ _ (by omega), Option.bind_some, F23_text _ (by omega) (by decide), Option.bind_some, if_neg (by simp), fin _ hlen]
        rfl
      rw [if_neg (by simpa using h1)]
      by_cases h2 : Int.tmod K 4 = 2
      · rw [if_pos (by simpa using h2), F19_align (by decide) m (by omega), Option.bind_some, F20_align (by decide) m (by omega), Option.bind_some]
        have hlen : (alignL m).length ≤ 500 * (i + 1) := by omega
        rw [F14_len _ _ (by omega), Option.bind_some, if_neg (by simp), F12_string _ _ (by omega), Option.bind_some, F23_text _ (by omega) (by decide), Option.bind_some, if_neg (by simp), fin _ hlen]
        rfl
      rw [if_neg (by simpa using h2)]
      by_cases h3 : Int.tmod K 4 = 3
      · rw [if_pos (by simpa using h3), F21_bytes (by decide) m (by omega) s (by omega), Option.bind_some, F20_align (by decide) m (by omega), Option.bind_some, F22_all s (by omega) (by decide), Option.bind_some, if_pos (by simp; omega)]
        have hlen : (alignL m ++ allB s).length ≤ 500 * (i + 1) := by rw [List.length_append]; omega
        rw [F14_len _ _ (by omega), Option.bind_some, if_neg (by simp), F12_string _ _ (by omega), Option.bind_some, F23_text _ (by omega) (by decide), Option.bind_some, if_neg (by simp), fin _ hlen]
        rfl
      rw [if_neg (by simpa using h3)]
      have hlen : m.length ≤ 500 * (i + 1) := by omega
      rw [F14_len _ _ (by omega), Option.bind_some, if_neg (by simp), F12_string _ _ (by omega), Option.bind_some, F23_text _ (by omega) (by decide), Option.bind_some, if_neg (by simp), fin _ hlen]
      rfl

theorem law5 (l : List Act) : ∃ N, F5 N l = some true := by
  refine ⟨100000, ?_⟩
  simp only [F5]
  rw [works8, Option.bind_some, if_neg (by decide)]
  rcases F15_over (N := 100000) (by decide) l with e | ⟨e, hl, hS⟩
  · rw [e, Option.bind_some, if_pos rfl]
  · rw [e, Option.bind_some, if_neg (by decide)]
    have h := law5_loop l hl hS l.length 0 100000 [] (by omega) (by omega) (by simp)
    rw [show ((0 : Nat) : Int) = 0 from rfl] at h
    have h2 : F5_2042 100000 100000 (true, l, 0, [], 0, 0, []) = some (.inr true) := h
    rw [h2, Option.bind_some]
end Go.Proofs.Ytgdacmcapbbilaa.Am

namespace Go.Proofs.Ytgdacmcapbbilaa.Am
open Go.Am
set_option linter.unusedSimpArgs false
set_option linter.unusedVariables false

/-! ### Reading -/
theorem bitsOf_get : ∀ (l : List UInt8) (j : Nat), j < 8 * l.length → (bitsOf l)[j]? = some ((l.getD (j / 8) 0).toNat.testBit (j % 8))
  | [], j, h => by simp at h
  | x :: l, j, h => by
    have e : bitsOf (x :: l) = bitsN 8 x.toNat ++ bitsOf l := by unfold bitsOf; rw [List.flatMap_cons]
    rw [e]
    by_cases h8 : j < 8
    · rw [List.getElem?_append_left (by rw [bitsN_length]; exact h8), getD_bitsN, if_pos h8, show j / 8 = 0 by omega, show j % 8 = j by omega]
      rfl
    · rw [List.getElem?_append_right (by rw [bitsN_length]; omega), bitsN_length, bitsOf_get l (j - 8) (by rw [List.length_cons] at h; omega), show j / 8 = (j - 8) / 8 + 1 by omega, show (j - 8) % 8 = j % 8 by omega]
      simp

theorem sbits_eq (s : ByteArray) (p k : Nat) (h : p + k ≤ 8 * s.size) : sbits s p k = ((allB s).drop p).take k := by
  have hal := allB_length s
  have hsl : s.data.toList.length = s.size := by simp
  apply List.ext_getElem?
  intro i
  unfold sbits
  by_cases hi : i < k
  · rw [List.getElem?_map, List.getElem?_range hi, List.getElem?_take_of_lt hi, List.getElem?_drop]
    unfold allB
    rw [bitsOf_get _ _ (by omega)]
    rfl
  · rw [List.getElem?_eq_none (by simp; omega), List.getElem?_eq_none (by simp; omega)]

/-- What the next bits are, and what is left. -/
def rd (L : List Bool) (p : Nat) (e n : Int) : Nat × Nat × Int :=
  if e = 0 then (if p + clampN n ≤ L.length then (val ((L.drop p).take (clampN n)), p + clampN n, 0) else (0, p, 2)) else (0, p, e)

theorem F30_left (N : Nat) (s : ByteArray) (p : Nat) (e : Int) (hs : s.size ≤ 1000000000) (hp : p ≤ 8 * s.size) : F30 N (s, (p : Int), e, ()) = some (((8 * s.size - p : Nat) : Int)) := by
  simp only [F30]
  rw [wrap_i64 (z := (8 : Int) * (s.size : Int)) (by omega) (by omega), wrap_i64 (by omega) (by omega)]
  congr 1
  omega

theorem F13_rd {N : Nat} (hN : 33 ≤ N) (s : ByteArray) (p : Nat) (e n : Int) (hs : s.size ≤ 1000000000) (hp : p ≤ 8 * s.size) :
    F13 N (n, s, (p : Int), e) = some (((rd (allB s) p e n).1 : Int), s, ((rd (allB s) p e n).2.1 : Int), (rd (allB s) p e n).2.2) := by
  have hal := allB_length s
  have hc := clampN_le n
  unfold rd
  by_cases he : e = 0
  · subst he
    rw [if_pos rfl]
    by_cases h : p + clampN n ≤ 8 * s.size
    · rw [if_pos (by omega), F13_read hN s p n hs h, sbits_eq s p _ h]
    · rw [if_neg (by omega)]
      simp only [F13, F35]
      rw [F32_clamp, Option.bind_some, if_pos (by simp), F30_left N s p 0 hs hp, Option.bind_some, if_pos (by simp; omega), Option.bind_some, if_pos (by simp)]
      rfl
  · rw [if_neg he]
    simp only [F13, F35]
    rw [F32_clamp, Option.bind_some, if_neg (by simpa using he), Option.bind_some, if_pos (by simpa using he)]
    rfl

theorem F24_rd {N : Nat} (hN : 63 ≤ N) (L : List Bool) (p : Nat) (e n : Int) (hL : L.length ≤ 1000000000) (hp : p ≤ L.length) :
    F24 N (n, (p : Int), e, L) = some (((rd L p e n).1 : Int), ((rd L p e n).2.1 : Int), (rd L p e n).2.2, L) := by
  have hc := clampN_le n
  unfold rd
  simp only [F24]
  rw [F36_clamp, Option.bind_some]
  by_cases he : e = 0
  · subst he
    rw [if_pos (by simp), if_pos rfl, wrap_i64 (z := (L.length : Int) - p) (by omega) (by omega)]
    by_cases h : p + clampN n ≤ L.length
    · have w1 : IntKind.wrap .i64 ((p : Int) + (clampN n : Int)) = ((p + clampN n : Nat) : Int) := by rw [wrap_i64 (by omega) (by omega)]; omega
      have w2 : IntKind.wrap .i64 (((p + clampN n : Nat) : Int) - (clampN n : Int)) = (p : Int) := by rw [wrap_i64 (by omega) (by omega)]; omega
      rw [if_neg (by simp only [decide_eq_true_eq]; omega), if_neg (by simp), w1, w2, if_pos (by simp only [decide_eq_true_eq]; omega), if_pos (by simp only [decide_eq_true_eq]; omega), if_pos h, Int.toNat_natCast, Int.toNat_natCast, show p + clampN n - p = clampN n by omega]
      rw [F37_number _ (by rw [List.length_take]; omega) hN, Option.bind_some]
    · rw [if_pos (by simp only [decide_eq_true_eq]; omega), if_neg h]
      rfl
  · rw [if_neg (by simpa using he), if_neg he, if_pos (by simpa using he)]
    rfl

theorem rd_le {L : List Bool} {p : Nat} {e n : Int} (hp : p ≤ L.length) : (rd L p e n).2.1 ≤ L.length := by
  unfold rd
  split
  · split <;> simp only <;> omega
  · exact hp

/-- How many bits there are up to a whole byte. -/
def gapN (p : Nat) : Nat := (8 - p % 8) % 8

theorem gap_eq (p : Nat) (hp : p ≤ 1000000000000) : Int.tmod (IntKind.wrap .i64 ((8 : Int) - Int.tmod (p : Int) 8)) 8 = (gapN p : Int) := by
  have h1 : Int.tmod (p : Int) 8 = ((p % 8 : Nat) : Int) := by rw [Int.tmod_eq_emod_of_nonneg (by omega)]; omega
  rw [h1, wrap_i64 (by omega) (by omega), Int.tmod_eq_emod_of_nonneg (by omega)]
  unfold gapN
  omega

theorem F38_gap (N : Nat) (s : ByteArray) (p : Nat) (e : Int) (hp : p ≤ 1000000000000) : F38 N (s, (p : Int), e, ()) = some (gapN p : Int) := by
  simp only [F38]; rw [gap_eq p hp]
theorem F39_gap (N : Nat) (L : List Bool) (p : Nat) (e : Int) (hp : p ≤ 1000000000000) : F39 N (L, (p : Int), e, ()) = some (gapN p : Int) := by
  simp only [F39]; rw [gap_eq p hp]

theorem F25_rd {N : Nat} (hN : 33 ≤ N) (s : ByteArray) (p : Nat) (e : Int) (hs : s.size ≤ 1000000000) (hp : p ≤ 8 * s.size) :
    F25 N (s, (p : Int), e) = some (((rd (allB s) p e (gapN p)).1 : Int), s, ((rd (allB s) p e (gapN p)).2.1 : Int), (rd (allB s) p e (gapN p)).2.2) := by
  simp only [F25]
  rw [F38_gap N s p e (by omega), Option.bind_some, F13_rd hN s p e _ hs hp, Option.bind_some]

theorem F26_rd {N : Nat} (hN : 63 ≤ N) (L : List Bool) (p : Nat) (e : Int) (hL : L.length ≤ 1000000000) (hp : p ≤ L.length) :
    F26 N ((p : Int), e, L) = some (((rd L p e (gapN p)).1 : Int), ((rd L p e (gapN p)).2.1 : Int), (rd L p e (gapN p)).2.2, L) := by
  simp only [F26]
  rw [F39_gap N L p e (by omega), Option.bind_some, F24_rd hN L p e _ hL hp, Option.bind_some]

/-- What the next bytes are, and what is left. -/
def rdB (L : List Bool) (p : Nat) (e n : Int) : ByteArray × Nat × Int :=
  if e = 0 then (if p + gapN p + 8 * n.toNat ≤ L.length then (strF ((L.drop (p + gapN p)).take (8 * n.toNat)), p + gapN p + 8 * n.toNat, 0) else (ByteArray.mk #[], p, 2)) else (ByteArray.mk #[], p, e)

theorem bitsOf_drop : ∀ (l : List UInt8) (k : Nat), (bitsOf l).drop (8 * k) = bitsOf (l.drop k)
  | l, 0 => rfl
  | [], k + 1 => by simp [bitsOf]
  | x :: l, k + 1 => by
    have e : bitsOf (x :: l) = bitsN 8 x.toNat ++ bitsOf l := by unfold bitsOf; rw [List.flatMap_cons]
    rw [e, show 8 * (k + 1) = 8 + 8 * k by omega, ← List.drop_drop, List.drop_left' (bitsN_length ..), bitsOf_drop l k]
    rfl
theorem bitsOf_take : ∀ (l : List UInt8) (k : Nat), (bitsOf l).take (8 * k) = bitsOf (l.take k)
  | l, 0 => rfl
  | [], k + 1 => by simp [bitsOf]
  | x :: l, k + 1 => by
    have e : bitsOf (x :: l) = bitsN 8 x.toNat ++ bitsOf l := by unfold bitsOf; rw [List.flatMap_cons]
    have e2 : bitsOf ((x :: l).take (k + 1)) = bitsN 8 x.toNat ++ bitsOf (l.take k) := by unfold bitsOf; rw [List.take_succ_cons, List.flatMap_cons]
    have h8 := bitsN_length 8 x.toNat
    rw [e, e2, show 8 * (k + 1) = (bitsN 8 x.toNat).length + 8 * k by omega, List.take_append, List.take_of_length_le (Nat.le_add_right ..), Nat.add_sub_cancel_left, bitsOf_take l k]

theorem strF_bitsOf (l : List UInt8) : strF (bitsOf l) = ⟨l.toArray⟩ := by
  unfold strF allF
  rw [bitsOf_length, show (8 * l.length + 7) / 8 = l.length by omega, bytesF_bitsOf]
  unfold stringOf
  apply ByteArray.ext
  simp only [List.map_map]
  congr 1
  conv => rhs; rw [← List.map_id l]
  apply List.map_congr_left
  intro x _
  simp

theorem extract_strF (s : ByteArray) (a b : Nat) (hab : a ≤ b) (hb : b ≤ s.size) : s.extract a b = strF (((allB s).drop (8 * a)).take (8 * (b - a))) := by
  unfold allB
  rw [bitsOf_drop, bitsOf_take, strF_bitsOf]
  apply ByteArray.ext
  apply Array.ext'
  simp [Array.toList_extract, List.extract]

theorem max_eq (n : Int) : (if (0 : Int) > n then (0 : Int) else n) = (n.toNat : Int) := by
  split <;> omega

theorem F27_rdB {N : Nat} (s : ByteArray) (p : Nat) (e n : Int) (hs : s.size ≤ 1000000000) (hp : p ≤ 8 * s.size) :
    F27 N (n, s, (p : Int), e) = some ((rdB (allB s) p e n).1, s, ((rdB (allB s) p e n).2.1 : Int), (rdB (allB s) p e n).2.2) := by
  have hal := allB_length s
  have hg : p + gapN p ≤ 8 * s.size ∧ (p + gapN p) % 8 = 0 ∧ gapN p < 8 := by unfold gapN; omega
  unfold rdB
  simp only [F27, max_eq, F35]
  by_cases h1 : s.size < n.toNat
  · rw [if_pos (by simp only [decide_eq_true_eq]; omega), F30_left N s p e hs hp, Option.bind_some, wrap_i64 (by omega) (by omega)]
    by_cases he : e = 0
    · subst he
      rw [if_pos (by simp), Option.bind_some, if_pos (by simp only [decide_eq_true_eq]; omega), Option.bind_some, if_pos rfl, if_neg (by omega)]
    · rw [if_neg (by simpa using he), Option.bind_some, if_neg he]
  · rw [if_neg (by simp only [decide_eq_true_eq]; omega), F38_gap N s p e (by omega), Option.bind_some, wrap_i64 (z := (8 : Int) * (n.toNat : Int)) (by omega) (by omega), wrap_i64 (z := (gapN p : Int) + _) (by omega) (by omega)]
    by_cases he : e = 0
    · subst he
      rw [if_pos (by simp), F30_left N s p 0 hs hp, Option.bind_some, if_pos rfl]
      by_cases h : p + gapN p + 8 * n.toNat ≤ 8 * s.size
      · rw [if_neg (by simp only [decide_eq_true_eq]; omega), if_pos (by omega), Option.bind_some, if_neg (by simp)]
        simp only
        rw [F38_gap N s p 0 (by omega), Option.bind_some]
        have w1 : IntKind.wrap .i64 ((p : Int) + (gapN p : Int)) = ((p + gapN p : Nat) : Int) := by rw [wrap_i64 (by omega) (by omega)]; omega
        have w2 : Int.tdiv ((p + gapN p : Nat) : Int) 8 = (((p + gapN p) / 8 : Nat) : Int) := by rw [Int.tdiv_eq_ediv_of_nonneg (by omega)]; omega
        have w3 : IntKind.wrap .i64 ((((p + gapN p) / 8 : Nat)) : Int) = (((p + gapN p) / 8 : Nat) : Int) := wrap_i64 (by omega) (by omega)
        have w4 : IntKind.wrap .i64 ((((p + gapN p) / 8 : Nat) : Int) + (n.toNat : Int)) = (((p + gapN p) / 8 + n.toNat : Nat) : Int) := by rw [wrap_i64 (by omega) (by omega)]; omega
        have w5 : IntKind.wrap .i64 ((8 : Int) * (((p + gapN p) / 8 + n.toNat : Nat) : Int)) = ((p + gapN p + 8 * n.toNat : Nat) : Int) := by rw [wrap_i64 (by omega) (by omega)]; omega
        rw [w1, w2, w3, w4, w5, if_pos (by simp only [decide_eq_true_eq]; omega), if_pos (by simp only [decide_eq_true_eq]; omega), Int.toNat_natCast, Int.toNat_natCast, extract_strF s _ _ (by omega) (by omega), show 8 * ((p + gapN p) / 8) = p + gapN p by omega, show 8 * ((p + gapN p) / 8 + n.toNat - (p + gapN p) / 8) = 8 * n.toNat by omega]
      · rw [if_pos (by simp only [decide_eq_true_eq]; omega), if_neg (by omega), Option.bind_some, if_pos (by simp)]
        simp only
        rw [F30_left N s p 2 hs hp, Option.bind_some, if_neg (by simp), Option.bind_some]
    · rw [if_neg (by simpa using he), if_neg he, Option.bind_some, if_pos (by simpa using he)]
      simp only
      rw [F30_left N s p e hs hp, Option.bind_some, if_neg (by simpa using he), Option.bind_some]

theorem F28_rdB {N : Nat} (hN : 100000 ≤ N) (L : List Bool) (p : Nat) (e n : Int) (hL : L.length ≤ 100000) (hL8 : L.length % 8 = 0) (hp : p ≤ L.length) :
    F28 N (n, (p : Int), e, L) = some ((rdB L p e n).1, ((rdB L p e n).2.1 : Int), (rdB L p e n).2.2, L) := by
  have hg : p + gapN p ≤ L.length ∧ (p + gapN p) % 8 = 0 ∧ gapN p < 8 := by unfold gapN; omega
  unfold rdB
  simp only [F28, max_eq]
  by_cases he : e = 0
  · subst he
    rw [if_pos (by simp), F39_gap N L p 0 (by omega), Option.bind_some, if_pos rfl, wrap_i64 (z := (L.length : Int) - p) (by omega) (by omega), wrap_i64 (z := (L.length : Int) - p - (gapN p : Int)) (by omega) (by omega)]
    have w2 : Int.tdiv ((L.length : Int) - p - (gapN p : Int)) 8 = (((L.length - p - gapN p) / 8 : Nat) : Int) := by rw [Int.tdiv_eq_ediv_of_nonneg (by omega)]; omega
    have w3 : IntKind.wrap .i64 ((((L.length - p - gapN p) / 8 : Nat)) : Int) = (((L.length - p - gapN p) / 8 : Nat) : Int) := wrap_i64 (by omega) (by omega)
    rw [w2, w3]
    by_cases h : p + gapN p + 8 * n.toNat ≤ L.length
    · rw [if_neg (by simp only [decide_eq_true_eq]; omega), if_neg (by simp), Option.bind_some, if_pos h]
      have v1 : IntKind.wrap .i64 ((p : Int) + (gapN p : Int)) = ((p + gapN p : Nat) : Int) := by rw [wrap_i64 (by omega) (by omega)]; omega
      have v2 : IntKind.wrap .i64 ((8 : Int) * (n.toNat : Int)) = ((8 * n.toNat : Nat) : Int) := by rw [wrap_i64 (by omega) (by omega)]; omega
      have v3 : IntKind.wrap .i64 (((p + gapN p : Nat) : Int) + ((8 * n.toNat : Nat) : Int)) = ((p + gapN p + 8 * n.toNat : Nat) : Int) := by rw [wrap_i64 (by omega) (by omega)]; omega
      have v4 : IntKind.wrap .i64 (((p + gapN p + 8 * n.toNat : Nat) : Int) - ((8 * n.toNat : Nat) : Int)) = ((p + gapN p : Nat) : Int) := by rw [wrap_i64 (by omega) (by omega)]; omega
      rw [v1, v2, v3, v4, if_pos (by simp only [decide_eq_true_eq]; omega), if_pos (by simp only [decide_eq_true_eq]; omega), Int.toNat_natCast, Int.toNat_natCast, show p + gapN p + 8 * n.toNat - (p + gapN p) = 8 * n.toNat by omega]
      rw [F23_text _ (by rw [List.length_take, List.length_drop]; omega) hN, Option.bind_some]
    · rw [if_pos (by simp only [decide_eq_true_eq]; omega), if_neg h]
  · rw [if_neg (by simpa using he), if_neg he, if_pos (by simpa using he)]

theorem rdB_le {L : List Bool} {p : Nat} {e n : Int} (hp : p ≤ L.length) : (rdB L p e n).2.1 ≤ L.length := by
  unfold rdB
  split
  · split <;> simp only <;> omega
  · exact hp

theorem law6_loop (s : ByteArray) (hs : s.size ≤ 60) (l : List Act) (hl : l.length ≤ 60) : ∀ (d i f p : Nat) (e : Int), i + d = l.length → d < f → p ≤ 8 * s.size →
    F6_2042 100000 f ((i : Int), true, l, s, (p : Int), e, s, (p : Int), e, allB s) = some (.inr true) := by
  have hal := allB_length s
  intro d
  induction d with
  | zero =>
    intro i f p e hi hf hp
    cases f with
    | zero => omega
    | succ f =>
      simp only [F6_2042, B6_2042]
      rw [if_neg (by simp; omega)]
  | succ d ih =>
    intro i f p e hi hf hp
    cases f with
    | zero => omega
    | succ f =>
      simp only [F6_2042, B6_2042]
      rw [if_pos (by simp; omega), if_pos (by unfold within; simp; omega), Int.toNat_natCast]
      have hli : l[i]? = some l[i] := List.getElem?_eq_getElem (by omega)
      rw [hli, Option.bind_some]
      generalize l[i] = a at *
      obtain ⟨K, n, v, t, u⟩ := a
      simp only
      have hw : IntKind.wrap .i64 ((i : Int) + 1) = ((i + 1 : Nat) : Int) := by rw [wrap_i64 (by omega) (by omega)]; omega
      rw [hw]
      -- what is left is told alike
      have left : ∀ q : Nat, q ≤ 8 * s.size → IntKind.wrap .i64 (IntKind.wrap .i64 ((8 : Int) * (s.size : Int)) - (q : Int)) = ((8 * s.size - q : Nat) : Int) := fun q hq => by
        rw [wrap_i64 (z := (8 : Int) * (s.size : Int)) (by omega) (by omega), wrap_i64 (by omega) (by omega)]; omega
      have fin : ∀ (q : Nat) (e' : Int), q ≤ 8 * s.size → F6_2042 100000 f (((i + 1 : Nat) : Int), true, l, s, (q : Int), e', s, (q : Int), e', allB s) = some (.inr true) := fun q e' h => ih (i + 1) f q e' (by omega) (by omega) h
      have hp' : p ≤ (allB s).length := by omega
      have h29 : ∀ (q : Nat) (e' : Int), F29 100000 (s, (q : Int), e', ()) = some (q : Int) := fun q e' => rfl
      have h31 : ∀ (q : Nat) (e' : Int), F31 100000 (s, (q : Int), e', ()) = some e' := fun q e' => rfl
      by_cases h0 : Int.tmod K 4 = 0
      · have hq := rd_le (e := e) (n := n) hp'
        rw [if_pos (by simpa using h0), F13_rd (by decide) s p e n (by omega) hp, Option.bind_some, F24_rd (by decide) (allB s) p e n (by omega) hp', Option.bind_some, if_neg (by simp)]
        simp only [h29, Option.bind_some, F30_left _ s _ _ (show s.size ≤ 1000000000 by omega) (show (rd (allB s) p e n).2.1 ≤ 8 * s.size by omega), h31, left _ (show (rd (allB s) p e n).2.1 ≤ 8 * s.size by omega)]
        rw [if_neg (by simp), if_neg (by simp), if_neg (by simp), fin _ _ (by omega)]
        rfl
      rw [if_neg (by simpa using h0)]
      by_cases h1 : Int.tmod K 4 = 1
      · have hq := rd_le (e := e) (n := n) hp'
        rw [if_pos (by simpa using h1), F13_rd (by decide) s p e n (by omega) hp, Option.bind_some, F24_rd (by decide) (allB s) p e n (by omega) hp', Option.bind_some, if_neg (by simp)]
        simp only [h29, Option.bind_some, F30_left _ s _ _ (show s.size ≤ 1000000000 by omega) (show (rd (allB s) p e n).2.1 ≤ 8 * s.size by omega), h31, left _ (show (rd (allB s) p e n).2.1 ≤ 8 * s.size by omega)]
        rw [if_neg (by simp), if_neg (by simp), if_neg (by simp), fin _ _ (by omega)]
        rfl
      rw [if_neg (by simpa using h1)]
      by_cases h2 : Int.tmod K 4 = 2
      · have hq := rd_le (e := e) (n := (gapN p : Int)) hp'
        rw [if_pos (by simpa using h2), F25_rd (by decide) s p e (by omega) hp, Option.bind_some, F26_rd (by decide) (allB s) p e (by omega) hp', Option.bind_some, if_neg (by simp)]
        simp only [h29, Option.bind_some, F30_left _ s _ _ (show s.size ≤ 1000000000 by omega) (show (rd (allB s) p e (gapN p : Int)).2.1 ≤ 8 * s.size by omega), h31, left _ (show (rd (allB s) p e (gapN p : Int)).2.1 ≤ 8 * s.size by omega)]
        rw [if_neg (by simp), if_neg (by simp), if_neg (by simp), fin _ _ (by omega)]
        rfl
      rw [if_neg (by simpa using h2)]
      by_cases h3 : Int.tmod K 4 = 3
      · have hq := rdB_le (e := e) (n := n) hp'
        rw [if_pos (by simpa using h3), F27_rdB s p e n (by omega) hp, Option.bind_some, F28_rdB (by decide) (allB s) p e n (by omega) (by omega) hp', Option.bind_some, if_neg (by simp)]
        simp only [h29, Option.bind_some, F30_left _ s _ _ (show s.size ≤ 1000000000 by omega) (show (rdB (allB s) p e n).2.1 ≤ 8 * s.size by omega), h31, left _ (show (rdB (allB s) p e n).2.1 ≤ 8 * s.size by omega)]
        rw [if_neg (by simp), if_neg (by simp), if_neg (by simp), fin _ _ (by omega)]
        rfl
      rw [if_neg (by simpa using h3)]
      simp only [h29, Option.bind_some, F30_left _ s _ _ (show s.size ≤ 1000000000 by omega) hp, h31, left _ hp]
      rw [if_neg (by simp), if_neg (by simp), if_neg (by simp), fin _ _ (by omega)]
      rfl

theorem law6 (s : ByteArray) (l : List Act) : ∃ N, F6 N (s, l) = some true := by
  refine ⟨100000, ?_⟩
  simp only [F6]
  rw [works8, Option.bind_some, if_neg (by decide)]
  rcases F15_over (N := 100000) (by decide) l with e | ⟨e, hl, hS⟩
  · rw [e, Option.bind_some, if_pos rfl]
  · rw [e, Option.bind_some, if_neg (by decide)]
    by_cases h : (60 : Int) < (s.size : Int)
    · rw [if_pos (by simpa using h)]
    · rw [if_neg (by simpa using h)]
      simp only [F11]
      rw [Option.bind_some, F22_all s (by omega) (by decide), Option.bind_some]
      have hh := law6_loop s (by omega) l hl l.length 0 100000 0 0 (by omega) (by omega) (by omega)
      rw [show ((0 : Nat) : Int) = 0 from rfl] at hh
      rw [hh, Option.bind_some]
end Go.Proofs.Ytgdacmcapbbilaa.Am

namespace Go.Proofs.Ytgdacmcapbbilaa.Am
open Go.Am
set_option linter.unusedSimpArgs false
set_option linter.unusedVariables false

theorem clamp_clamp (n : Int) : clampN ((clampN n : Nat) : Int) = clampN n := by unfold clampN; omega
theorem putB_clamp (n v : Int) : putB ((clampN n : Nat) : Int) v = putB n v := by unfold putB; rw [clamp_clamp]

theorem bitsN_val (l : List Bool) : bitsN l.length (val l) = l := by
  apply List.ext_getElem?
  intro i
  rw [getD_bitsN, val_bit, List.getD]
  by_cases h : i < l.length
  · rw [if_pos h, List.getElem?_eq_getElem h]; rfl
  · rw [if_neg h, List.getElem?_eq_none (by omega)]

theorem putB_val (n : Int) (l : List Bool) (h : l.length = clampN n) : putB n (val l : Int) = l := by
  have hc := clampN_le n
  have hp := pow_le32 hc
  have hv := val_lt l
  rw [h] at hv
  unfold putB lowN
  rw [BitVec.ofInt_natCast, BitVec.toNat_ofNat]
  have h1 : val l % 2 ^ 64 = val l := Nat.mod_eq_of_lt (by omega)
  rw [h1, Nat.mod_eq_of_lt hv, ← h]
  exact bitsN_val l

/-- What an act puts in behind some bits. -/
def added (m : List Bool) (a : Act) : List Bool :=
  if Int.tmod a.1 3 = 0 then putB a.2.1 a.2.2.1 else if Int.tmod a.1 3 = 1 then (putB a.2.1 a.2.2.1).reverse else if Int.tmod a.1 3 = 2 then List.replicate (padN m) false ++ allB a.2.2.2.1 else []
def stepM (m : List Bool) (a : Act) : List Bool := m ++ added m a

theorem added_len (m : List Bool) (a : Act) (h : a.2.2.2.1.size ≤ 60) : (added m a).length ≤ 500 := by
  have := clampN_le a.2.1
  have h1 := putB_length a.2.1 a.2.2.1
  have h2 := allB_length a.2.2.2.1
  unfold added
  split
  · omega
  · split
    · rw [List.length_reverse]; omega
    · split
      · rw [List.length_append, List.length_replicate]; unfold padN; omega
      · simp

theorem fold_prefix : ∀ (l : List Act) (m : List Bool), ∃ r, l.foldl stepM m = m ++ r
  | [], m => ⟨[], by simp⟩
  | a :: l, m => by
    obtain ⟨r, h⟩ := fold_prefix l (stepM m a)
    exact ⟨added m a ++ r, by rw [List.foldl_cons, h]; unfold stepM; rw [List.append_assoc]⟩

def upTo (l : List Act) (i : Nat) : List Bool := (l.take i).foldl stepM []

theorem upTo_succ (l : List Act) (i : Nat) (h : i < l.length) : upTo l (i + 1) = stepM (upTo l i) l[i] := by
  unfold upTo
  rw [List.take_add_one, List.foldl_append, List.getElem?_eq_getElem h]
  rfl
theorem upTo_all (l : List Act) (i : Nat) : ∃ r, upTo l l.length = upTo l i ++ r := by
  obtain ⟨r, h⟩ := fold_prefix (l.drop i) (upTo l i)
  refine ⟨r, ?_⟩
  rw [← h]
  unfold upTo
  rw [← List.foldl_append, List.take_append_drop, List.take_length]

theorem law7_writes (tail : ByteArray) (l : List Act) (hl : l.length ≤ 60) (hS : ∀ (j : Nat) (a : Act), l[j]? = some a → a.2.2.2.1.size ≤ 60) : ∀ (d i f : Nat), i + d = l.length → d < f → (upTo l i).length ≤ 500 * i →
    F7_1018 100000 f ((i : Int), true, tail, l, lastF (upTo l i), nF (upTo l i), bF (upTo l i)) = some (tail, true, l, lastF (upTo l l.length), nF (upTo l l.length), bF (upTo l l.length)) ∧ (upTo l l.length).length ≤ 500 * l.length := by
  intro d
  induction d with
  | zero =>
    intro i f hi hf hm
    cases f with
    | zero => omega
    | succ f =>
      simp only [F7_1018, B7_1018]
      rw [if_neg (by simp only [decide_eq_true_eq]; omega), show l.length = i by omega]
      exact ⟨rfl, hm⟩
  | succ d ih =>
    intro i f hi hf hm
    cases f with
    | zero => omega
    | succ f =>
      simp only [F7_1018, B7_1018, clamp_eq]
      have hli : l[i]? = some l[i] := List.getElem?_eq_getElem (by omega)
      have hs := hS i _ hli
      have ha := added_len (upTo l i) l[i] hs
      have hu := upTo_succ l i (by omega)
      have hlen : (upTo l (i + 1)).length ≤ 500 * (i + 1) := by rw [hu]; unfold stepM; rw [List.length_append]; omega
      have fin := ih (i + 1) f (by omega) (by omega) hlen
      refine ⟨?_, fin.2⟩
      have fin := fin.1
      rw [hu] at fin
      unfold stepM added at fin
      rw [if_pos (by simp only [decide_eq_true_eq]; omega), if_pos (by unfold within; simp only [decide_eq_true_eq]; omega), Int.toNat_natCast, hli, Option.bind_some]
      generalize l[i] = a at *
      obtain ⟨K, n, v, s, u⟩ := a
      simp only at fin hs ⊢
      have hw : IntKind.wrap .i64 ((i : Int) + 1) = ((i + 1 : Nat) : Int) := by rw [wrap_i64 (by omega) (by omega)]; omega
      rw [hw]
      by_cases h0 : Int.tmod K 3 = 0
      · rw [if_pos (by simpa using h0), F10_bits (by decide) _ (by omega), Option.bind_some, putB_clamp]
        rw [if_pos h0] at fin
        rw [fin, Option.bind_some]
      rw [if_neg (by simpa using h0)]
      rw [if_neg h0] at fin
      by_cases h1 : Int.tmod K 3 = 1
      · rw [if_pos (by simpa using h1)]
        rw [if_pos h1] at fin
        simp only [F17]
        rw [F9_rev, Option.bind_some, F10_bits (by decide) _ (by omega), Option.bind_some, Option.bind_some, revN_val, putB_clamp, putB_clamp]
        rw [putB_val n _ (by rw [List.length_reverse, putB_length]), fin, Option.bind_some]
      rw [if_neg (by simpa using h1)]
      rw [if_neg h1] at fin
      by_cases h2 : Int.tmod K 3 = 2
      · rw [if_pos (by simpa using h2), F21_bytes (by decide) _ (by omega) s (by omega), Option.bind_some]
        rw [if_pos h2, ← List.append_assoc] at fin
        unfold alignL
        rw [fin, Option.bind_some]
      rw [if_neg (by simpa using h2)]
      rw [if_neg h2, List.append_nil] at fin
      rw [fin, Option.bind_some]

theorem allB_strF (m : List Bool) : allB (strF m) = alignL m := by
  have h1 := allB_length (strF m)
  have h2 := strF_size m
  have h3 := alignL_length m
  apply List.ext_getElem?
  intro j
  by_cases h : j < 8 * (strF m).size
  · have e := sbits_eq (strF m) j 1 (by omega)
    have e2 : (allB (strF m))[j]? = some (sbit (strF m) j) := by
      have := congrArg (fun l : List Bool => l[0]?) e
      simp only [sbits, List.range_one, List.map_cons, List.map_nil, List.getElem?_cons_zero, Nat.add_zero] at this
      rw [List.getElem?_take_of_lt (by omega), List.getElem?_drop] at this
      exact this.symm
    rw [e2, sbit_strF]
    unfold alignL
    by_cases hj : j < m.length
    · rw [List.getElem?_append_left hj, List.getD, List.getElem?_eq_getElem hj]; rfl
    · rw [List.getElem?_append_right (by omega), List.getElem?_replicate, if_pos (by unfold padN; omega), List.getD, List.getElem?_eq_none (by omega)]; rfl
  · rw [List.getElem?_eq_none (by omega), List.getElem?_eq_none (by omega)]

theorem allB_append (a b : ByteArray) : allB (a ++ b) = allB a ++ allB b := by
  unfold allB
  rw [show (a ++ b).data.toList = a.data.toList ++ b.data.toList by simp, bitsOf_append]

theorem strF_allB (s : ByteArray) : strF (allB s) = s := by
  unfold allB; rw [strF_bitsOf]

theorem rd_here {P q r : List Bool} {n : Int} (h : q.length = clampN n) : rd (P ++ q ++ r) P.length 0 n = (val q, P.length + q.length, 0) := by
  unfold rd
  rw [if_pos rfl, if_pos (by simp; omega), List.append_assoc, List.drop_left, ← h, List.take_left' rfl]

/-- Bits one by one: the number of the bits the other way round. -/
theorem law7_bits (s : ByteArray) (hs : s.size ≤ 1000000) {P q r : List Bool} (hL : allB s = P ++ q ++ r) (hq : q.length ≤ 32) (c : Int) (hc : c = (q.length : Int)) (x2 : Int) (x3 : ByteArray) (x4 : Bool) (x5 : List Act) (x7 x8 x9 x10 x11 : Int) (x12 : ByteArray) (x16 : List Int) :
    ∀ (d k f : Nat), k + d = q.length → d < f →
    F7_268062442 100000 f ((val (q.take k).reverse : Int), (k : Int), x2, x3, x4, x5, c, x7, x8, x9, x10, x11, x12, s, ((P.length + k : Nat) : Int), 0, x16) =
      some ((val q.reverse : Int), c, x5, x4, x3, x2, x9, x10, x11, x12, s, ((P.length + q.length : Nat) : Int), 0, x7, x8, x16) := by
  have hal := allB_length s
  have hLl : (allB s).length = P.length + q.length + r.length := by rw [hL, List.length_append, List.length_append]
  intro d
  induction d with
  | zero =>
    intro k f hk hf
    cases f with
    | zero => omega
    | succ f =>
      simp only [F7_268062442, B7_268062442]
      rw [if_neg (by simp only [decide_eq_true_eq]; omega), show k = q.length by omega, List.take_length]
  | succ d ih =>
    intro k f hk hf
    cases f with
    | zero => omega
    | succ f =>
      simp only [F7_268062442, B7_268062442]
      have hr : rd (allB s) (P.length + k) 0 1 = (q[k].toNat, P.length + (k + 1), 0) := by
        have e : allB s = (P ++ q.take k) ++ [q[k]] ++ (q.drop (k + 1) ++ r) := by
          have hq' : q = q.take k ++ q[k] :: q.drop (k + 1) := by rw [← List.drop_eq_getElem_cons (by omega), List.take_append_drop]
          have h2 : P ++ q ++ r = P ++ (q.take k ++ q[k] :: q.drop (k + 1)) ++ r := by rw [← hq']
          rw [hL, h2]
          simp only [List.append_assoc, List.cons_append, List.nil_append]
        have hl : (P ++ q.take k).length = P.length + k := by rw [List.length_append, List.length_take]; omega
        have := rd_here (P := P ++ q.take k) (q := [q[k]]) (r := q.drop (k + 1) ++ r) (n := 1) rfl
        rw [← e, hl] at this
        rw [this]
        simp [val]; omega
      rw [if_pos (by simp only [decide_eq_true_eq]; omega), F13_rd (by decide) s (P.length + k) 0 1 (by omega) (by omega), Option.bind_some, hr]
      simp only
      have hv := val_lt (q.take k).reverse
      have hb : q[k].toNat ≤ 1 := by cases q[k] <;> decide
      have hp : 2 ^ ((q.take k).reverse).length ≤ 4294967296 := pow_le32 (by rw [List.length_reverse, List.length_take]; omega)
      have e1 : (q.take (k + 1)).reverse = q[k] :: (q.take k).reverse := by
        rw [List.take_add_one, List.getElem?_eq_getElem (by omega)]; simp
      have e2 : IntKind.wrap .i64 (IntKind.wrap .i64 ((val (q.take k).reverse : Int) * 2) + (q[k].toNat : Int)) = (val (q.take (k + 1)).reverse : Int) := by
        rw [e1, val, wrap_i64 (z := _ * 2) (by omega) (by omega), wrap_i64 (by omega) (by omega)]; omega
      rw [e2, wrap_i64 (by omega) (by omega), show ((k : Int) + 1) = ((k + 1 : Nat) : Int) by omega, ih (k + 1) f (by omega) (by omega), Option.bind_some]

theorem rdB_here {P t r : List Bool} {s : ByteArray} (h : t = List.replicate (padN P) false ++ allB s) (hg : gapN P.length = padN P) : rdB (P ++ t ++ r) P.length 0 (s.size : Int) = (s, P.length + t.length, 0) := by
  have hal := allB_length s
  have hl : t.length = padN P + 8 * s.size := by rw [h, List.length_append, List.length_replicate, hal]
  unfold rdB
  have h8 : (P ++ List.replicate (padN P) false).length = P.length + padN P := by simp
  rw [if_pos rfl, hg, Int.toNat_natCast, if_pos (by simp; omega), h, show P ++ (List.replicate (padN P) false ++ allB s) ++ r = (P ++ List.replicate (padN P) false) ++ (allB s ++ r) by simp only [List.append_assoc], ← h8, List.drop_left, ← hal, List.take_left' rfl, strF_allB, h8]
  simp; omega

theorem law7_reads (l : List Act) (hl : l.length ≤ 60) (hS : ∀ (j : Nat) (a : Act), l[j]? = some a → a.2.2.2.1.size ≤ 60) (S tail : ByteArray) (hS8 : S.size ≤ 1000000) (r0 : List Bool) (hL : allB S = upTo l l.length ++ r0) (x4 x5 : Int) (x9 : List Int) :
    ∀ (d i f : Nat), i + d = l.length → d < f →
    F7_4090 100000 f (tail, true, l, (i : Int), x4, x5, S, ((upTo l i).length : Int), 0, x9) = some (.inr (true, tail, x4, x5, S, ((upTo l l.length).length : Int), 0, x9)) := by
  have hal := allB_length S
  intro d
  induction d with
  | zero =>
    intro i f hi hf
    cases f with
    | zero => omega
    | succ f =>
      simp only [F7_4090, B7_4090]
      rw [if_neg (by simp only [decide_eq_true_eq]; omega), show l.length = i by omega]
  | succ d ih =>
    intro i f hi hf
    cases f with
    | zero => omega
    | succ f =>
      simp only [F7_4090, B7_4090, clamp_eq]
      have hli : l[i]? = some l[i] := List.getElem?_eq_getElem (by omega)
      have hs := hS i _ hli
      have hu := upTo_succ l i (by omega)
      obtain ⟨r1, hr1⟩ := upTo_all l (i + 1)
      have fin := ih (i + 1) f (by omega) (by omega)
      rw [if_pos (by simp only [decide_eq_true_eq]; omega), if_pos (by unfold within; simp only [decide_eq_true_eq]; omega), Int.toNat_natCast, hli, Option.bind_some]
      have hw : IntKind.wrap .i64 ((i : Int) + 1) = ((i + 1 : Nat) : Int) := by rw [wrap_i64 (by omega) (by omega)]; omega
      rw [hw]
      have hLL : allB S = upTo l i ++ added (upTo l i) l[i] ++ (r1 ++ r0) := by rw [hL, hr1, hu]; unfold stepM; simp only [List.append_assoc]
      rw [hu] at fin
      unfold stepM at fin
      have hlen : (allB S).length = (upTo l i).length + (added (upTo l i) l[i]).length + (r1 ++ r0).length := by rw [hLL]; simp only [List.length_append]
      generalize l[i] = a at *
      obtain ⟨K, n, v, s, u⟩ := a
      simp only at fin hs ⊢
      have hc := clampN_le n
      have hpl := putB_length n v
      by_cases h0 : Int.tmod K 3 = 0
      · have ad : added (upTo l i) (K, n, v, s, u) = putB n v := by unfold added; exact if_pos h0
        rw [ad] at hLL hlen fin
        have hrd := rd_here (P := upTo l i) (q := putB n v) (r := r1 ++ r0) (n := ((clampN n : Nat) : Int)) (by rw [clamp_clamp]; exact hpl)
        rw [← hLL] at hrd
        rw [if_pos (by simpa using h0), F13_rd (by decide) S _ 0 _ (by omega) (by omega), Option.bind_some, hrd]
        simp only
        rw [if_neg (by simp), low_eq hc, val_putB, if_neg (by simp)]
        rw [List.length_append] at fin
        rw [fin]
        rfl
      rw [if_neg (by simpa using h0)]
      by_cases h1 : Int.tmod K 3 = 1
      · have ad : added (upTo l i) (K, n, v, s, u) = (putB n v).reverse := by unfold added; rw [if_neg h0, if_pos h1]
        rw [ad] at hLL hlen fin
        have hb := law7_bits S hS8 hLL (by rw [List.length_reverse]; omega) ((clampN n : Nat) : Int) (by rw [List.length_reverse, hpl]) (i : Int) tail true l x4 x5 K n v s x9 (putB n v).reverse.length 0 100000 (by omega) (by rw [List.length_reverse]; omega)
        simp only [List.take_zero, List.reverse_nil, Nat.add_zero] at hb
        rw [show ((val [] : Nat) : Int) = 0 from rfl, show ((0 : Nat) : Int) = 0 from rfl] at hb
        rw [if_pos (by simpa using h1), hb, Option.bind_some]
        simp only
        rw [if_neg (by simp only [decide_eq_true_eq]; omega), low_eq hc, List.reverse_reverse, val_putB, if_neg (by simp), hw]
        rw [List.length_append] at fin
        rw [fin]
        rfl
      rw [if_neg (by simpa using h1)]
      by_cases h2 : Int.tmod K 3 = 2
      · have ad : added (upTo l i) (K, n, v, s, u) = List.replicate (padN (upTo l i)) false ++ allB s := by unfold added; rw [if_neg h0, if_neg h1, if_pos h2]
        rw [ad] at hLL hlen fin
        have hrd := rdB_here (P := upTo l i) (t := List.replicate (padN (upTo l i)) false ++ allB s) (r := r1 ++ r0) (s := s) rfl rfl
        rw [← hLL] at hrd
        rw [if_pos (by simpa using h2), F27_rdB S _ 0 _ (by omega) (by omega), Option.bind_some, hrd]
        simp only
        rw [if_neg (by simp)]
        rw [List.length_append] at fin
        rw [fin]
        rfl
      rw [if_neg (by simpa using h2)]
      have ad : added (upTo l i) (K, n, v, s, u) = [] := by unfold added; rw [if_neg h0, if_neg h1, if_neg h2]
      rw [ad, List.append_nil] at fin
      rw [fin]
      rfl

theorem law7 (l : List Act) (tail : ByteArray) : ∃ N, F7 N (l, tail) = some true := by
  refine ⟨100000, ?_⟩
  simp only [F7]
  rw [works8, Option.bind_some, if_neg (by decide)]
  rcases F15_over (N := 100000) (by decide) l with e | ⟨e, hl, hS⟩
  · rw [e, Option.bind_some, if_pos rfl]
  rw [e, Option.bind_some, if_neg (by decide)]
  by_cases ht : (60 : Int) < (tail.size : Int)
  · rw [if_pos (by simpa using ht)]
  rw [if_neg (by simpa using ht)]
  obtain ⟨hw, hlen⟩ := law7_writes tail l hl hS l.length 0 100000 (by omega) (by omega) (by simp [upTo])
  have u0 : upTo l 0 = [] := rfl
  rw [u0, show lastF [] = 0 from rfl, show nF [] = 0 from rfl, show bF [] = [] from rfl, show ((0 : Nat) : Int) = 0 from rfl] at hw
  rw [hw, Option.bind_some]
  simp only
  have hss := strF_size (upTo l l.length)
  rw [F12_string _ _ (by omega), Option.bind_some, if_neg (by simp only [decide_eq_true_eq]; omega)]
  simp only [F11]
  rw [Option.bind_some]
  simp only
  have hL : allB (strF (upTo l l.length) ++ tail) = upTo l l.length ++ (List.replicate (padN (upTo l l.length)) false ++ allB tail) := by
    rw [allB_append, allB_strF]; unfold alignL; rw [List.append_assoc]
  have hsz : (strF (upTo l l.length) ++ tail).size = (strF (upTo l l.length)).size + tail.size := ByteArray.size_append ..
  have hr := law7_reads l hl hS (strF (upTo l l.length) ++ tail) tail (by omega) _ hL (lastF (upTo l l.length)) (nF (upTo l l.length)) (bF (upTo l l.length)) l.length 0 100000 (by omega) (by omega)
  rw [u0, show (([] : List Bool).length : Int) = 0 from rfl, show ((0 : Nat) : Int) = 0 from rfl] at hr
  rw [hr, Option.bind_some]
  simp only
  have h29 : ∀ (s : ByteArray) (q : Nat) (e' : Int), F29 100000 (s, (q : Int), e', ()) = some (q : Int) := fun s q e' => rfl
  have h31 : ∀ (s : ByteArray) (q : Nat) (e' : Int), F31 100000 (s, (q : Int), e', ()) = some e' := fun s q e' => rfl
  rw [if_pos trivial, h29, Option.bind_some, F14_len _ _ (by omega), Option.bind_some, if_pos (by simp), h31, Option.bind_some, if_pos (by simp)]
  have hal := allB_length (strF (upTo l l.length) ++ tail)
  have hb := rdB_here (P := upTo l l.length) (t := List.replicate (padN (upTo l l.length)) false ++ allB tail) (r := []) (s := tail) rfl rfl
  rw [List.append_nil, ← hL] at hb
  have hl2 : (allB (strF (upTo l l.length) ++ tail)).length = (upTo l l.length).length + (List.replicate (padN (upTo l l.length)) false ++ allB tail).length := by rw [hL, List.length_append]
  rw [F27_rdB _ _ 0 _ (by omega) (by omega), Option.bind_some, hb]
  simp only
  rw [if_pos (by simp), F30_left _ _ _ _ (by omega) (by omega), Option.bind_some]
  rw [show 8 * (strF (upTo l l.length) ++ tail).size - ((upTo l l.length).length + (List.replicate (padN (upTo l l.length)) false ++ allB tail).length) = 0 by omega]
  rfl
end Go.Proofs.Ytgdacmcapbbilaa.Am
