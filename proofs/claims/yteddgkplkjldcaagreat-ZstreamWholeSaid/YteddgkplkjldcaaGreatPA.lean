/- Bits, codes and searches: what the seat's functions compute, in plain lists. -/
import Derived.Test.YteddgkplkjldcaaGreatSC
import Derived.Test.YteddgkplkjldcaaGreatSB
import Derived.Test.YteddgkplkjldcaaGreatAmC
set_option linter.unusedSimpArgs false
set_option linter.unusedVariables false
namespace Go.Proofs.YteddgkplkjldcaaGreat.Am
open Go.Am
theorem Oa : NY 200000 (ByteArray.mk #[97, 98, 99], false, ByteArray.mk #[]) = some (ByteArray.mk #[120, 156, 74, 76, 74, 6, 0, 0, 0, 255, 255], true, ByteArray.mk #[97, 98, 99]) := by kernel_rfl
theorem N9 : Zc 200000 (ByteArray.mk #[120, 156, 74, 76, 74, 6, 0, 0, 0, 255, 255], 9, false, ByteArray.mk #[], 0) = some (ByteArray.mk #[97, 98, 99], 0, true, ByteArray.mk #[97, 98, 99], 0) := by kernel_rfl
theorem N8 : NY 200000 (ByteArray.mk #[97, 98, 99, 97, 98, 99], true, ByteArray.mk #[97, 98, 99]) = some (ByteArray.mk #[130, 32, 0, 0, 0, 0, 255, 255], true, ByteArray.mk #[97, 98, 99, 97, 98, 99, 97, 98, 99]) := by kernel_rfl
theorem N7 : Zc 200000 (ByteArray.mk #[130, 32, 0, 0, 0, 0, 255, 255], 9, true, ByteArray.mk #[97, 98, 99], 0) = some (ByteArray.mk #[97, 98, 99, 97, 98, 99], 0, true, ByteArray.mk #[97, 98, 99, 97, 98, 99, 97, 98, 99], 0) := by kernel_rfl
theorem N6 : F39 200000 (ByteArray.mk #[97, 98, 99]) = some (ByteArray.mk #[120, 156, 75, 76, 74, 6, 0, 2, 77, 1, 39]) := by kernel_rfl
theorem N5 : F76 200000 (ByteArray.mk #[120, 156, 75, 76, 74, 6, 0, 2, 77, 1, 39, 120], 9) = some (ByteArray.mk #[97, 98, 99], 11, 0) := by kernel_rfl
theorem N4 : FV 200000 (ByteArray.mk #[120, 156]) = some 0 := by kernel_rfl
theorem N3 : FV 200000 (ByteArray.mk #[120, 157]) = some 100 := by kernel_rfl
theorem N2 : ByteArray.mk #[120, 156, 75, 76, 74, 6, 0, 2, 77, 1, 39] ++ ByteArray.mk #[120] = ByteArray.mk #[120, 156, 75, 76, 74, 6, 0, 2, 77, 1, 39, 120] := by kernel_rfl
theorem S3 : Ze 200000 () = some true := by
  simp only [Ze]
  rw [Oa, Option.bind_some, N9, Option.bind_some, N8, Option.bind_some]
  simp only
  rw [N7, Option.bind_some, N6, Option.bind_some]
  rw [N2, N5, Option.bind_some, N4, Option.bind_some, N3, Option.bind_some]
  kernel_rfl
theorem SC (N : Nat) (X : BitVec 64) : SD N (U X) = some (U (sI X)) := by
  simp only [SD, Vs, Zj, ofU, aq7, aq6, aq5, aq3, ac9, ac8, ar1, ar0, aq9, aq8, ad1, ad0, Option.bind_some, ae]
  rfl
def am (b : Int) : Nat := min b.toNat 32
theorem bk (b : Int) : am b ≤ 32 := Nat.min_le_right ..
theorem Fx (b : Int) : (if (32 : Int) < (if (0 : Int) > b then (0 : Int) else b) then (32 : Int) else if (0 : Int) > b then (0 : Int) else b) = (am b : Int) := by
  unfold am
  split <;> split at * <;> omega
theorem j5 (N : Nat) (b : Int) : Zb N b = some (am b : Int) := by
  show some _ = _
  rw [← Fx]
def cq (n : Nat) (v : Int) : Nat := (BitVec.ofInt 64 v).toNat % 2 ^ n
theorem tJ (n : Nat) (v : Int) : cq n v < 2 ^ n := Nat.mod_lt _ (Nat.pow_pos (by decide))
theorem lP {n : Nat} (h : n ≤ 32) : 2 ^ n ≤ 4294967296 := Nat.pow_le_pow_right (n := 2) (by decide) h
theorem TE {n : Nat} (hn : n ≤ 32) : IntKind.wrap .i64 ((1 : Int) * 2 ^ min (Int.toNat (n : Int)) 64) = ((2 ^ n : Nat) : Int) := by
  have := lP hn
  have h1 : min (Int.toNat (n : Int)) 64 = n := by simp; omega
  rw [h1, Int.one_mul, show ((2 : Int) ^ n) = ((2 ^ n : Nat) : Int) by simp]
  generalize 2 ^ n = k at *
  exact wrap_i64 (by omega) (by omega)
theorem Xr {n : Nat} (hn : n ≤ 32) (v : Int) : IntKind.wrap .i64 ((BitVec.toNat (BitVec.ofInt 64 v &&& BitVec.ofInt 64 (IntKind.wrap .i64 (IntKind.wrap .i64 ((1 : Int) * 2 ^ min (Int.toNat (n : Int)) 64) - 1))) : Nat) : Int) = (cq n v : Int) := by
  have hp := lP hn
  have hpos : 0 < 2 ^ n := Nat.pow_pos (by decide)
  have hw : IntKind.wrap .i64 (((2 ^ n : Nat) : Int) - 1) = ((2 ^ n : Nat) : Int) - 1 := by
    generalize 2 ^ n = k at *
    exact wrap_i64 (by omega) (by omega)
  rw [TE hn, hw]
  have e : BitVec.ofInt 64 (((2 ^ n : Nat) : Int) - 1) = BitVec.ofNat 64 (2 ^ n - 1) := by
    rw [show ((2 ^ n : Nat) : Int) - 1 = ((2 ^ n - 1 : Nat) : Int) by generalize 2 ^ n = k at *; omega]
    exact BitVec.ofInt_natCast ..
  have e2 : (BitVec.ofInt 64 v &&& BitVec.ofNat 64 (2 ^ n - 1)).toNat = cq n v := by
    rw [BitVec.toNat_and, BitVec.toNat_ofNat, Nat.mod_eq_of_lt (by omega), Nat.and_two_pow_sub_one_eq_mod]
    rfl
  rw [e, e2]
  have := tJ n v
  exact wrap_i64 (by omega) (by omega)
theorem Kz (N : Nat) {n : Nat} (hn : n ≤ 32) (v : Int) : F45 N ((n : Int), v) = some (cq n v : Int) := by
  show (if decide ((n : Int) < 0) = true then none else some _) = _
  rw [if_neg (by simp)]
  exact congrArg some (Xr hn v)
def EP (n : Nat) (L : Nat) : Nat := (sI (BitVec.ofNat 64 L)).toNat >>> (64 - n)
theorem Tn {n : Nat} (hn : n ≤ 32) (L : Nat) : EP n L < 2 ^ n := by
  unfold EP
  rw [Nat.shiftRight_eq_div_pow]
  apply Nat.div_lt_of_lt_mul
  rw [← Nat.pow_add, show 64 - n + n = 64 by omega]
  exact (sI _).isLt
theorem Pb {n : Nat} (hn : n ≤ 32) {L : Nat} (i : Nat) : (EP n L).testBit i = (decide (i < n) && L.testBit (n - 1 - i)) := by
  unfold EP
  rw [Nat.testBit_shiftRight]
  by_cases h : i < n
  · have := LV (BitVec.ofNat 64 L) (i := 64 - n + i) (by omega)
    rw [BitVec.getLsbD, BitVec.getLsbD] at this
    rw [this, BitVec.toNat_ofNat, Nat.testBit_mod_two_pow]
    have e : 63 - (64 - n + i) = n - 1 - i := by omega
    rw [e]
    simp [h]; omega
  · have : (sI (BitVec.ofNat 64 L)).getLsbD (64 - n + i) = false := BitVec.getLsbD_of_ge _ _ (by omega)
    rw [BitVec.getLsbD] at this
    rw [this]
    simp [h]
theorem U4 (N : Nat) (a b : Int) : F98 N (a, b) = some (EP (am b) (cq (am b) a) : Int) := by
  have hc := bk b
  have hp := lP hc
  have hl := tJ (am b) a
  simp only [F98, ae]
  rw [j5, Option.bind_some, Kz N hc, Option.bind_some]
  have e1 : IntKind.wrap .u64 ((cq (am b) a : Nat) : Int) = U (BitVec.ofNat 64 (cq (am b) a)) := by
    rw [wrap_u64]; unfold U
    rw [BitVec.toNat_ofNat]
    omega
  rw [e1, SC, Option.bind_some]
  have e2 : IntKind.wrap .i64 ((64 : Int) - (am b : Int)) = ((64 - am b : Nat) : Int) := by
    rw [wrap_i64 (by omega) (by omega)]; omega
  rw [e2, if_neg (by simp)]
  have e3 : min (Int.toNat ((64 - am b : Nat) : Int)) 64 = 64 - am b := by
    simp
  rw [e3, G6]
  congr 1
  have hr := Tn hc (cq (am b) a)
  have e4 : U (sI (BitVec.ofNat 64 (cq (am b) a)) >>> (64 - am b)) = (EP (am b) (cq (am b) a) : Int) := by
    unfold U EP
    rw [BitVec.toNat_ushiftRight]
  rw [e4]
  exact wrap_i64 (by omega) (by omega)
theorem ag1 (z : Int) : IntKind.wrap .i64 ((BitVec.toNat (BitVec.ofInt 64 z &&& BitVec.ofInt 64 1) : Nat) : Int) = z % 2 := by
  have e : (BitVec.ofInt 64 z &&& BitVec.ofInt 64 1).toNat = (z % 2).toNat := by
    rw [BitVec.toNat_and, show (BitVec.ofInt 64 1).toNat = 2 ^ 1 - 1 from rfl, Nat.and_two_pow_sub_one_eq_mod, BitVec.toNat_ofInt]
    omega
  rw [e]
  rw [wrap_i64 (by omega) (by omega)]
  omega
theorem TQ {n k : Nat} (hn : n ≤ 32) (hk : k < n) (a : Int) : (Int.fdiv a (2 ^ k)) % 2 = ((cq n a / 2 ^ k % 2 : Nat) : Int) := by
  have hpos : (0 : Int) < 2 ^ k := Int.pow_pos (by decide)
  rw [Int.fdiv_eq_ediv_of_nonneg _ (Int.le_of_lt hpos)]
  have hL : (cq n a : Int) = a % (2 ^ n : Int) := by
    unfold cq
    rw [BitVec.toNat_ofInt]
    have h64 : (2 ^ n : Int) ∣ (2 ^ 64 : Int) := by
      refine ⟨2 ^ (64 - n), ?_⟩
      rw [← Int.pow_add, show n + (64 - n) = 64 by omega]
    have hm : a % (2 ^ 64 : Int) % (2 ^ n : Int) = a % (2 ^ n : Int) := Int.emod_emod_of_dvd a h64
    rw [← hm]
    have hnn : 0 ≤ a % (2 ^ 64 : Int) := Int.emod_nonneg _ (by decide)
    rw [Int.natCast_emod, Int.toNat_of_nonneg (by simpa using hnn)]
    simp
  obtain ⟨m, hm⟩ : ∃ m : Int, a = (cq n a : Int) + 2 ^ k * (2 * m) := by
    refine ⟨2 ^ (n - k - 1) * (a / 2 ^ n), ?_⟩
    have e : (2 : Int) ^ k * (2 * (2 ^ (n - k - 1) * (a / 2 ^ n))) = 2 ^ n * (a / 2 ^ n) := by
      rw [← Int.mul_assoc, ← Int.mul_assoc, ← Int.pow_succ, ← Int.pow_add, show k + 1 + (n - k - 1) = n by omega]
    rw [e, hL]
    have := Int.emod_add_mul_ediv a (2 ^ n)
    omega
  have e2 : a / 2 ^ k = (cq n a : Int) / 2 ^ k + 2 * m := by
    rw [hm, Int.add_mul_ediv_left _ _ (by omega)]
    rw [← hm]
  rw [e2]
  have e3 : ((cq n a / 2 ^ k % 2 : Nat) : Int) = (cq n a : Int) / 2 ^ k % 2 := by simp
  rw [e3]
  omega
theorem Su (N : Nat) : ∀ (k : Nat) (r : List Bool) (b : List Int), r.length / 8 < k → b.length + r.length ≤ 140737488355328 →
    pf N k ((val r : Int), (r.length : Int), b) = some (aP r, nF r, b ++ bF r) := by
  intro k
  induction k with
  | zero => intro r b h; omega
  | succ k ih =>
    intro r b h hb
    simp only [pf, JG, ae]
    by_cases h8 : 8 ≤ r.length
    · rw [if_pos (by simp; omega), if_pos (by simp; omega)]
      have e1 : Int.fdiv (val r : Int) 256 = (val (r.drop 8) : Int) := by
        rw [Int.fdiv_eq_ediv_of_nonneg _ (by decide), ← AI r 8 h8]; simp
      have e2 : IntKind.wrap .i64 ((r.length : Int) - 8) = ((r.drop 8).length : Int) := by
        rw [wrap_i64 (by omega) (by omega), List.length_drop]; omega
      have e3 : IntKind.wrap .u8 (val r : Int) = (val (r.take 8) : Int) := by
        rw [wrap_u8, ← AH r 8 h8]; simp
      rw [e1, e2, e3, ih (r.drop 8) _ (by rw [List.length_drop]; omega) (by simp; omega)]
      have hk : r.length / 8 = (r.drop 8).length / 8 + 1 := by rw [List.length_drop]; omega
      have f1 : bF r = (val (r.take 8) : Int) :: bF (r.drop 8) := by
        unfold bF; rw [hk, aU]
      have f2 : cO r = cO (r.drop 8) := by
        unfold cO; rw [List.drop_drop, hk]; congr 1; omega
      have f3 : nF r = nF (r.drop 8) := by
        unfold nF; rw [List.length_drop]; congr 1; omega
      simp only [Option.bind_some, aP, f1, f2, f3, List.append_assoc, List.singleton_append]
    · rw [if_neg (by simp; omega)]
      have hk : r.length / 8 = 0 := by omega
      have f1 : bF r = [] := by unfold bF; rw [hk]; rfl
      have f2 : cO r = r := by unfold cO; rw [hk]; rfl
      have f3 : nF r = (r.length : Int) := by unfold nF; congr 1; omega
      simp only [aP, f1, f2, f3, List.append_nil]
def an (n v : Int) : List Bool := iO (am n) (cq (am n) v)
theorem bj {N : Nat} (hN : 6 ≤ N) (m : List Bool) (hm : m.length ≤ 1000000000) (n v : Int) :
    yk N (n, v, aP m, nF m, bF m) = some (aP (m ++ an n v), nF (m ++ an n v), bF (m ++ an n v)) := by
  have hc := bk n
  have hl := tJ (am n) v
  have hr := gW (cO m)
  have hrl := kq m
  have h8 : (cO m).length < 8 := by omega
  simp only [yk, ae]
  rw [j5, Option.bind_some, Kz N hc, Option.bind_some, if_neg (by unfold nF; simp only [decide_eq_true_eq]; omega)]
  have e1 : IntKind.wrap .i64 ((BitVec.toNat (BitVec.ofInt 64 (aP m) ||| BitVec.ofInt 64 (IntKind.wrap .i64 (((cq (am n) v : Nat) : Int) * 2 ^ min (Int.toNat (nF m)) 64))) : Nat) : Int) = (val (cO m ++ an n v) : Int) := by
    unfold aP nF
    rw [← hrl, Pp hr hl (by omega), val_append]
    unfold an
    rw [nf, Nat.mod_eq_of_lt hl]
  have e2 : IntKind.wrap .i64 (nF m + (am n : Int)) = ((cO m ++ an n v).length : Int) := by
    unfold nF an
    rw [wrap_i64 (by omega) (by omega), List.length_append, bM, hrl]; omega
  have hlen : (cO m ++ an n v).length < 40 := by
    unfold an; rw [List.length_append, bM]; omega
  have hb := BD m
  rw [e1, e2, Su N N _ _ (by omega) (by omega), Option.bind_some]
  obtain ⟨p1, p2, p3⟩ := parts m (an n v)
  simp only [aP, p1, p2, p3]
def yG (s : ByteArray) (j : Nat) : Bool := (s.data.toList.getD (j / 8) 0).toNat.testBit (j % 8)
def gl (s : ByteArray) (at_ k : Nat) : List Bool := (List.range k).map fun i => yG s (at_ + i)
theorem pC (s : ByteArray) (p k : Nat) : (gl s p k).length = k := by simp [gl]
theorem G9 (s : ByteArray) (p k : Nat) : gl s p (k + 1) = gl s p k ++ [yG s (p + k)] := by
  unfold gl; rw [List.range_succ, List.map_append]; rfl
theorem byte_at (s : ByteArray) (i : Nat) (h : i < s.size) : s[i]? = some (s.data.toList.getD i 0) := by
  have h' : i < s.data.toList.length := by simpa using h
  rw [getElem?_pos s i h]
  congr 1
  have h2 : i < s.data.size := h
  simp only [List.getD, ByteArray.getElem_eq_getElem_data, Array.getElem?_toList]
  rw [Array.getElem?_eq_getElem h2]; rfl
theorem lm (xs ys : List Int) : aI xs ++ aI ys = aI (xs ++ ys) := by
  unfold aI
  apply ByteArray.ext
  simp
theorem dL (xs : List Int) : (aI xs).size = xs.length := by
  unfold aI
  show (List.toArray _).size = _
  simp
def mh (m : List Bool) : List Int := aU ((m.length + 7) / 8) m
def cC (m : List Bool) : ByteArray := aI (mh m)
theorem eU (m : List Bool) : (cC m).size = (m.length + 7) / 8 := by
  unfold cC mh; rw [dL, kF]
theorem yc (N : Nat) (m : List Bool) (hm : m.length ≤ 1000000000) : YK N (bF m, aP m, nF m, ()) = some (cC m) := by
  simp only [YK, ae]
  have hb := BD m
  have hr := gW (cO m)
  rw [kq] at hr
  by_cases h : m.length % 8 = 0
  · rw [if_neg (by unfold nF; simp only [decide_eq_true_eq]; omega)]
    have : mh m = bF m := by unfold mh bF; congr 1; omega
    unfold cC; rw [this]
  · rw [if_pos (by unfold nF; simp only [decide_eq_true_eq]; omega)]
    have hp : 2 ^ (m.length % 8) ≤ 256 := Nat.pow_le_pow_right (n := 2) (by decide) (show m.length % 8 ≤ 8 by omega)
    have e : IntKind.wrap .u8 (aP m) = aP m := by
      rw [wrap_u8]; unfold aP; omega
    rw [if_neg (by rw [dL, dL]; simp only [decide_eq_true_eq, List.length_singleton]; omega), e, lm]
    have : mh m = bF m ++ [aP m] := by
      unfold mh bF aP cO
      rw [show (m.length + 7) / 8 = m.length / 8 + 1 by omega, sZ, List.take_of_length_le (by rw [List.length_drop]; omega)]
    unfold cC; rw [this]
theorem KB (N : Nat) (m : List Bool) (hm : m.length ≤ 1000000000) : Zh N (bF m, aP m, nF m, ()) = some (m.length : Int) := by
  simp only [Zh, ae]
  have hb := BD m
  have e : IntKind.wrap .i64 (IntKind.wrap .i64 ((8 : Int) * ((bF m).length : Int)) + nF m) = (m.length : Int) := by
    unfold nF
    rw [wrap_i64 (z := (8 : Int) * ((bF m).length : Int)) (by omega) (by omega), wrap_i64 (by omega) (by omega)]; omega
  rw [e]
theorem kG : ∀ (k : Nat) (m : List Bool) (i : Nat), i < k → (aU k m)[i]? = some ((val ((m.drop (8 * i)).take 8) : Nat) : Int)
  | 0, m, i, h => by omega
  | k + 1, m, 0, h => by simp [aU]
  | k + 1, m, i + 1, h => by
    rw [aU, List.getElem?_cons_succ, kG k _ i (by omega), List.drop_drop, show 8 + 8 * i = 8 * (i + 1) by omega]
theorem LP (m : List Bool) (j : Nat) : yG (cC m) j = m.getD j false := by
  unfold yG
  have hd : (cC m).data.toList = (mh m).map fun n => UInt8.ofNat n.toNat := by unfold cC aI; simp
  rw [hd]
  by_cases h : j / 8 < (m.length + 7) / 8
  · have e : ((mh m).map fun n => UInt8.ofNat n.toNat).getD (j / 8) 0 = UInt8.ofNat (val ((m.drop (8 * (j / 8))).take 8)) := by
      unfold mh
      rw [List.getD, List.getElem?_map, kG _ _ _ h]
      simp
    have hv := gW ((m.drop (8 * (j / 8))).take 8)
    have hp : 2 ^ ((m.drop (8 * (j / 8))).take 8).length ≤ 256 := Nat.pow_le_pow_right (n := 2) (by decide) (show _ ≤ 8 by rw [List.length_take]; omega)
    rw [e, UInt8.toNat_ofNat', Nat.mod_eq_of_lt (by show _ < 256; omega), pm, List.getD, List.getElem?_take_of_lt (by omega), List.getElem?_drop, show 8 * (j / 8) + j % 8 = j by omega]
    rfl
  · have e : ((mh m).map fun n => UInt8.ofNat n.toNat).getD (j / 8) 0 = 0 := by
      unfold mh
      rw [List.getD, List.getElem?_eq_none (by rw [List.length_map, kF]; omega)]; rfl
    rw [e, List.getD, List.getElem?_eq_none (by omega)]
    simp
theorem al (n v : Int) : (an n v).length = am n := by simp [an]
theorem uq (n v : Int) : val (an n v) = cq (am n) v := by
  unfold an
  rw [nf, Nat.mod_eq_of_lt (tJ _ _)]
theorem fa (n L i : Nat) : (iO n L)[i]? = if i < n then some (L.testBit i) else none := by
  unfold iO
  by_cases h : i < n
  · simp [h]
  · simp [h]
theorem si (N : Nat) (b : Int) : F50 N b = some (am b : Int) := by
  show some _ = _
  rw [← Fx]
theorem Qh (v : Int) (i : Nat) : Int.fdiv (Int.fdiv v (2 ^ i)) 2 = Int.fdiv v (2 ^ (i + 1)) := by
  have h : (0 : Int) ≤ 2 ^ i := Int.pow_nonneg (by decide)
  rw [Int.fdiv_eq_ediv_of_nonneg _ (by decide), Int.fdiv_eq_ediv_of_nonneg _ h, Int.fdiv_eq_ediv_of_nonneg _ (Int.pow_nonneg (by decide)), Int.ediv_ediv_of_nonneg h, Int.pow_succ]
theorem XC {n i : Nat} (hn : n ≤ 32) (hi : i < n) (v : Int) :
    (IntKind.wrap .i64 ((BitVec.toNat (BitVec.ofInt 64 (Int.fdiv v (2 ^ i)) &&& BitVec.ofInt 64 1) : Nat) : Int) == 1) = (cq n v).testBit i := by
  rw [ag1, TQ hn hi, Nat.testBit_eq_decide_div_mod_eq]
  have := Nat.mod_two_eq_zero_or_one (cq n v / 2 ^ i)
  generalize cq n v / 2 ^ i % 2 = q at *
  rcases this with rfl | rfl <;> rfl
theorem Sk (N : Nat) (n v : Int) : ∀ (d i f : Nat), i + d = am n → d < f → mQ N f (Int.fdiv v (2 ^ i), (i : Int), n, (an n v).take i) = some (an n v) := by
  have hc := bk n
  have hl := al n v
  intro d
  induction d with
  | zero =>
    intro i f hi hf
    cases f with
    | zero => omega
    | succ f =>
      simp only [mQ, D3, ae]
      rw [si, Option.bind_some, if_neg (by simp; omega), List.take_of_length_le (by omega)]
  | succ d ih =>
    intro i f hi hf
    cases f with
    | zero => omega
    | succ f =>
      simp only [mQ, D3, ae]
      rw [si, Option.bind_some, if_pos (by simp; omega), if_pos (by simp; omega), Qh, XC hc (by omega), wrap_i64 (by omega) (by omega)]
      have e : (an n v).take i ++ [(cq (am n) v).testBit i] = (an n v).take (i + 1) := by
        rw [List.take_add_one]
        unfold an
        rw [fa, if_pos (by omega)]; rfl
      rw [e, show ((i : Int) + 1) = ((i + 1 : Nat) : Int) by omega, ih (i + 1) f (by omega) (by omega), Option.bind_some]
theorem YL {N : Nat} (hN : 33 ≤ N) (n v : Int) : F17 N (n, v) = some (an n v) := by
  have hc := bk n
  simp only [F17, ae]
  have h := Sk N n v (am n) 0 N (by omega) (by omega)
  simp only [Int.pow_zero, Int.fdiv_one, List.take_zero] at h
  rw [show ((0 : Nat) : Int) = 0 from rfl] at h
  rw [h, Option.bind_some]
theorem RU (N : Nat) (l : List Bool) (hl : l.length ≤ 62) : ∀ (i f : Nat), i ≤ l.length → i < f → mL N f ((val (l.drop i) : Int), (i : Int) - 1, l) = some (val l : Int) := by
  intro i
  induction i with
  | zero =>
    intro f _ hf
    cases f with
    | zero => omega
    | succ f =>
      simp only [mL, DY, ae]
      rw [if_neg (by simp)]
      rfl
  | succ i ih =>
    intro f hi hf
    cases f with
    | zero => omega
    | succ f =>
      simp only [mL, DY, ae]
      have hv := gW (l.drop (i + 1))
      rw [List.length_drop] at hv
      have hp : 2 ^ (l.length - (i + 1)) ≤ 2305843009213693952 := Nat.pow_le_pow_right (n := 2) (by decide) (show _ ≤ 61 by omega)
      have e0 : (((i + 1 : Nat) : Int) - 1) = (i : Int) := by omega
      have hd : l.drop i = l[i] :: l.drop (i + 1) := List.drop_eq_getElem_cons (by omega)
      rw [e0, if_pos (by simp), if_pos (by unfold within; simp; omega), Int.toNat_natCast, List.getElem?_eq_getElem (by omega), Option.bind_some, wrap_i64 (z := (val (l.drop (i + 1)) : Int) * 2) (by omega) (by omega)]
      rw [wrap_i64 (z := (val (l.drop (i + 1)) : Int) * 2 + 1) (by omega) (by omega), wrap_i64 (z := (i : Int) - 1) (by omega) (by omega)]
      have ih' := ih f (by omega) (by omega)
      rw [hd, val] at ih'
      cases hb : l[i] with
      | true =>
        rw [hb] at ih'
        rw [if_pos rfl]
        rw [show (val (l.drop (i + 1)) : Int) * 2 + 1 = ((true.toNat + 2 * val (l.drop (i + 1)) : Nat) : Int) by simp; omega, ih', Option.bind_some]
      | false =>
        rw [hb] at ih'
        rw [if_neg (by simp)]
        rw [show (val (l.drop (i + 1)) : Int) * 2 = ((false.toNat + 2 * val (l.drop (i + 1)) : Nat) : Int) by simp; omega, ih', Option.bind_some]
theorem yb {N : Nat} (l : List Bool) (hl : l.length ≤ 62) (hN : 63 ≤ N) : YG N l = some (val l : Int) := by
  simp only [YG, ae]
  have h := RU N l hl l.length N (Nat.le_refl _) (by omega)
  rw [List.drop_length, show (val [] : Int) = 0 from rfl] at h
  rw [wrap_i64 (by omega) (by omega), h, Option.bind_some]
theorem O9 (n v : Int) : EP (am n) (cq (am n) v) = val (an n v).reverse := by
  have hc := bk n
  apply Nat.eq_of_testBit_eq
  intro i
  rw [Pb hc, pm]
  have hl := al n v
  by_cases h : i < am n
  · rw [List.getD, List.getElem?_reverse (by omega), hl]
    unfold an
    rw [fa, if_pos (by omega)]
    simp [h]
  · rw [List.getD, List.getElem?_eq_none (by rw [List.length_reverse]; omega)]
    simp [h]
def bz (m : List Bool) : Nat := (8 - m.length % 8) % 8
def aV (m : List Bool) : List Bool := m ++ List.replicate (bz m) false
theorem c8 (m : List Bool) : (aV m).length = 8 * ((m.length + 7) / 8) := by
  unfold aV bz; rw [List.length_append, List.length_replicate]; omega
theorem RV (N : Nat) : ∀ (d : Nat) (m : List Bool) (f : Nat), bz m = d → d < f → m.length ≤ 1000000000 → mM N f m = some (aV m) := by
  intro d
  induction d with
  | zero =>
    intro m f hd hf hm
    cases f with
    | zero => omega
    | succ f =>
      simp only [mM, DZ, ae]
      have : m.length % 8 = 0 := by unfold bz at hd; omega
      rw [if_neg (by rw [Int.tmod_eq_emod_of_nonneg (by omega)]; simp; omega)]
      unfold aV; rw [hd]; simp
  | succ d ih =>
    intro m f hd hf hm
    cases f with
    | zero => omega
    | succ f =>
      simp only [mM, DZ, ae]
      have h8 : m.length % 8 ≠ 0 := by unfold bz at hd; omega
      have hp : bz (m ++ [false]) = d := by unfold bz at *; rw [List.length_append, List.length_singleton]; omega
      rw [if_pos (by rw [Int.tmod_eq_emod_of_nonneg (by omega)]; simp; omega), if_pos (by simp; omega), ih (m ++ [false]) f hp (by omega) (by simp; unfold bz at hd; omega), Option.bind_some]
      unfold aV
      rw [hp, hd, List.append_assoc, List.replicate_succ]
      rfl
theorem MQ {N : Nat} (hN : 8 ≤ N) (m : List Bool) (hm : m.length ≤ 1000000000) : F49 N m = some (aV m) := by
  simp only [F49, ae]
  rw [RV N _ m N rfl (by unfold bz; omega) hm, Option.bind_some]
theorem zM (k : Nat) (hk : k ≤ 32) : an (k : Int) 0 = List.replicate k false := by
  have c : am (k : Int) = k := by unfold am; omega
  unfold an cq
  rw [c]
  apply List.ext_getElem?
  intro i
  rw [fa, List.getElem?_replicate]
  simp
theorem Ap {N : Nat} (hN : 6 ≤ N) (m : List Bool) (hm : m.length ≤ 1000000000) : V7 N (aP m, nF m, bF m) = some (aP (aV m), nF (aV m), bF (aV m)) := by
  simp only [V7, ae]
  have e : Int.tmod (IntKind.wrap .i64 ((8 : Int) - nF m)) (8 : Int) = ((bz m : Nat) : Int) := by
    unfold nF
    rw [wrap_i64 (by omega) (by omega), Int.tmod_eq_emod_of_nonneg (by omega)]
    unfold bz; omega
  rw [e, bj hN m hm, Option.bind_some, zM _ (by unfold bz; omega)]
  rfl
theorem S4 : ∀ (l : List Bool) (k : Nat), val (l ++ List.replicate k false) = val l := by
  intro l k
  rw [val_append]
  have : val (List.replicate k false) = 0 := by
    induction k with
    | zero => rfl
    | succ k ih => rw [List.replicate_succ, val, ih]; rfl
  rw [this]; simp
theorem vW : ∀ (k : Nat) (m : List Bool) (j : Nat), aU k (m ++ List.replicate j false) = aU k m
  | 0, _, _ => rfl
  | k + 1, m, j => by
    rw [aU, aU]
    have e1 : val ((m ++ List.replicate j false).take 8) = val (m.take 8) := by
      rw [List.take_append, List.take_replicate, S4]
    have e2 : (m ++ List.replicate j false).drop 8 = m.drop 8 ++ List.replicate (j - (8 - m.length)) false := by
      rw [List.drop_append, List.drop_replicate]
    rw [e1, e2, vW k]
theorem HP (m : List Bool) : aU ((m.length + 7) / 8) (aV m) = mh m := vW _ _ _
theorem AN : aI [] = ByteArray.mk #[] := rfl
theorem Sj (N : Nat) (hN : 63 ≤ N) (q : List Bool) (k : Nat) (hq : q.length = 8 * k) (hk : k ≤ 100000000) : ∀ (d j f : Nat), j + d = k → d < f →
    iW N f (aI ((aU k q).take j), ((8 * j : Nat) : Int), q) = some (aI (aU k q)) := by
  have hlen := kF k q
  intro d
  induction d with
  | zero =>
    intro j f hj hf
    cases f with
    | zero => omega
    | succ f =>
      simp only [iW, ud, ae]
      rw [if_neg (by simp; omega), List.take_of_length_le (by omega)]
  | succ d ih =>
    intro j f hj hf
    cases f with
    | zero => omega
    | succ f =>
      simp only [iW, ud, ae]
      have e1 : IntKind.wrap .i64 (((8 * j : Nat) : Int) + 8) = ((8 * (j + 1) : Nat) : Int) := by
        rw [wrap_i64 (by omega) (by omega)]; omega
      rw [e1, if_pos (by simp; omega), if_pos (by simp; omega), if_pos (by simp; omega), Int.toNat_natCast, Int.toNat_natCast, show 8 * (j + 1) - 8 * j = 8 by omega]
      rw [yb _ (by rw [List.length_take, List.length_drop]; omega) hN, Option.bind_some]
      have hv := gW ((q.drop (8 * j)).take 8)
      have hp : 2 ^ ((q.drop (8 * j)).take 8).length ≤ 256 := Nat.pow_le_pow_right (n := 2) (by decide) (show _ ≤ 8 by rw [List.length_take]; omega)
      have e2 : IntKind.wrap .u8 (val ((q.drop (8 * j)).take 8) : Int) = (val ((q.drop (8 * j)).take 8) : Int) := by rw [wrap_u8]; omega
      rw [e2, if_neg (by rw [dL, dL, List.length_take]; simp; omega), lm]
      have e3 : (aU k q).take j ++ [(val ((q.drop (8 * j)).take 8) : Int)] = (aU k q).take (j + 1) := by
        rw [List.take_add_one (i := j), kG k q j (by omega)]; rfl
      rw [e3, ih (j + 1) f (by omega) (by omega), Option.bind_some]
theorem Si {N : Nat} (m : List Bool) (hm : m.length ≤ 700000) (hN : 100000 ≤ N) : Zg N m = some (cC m) := by
  simp only [Zg, ae]
  rw [if_pos (by simp; omega), MQ (by omega) m (by omega), Option.bind_some]
  have h := Sj N (by omega) (aV m) ((m.length + 7) / 8) (c8 m) (by omega) ((m.length + 7) / 8) 0 N (by omega) (by omega)
  simp only [List.take_zero, AN, Nat.mul_zero] at h
  rw [show ((0 : Nat) : Int) = 0 from rfl] at h
  rw [h, Option.bind_some, HP]
  rfl
def bitsOf (l : List UInt8) : List Bool := l.flatMap fun x => iO 8 x.toNat
def aQ (s : ByteArray) : List Bool := bitsOf s.data.toList
theorem dO : ∀ l : List UInt8, (bitsOf l).length = 8 * l.length
  | [] => rfl
  | x :: l => by
    unfold bitsOf
    rw [List.flatMap_cons, List.length_append, bM]
    have := dO l
    unfold bitsOf at this
    rw [this, List.length_cons]; omega
theorem aJ (s : ByteArray) : (aQ s).length = 8 * s.size := by
  unfold aQ; rw [dO]; simp
theorem fu (a b : List UInt8) : bitsOf (a ++ b) = bitsOf a ++ bitsOf b := List.flatMap_append
theorem LZ (x : UInt8) : an 8 (x.toNat : Int) = iO 8 x.toNat := by
  have c : am 8 = 8 := rfl
  have := x.toNat_lt
  unfold an cq
  rw [c, BitVec.ofInt_natCast, BitVec.toNat_ofNat, Nat.mod_eq_of_lt (show x.toNat < 2 ^ 64 by omega), Nat.mod_eq_of_lt (show x.toNat < 2 ^ 8 by omega)]
theorem Sd (N : Nat) (hN : 33 ≤ N) (s : ByteArray) (hs : s.size ≤ 1000000000) : ∀ (d i f : Nat), i + d = s.size → d < f → mP N f ((i : Int), s, bitsOf (s.data.toList.take i)) = some (aQ s) := by
  intro d
  have hsl : s.data.toList.length = s.size := by simp
  induction d with
  | zero =>
    intro i f hi hf
    cases f with
    | zero => omega
    | succ f =>
      simp only [mP, D2, ae]
      rw [if_neg (by simp; omega), List.take_of_length_le (by omega)]
      rfl
  | succ d ih =>
    intro i f hi hf
    cases f with
    | zero => omega
    | succ f =>
      simp only [mP, D2, ae]
      have hb := (s.data.toList.getD i 0).toNat_lt
      rw [if_pos (by simp; omega), if_pos (by simp), Int.toNat_natCast, byte_at s i (by omega), Option.bind_some, wrap_i64 (z := ((s.data.toList.getD i 0).toNat : Int)) (by omega) (by omega), YL hN, Option.bind_some, LZ]
      have hL := dO (s.data.toList.take i)
      rw [List.length_take] at hL
      rw [if_pos (by rw [hL, bM]; simp; omega), wrap_i64 (by omega) (by omega)]
      have e : bitsOf (s.data.toList.take i) ++ iO 8 (s.data.toList.getD i 0).toNat = bitsOf (s.data.toList.take (i + 1)) := by
        rw [List.take_add_one, fu, List.getElem?_eq_getElem (by omega), List.getD, List.getElem?_eq_getElem (by omega)]
        simp [bitsOf]
      rw [e, show ((i : Int) + 1) = ((i + 1 : Nat) : Int) by omega, ih (i + 1) f (by omega) (by omega), Option.bind_some]
theorem Vn {N : Nat} (s : ByteArray) (hs : s.size ≤ 70000) (hN : 100000 ≤ N) : F22 N s = some (aQ s) := by
  simp only [F22, ae]
  have h := Sd N (by omega) s (by omega) s.size 0 N (by omega) (by omega)
  rw [List.take_zero, show bitsOf [] = [] from rfl, show ((0 : Nat) : Int) = 0 from rfl] at h
  rw [h, Option.bind_some]
theorem KR (x : UInt8) : val (iO 8 x.toNat) = x.toNat := by
  have := x.toNat_lt
  rw [nf, Nat.mod_eq_of_lt (by omega)]
theorem ft : ∀ l : List UInt8, aU l.length (bitsOf l) = l.map fun x => (x.toNat : Int)
  | [] => rfl
  | x :: l => by
    have e : bitsOf (x :: l) = iO 8 x.toNat ++ bitsOf l := by unfold bitsOf; rw [List.flatMap_cons]
    rw [List.length_cons, aU, e, List.take_left' (bM ..), List.drop_left' (bM ..), KR, ft l]
    rfl
theorem toList_data (s : ByteArray) : s.toList = s.data.toList := by
  exact ByteArray.toList_eq s
theorem bG (s : ByteArray) : bytesOf s = s.data.toList.map fun x => (x.toNat : Int) := by
  unfold bytesOf; rw [toList_data]
abbrev Act := Int × (Int × (Int × (ByteArray × Unit)))
theorem lK {q : List Bool} (h : q.length % 8 = 0) : cO q = [] := by
  apply List.length_eq_zero_iff.1
  rw [kq]; exact h
theorem MR {N : Nat} (hN : 6 ≤ N) (m : List Bool) (hm : m.length ≤ 1000000000) (s : ByteArray) (hs : s.size ≤ 1000000000) :
    YH N (s, aP m, nF m, bF m) = some (aP (aV m ++ aQ s), nF (aV m ++ aQ s), bF (aV m ++ aQ s)) := by
  simp only [YH, ae]
  have hq := c8 m
  have hb := BD (aV m)
  have hbo : (bytesOf s).length = s.size := by rw [bG, List.length_map]; simp
  rw [Ap hN m hm, Option.bind_some, if_pos (by simp only [hb, hbo, decide_eq_true_eq]; omega)]
  obtain ⟨p1, p2, p3⟩ := parts (aV m) (aQ s)
  have hal := aJ s
  rw [lK (q := aV m) (by omega), List.nil_append] at p1 p2 p3
  have e1 : bF (aQ s) = bytesOf s := by
    unfold bF
    have hsl : s.data.toList.length = s.size := by simp
    rw [hal, show 8 * s.size / 8 = s.data.toList.length by omega, bG]
    exact ft _
  have e2 : cO (aQ s) = [] := lK (by omega)
  have e3 : nF (aV m) = nF (aQ s) := by unfold nF; congr 1; omega
  rw [p1, p3, e1]
  simp only [aP, p2, e2, lK (q := aV m) (by omega), e3]
theorem rC {m : List Bool} (h : m.length % 8 = 0) : aV m = m := by
  unfold aV
  rw [show bz m = 0 by unfold bz; omega]
  simp
theorem Pl (b : Bool) : an 1 (if b then 1 else 0) = [b] := by cases b <;> rfl
theorem Pj : an 2 0 = [false, false] := rfl
theorem KN {n : Nat} (h : n ≤ 65535) : IntKind.wrap .i64 ((BitVec.toNat (BitVec.ofInt 64 (n : Int) ^^^ BitVec.ofInt 64 65535) : Nat) : Int) = ((65535 - n : Nat) : Int) := by
  have e : BitVec.ofInt 64 (65535 : Int) = BitVec.ofNat 64 65535 := rfl
  rw [BitVec.ofInt_natCast, e, BitVec.toNat_xor, BitVec.toNat_ofNat, BitVec.toNat_ofNat, Nat.mod_eq_of_lt (by omega), Nat.mod_eq_of_lt (by decide)]
  have hx : n ^^^ 65535 = 65535 - n := by
    have h2 : (65535 : Nat) = 2 ^ 16 - 1 := rfl
    apply Nat.eq_of_testBit_eq
    intro i
    rw [Nat.testBit_xor, h2, Nat.testBit_two_pow_sub_one, show 2 ^ 16 - 1 - n = 2 ^ 16 - (n + 1) by omega, Nat.testBit_two_pow_sub_succ (by omega)]
    by_cases hi : i < 16
    · simp [hi]
    · have : n.testBit i = false := Nat.testBit_lt_two_pow (Nat.lt_of_lt_of_le (show n < 2 ^ 16 by omega) (Nat.pow_le_pow_right (by decide) (by omega)))
      simp [hi, this]
  rw [hx, wrap_i64 (by omega) (by omega)]
theorem kh (s : ByteArray) : (ByteArray.toList s == []) = decide (s.size = 0) := by
  have h : s.toList.length = s.size := by rw [toList_data]; simp
  cases hl : s.toList with
  | nil =>
    have : s.size = 0 := by rw [hl] at h; exact h.symm
    simp [this]
  | cons x l =>
    have : s.size ≠ 0 := by rw [hl, List.length_cons] at h; omega
    simp [this]
def cE (m : List Bool) (s : ByteArray) (b : Bool) : List Bool :=
  aV (m ++ [b, false, false]) ++ an 16 (s.size : Int) ++ an 16 ((65535 - s.size : Nat) : Int) ++ aQ s
theorem Mk (b : Bool) (m : List Bool) (hm : m.length ≤ 100000000) (k : Int) : RX 200000 (b, k, aP m, nF m, bF m) = some (aP (m ++ ([b] ++ an 2 k)), nF (m ++ ([b] ++ an 2 k)), bF (m ++ ([b] ++ an 2 k))) := by
  simp only [RX, ae]
  have h2 : (an 2 k).length = 2 := by rw [al]; rfl
  cases b with
  | true =>
    rw [if_pos rfl, bj (by decide) m (by omega), Option.bind_some, show an 1 1 = [true] from rfl, bj (by decide) _ (by simp; omega), Option.bind_some, List.append_assoc]
  | false =>
    rw [if_neg (by decide), bj (by decide) m (by omega), Option.bind_some, show an 1 0 = [false] from rfl, bj (by decide) _ (by simp; omega), Option.bind_some, List.append_assoc]
theorem uJ (m : List Bool) (s : ByteArray) (b : Bool) : (cE m s b).length ≤ m.length + 8 * s.size + 50 ∧ (cE m s b).length % 8 = 0 := by
  have h1 := c8 (m ++ [b, false, false])
  have h0 : (m ++ [b, false, false]).length = m.length + 3 := by simp
  have h2 := aJ s
  have p16 : ∀ v, (an 16 v).length = 16 := fun v => by rw [al]; rfl
  have h : (cE m s b).length = (aV (m ++ [b, false, false])).length + 16 + 16 + (aQ s).length := by
    unfold cE
    rw [List.length_append, List.length_append, List.length_append, p16, p16]
  omega
theorem G2 (s : ByteArray) (hs : s.size ≤ 65535) (b : Bool) (m : List Bool) (hm : m.length ≤ 100000000) : ∃ y1 y2 y3 : Int × Int × List Int,
    RX 200000 (b, 0, aP m, nF m, bF m) = some y1 ∧ V7 200000 (y1.1, y1.2.1, y1.2.2) = some y2 ∧ yk 200000 (16, (s.size : Int), y2.1, y2.2.1, y2.2.2) = some y3 ∧
    ∃ y4, yk 200000 (16, ((65535 - s.size : Nat) : Int), y3.1, y3.2.1, y3.2.2) = some y4 ∧ YH 200000 (s, y4.1, y4.2.1, y4.2.2) = some (aP (cE m s b), nF (cE m s b), bF (cE m s b)) := by
  have h1 := Mk b m hm 0
  rw [Pj] at h1
  have e : ([b] ++ [false, false]) = [b, false, false] := rfl
  rw [e] at h1
  have hl := c8 (m ++ [b, false, false])
  have hl0 : (m ++ [b, false, false]).length = m.length + 3 := by simp
  have p16 : ∀ v, (an 16 v).length = 16 := fun v => by rw [al]; rfl
  have ha : aV (aV (m ++ [b, false, false]) ++ an 16 (s.size : Int) ++ an 16 ((65535 - s.size : Nat) : Int)) = aV (m ++ [b, false, false]) ++ an 16 (s.size : Int) ++ an 16 ((65535 - s.size : Nat) : Int) := rC (by
    simp only [List.length_append, p16, hl]; omega)
  have h5 := MR (N := 200000) (by decide) (aV (m ++ [b, false, false]) ++ an 16 (s.size : Int) ++ an 16 ((65535 - s.size : Nat) : Int)) (by
    simp only [List.length_append, p16, hl]; simp; omega) s (by omega)
  rw [ha] at h5
  exact ⟨_, _, _, h1, Ap (by decide) _ (by omega), bj (by decide) _ (by rw [hl]; omega) _ _, _, bj (by decide) _ (by rw [List.length_append, p16, hl]; omega) _ _, h5⟩
def dJ (p : List Int) : List Int := (List.range 16).map fun (l : Nat) => ((p.count (l : Int) : Nat) : Int)
theorem vU (p : List Int) : (dJ p).length = 16 := by simp [dJ]
theorem im (p : List Int) {k : Nat} (h : k < 16) : (dJ p)[k]? = some (p.count (k : Int) : Int) := by
  unfold dJ; rw [List.getElem?_map, List.getElem?_range h]; rfl
theorem Mv (p : List Int) {x : Nat} (hx : x < 16) : (dJ p).set x ((p.count (x : Int) : Int) + 1) = dJ (p ++ [(x : Int)]) := by
  apply List.ext_getElem?
  intro k
  by_cases hk : k < 16
  · rw [im _ hk, List.count_append]
    by_cases e : x = k
    · subst e
      rw [List.getElem?_set_self (by rw [vU]; exact hx)]
      simp
    · rw [List.getElem?_set_ne e, im _ hk, List.count_singleton]
      have : ((x : Int) == (k : Int)) = false := by simp; omega
      simp [this]
  · rw [List.getElem?_eq_none (by rw [List.length_set, vU]; omega), List.getElem?_eq_none (by rw [vU]; omega)]
def okB (lens : List Int) : Bool := lens.all fun x => decide (0 ≤ x) && decide (x ≤ 15)
theorem dV {lens : List Int} (h : okB lens = true) {i : Nat} (hi : i < lens.length) : 0 ≤ lens[i] ∧ lens[i] ≤ 15 := by
  have := List.all_eq_true.1 h _ (List.getElem_mem hi)
  simpa using this
theorem RA (N : Nat) (lens m : List Int) (hl : lens.length ≤ 320) : ∀ (d i f : Nat), i + d = lens.length → d < f →
    (okB (lens.drop i) = true → gy N f ((lens.length : Int), lens, (i : Int), dJ (lens.take i), m) = some (.inr (dJ lens, m))) ∧
    (okB (lens.drop i) = false → ∃ c, gy N f ((lens.length : Int), lens, (i : Int), dJ (lens.take i), m) = some (.inl (50, c))) := by
  intro d
  induction d with
  | zero =>
    intro i f hi hf
    cases f with
    | zero => omega
    | succ f =>
      have e : lens.drop i = [] := List.drop_eq_nil_of_le (by omega)
      rw [e]
      refine ⟨fun _ => ?_, fun h => by cases h⟩
      simp only [gy, tW, ae]
      rw [aY (by omega), List.take_of_length_le (by omega)]
  | succ d ih =>
    intro i f hi hf
    cases f with
    | zero => omega
    | succ f =>
      have hd : lens.drop i = lens[i] :: lens.drop (i + 1) := List.drop_eq_getElem_cons (by omega)
      have ih' := ih (i + 1) f (by omega) (by omega)
      have hw : IntKind.wrap .i64 ((i : Int) + 1) = ((i + 1 : Nat) : Int) := by rw [wrap_i64 (by omega) (by omega)]; omega
      have ht : lens.take (i + 1) = lens.take i ++ [lens[i]] := by rw [List.take_add_one, List.getElem?_eq_getElem (by omega)]; rfl
      have hok : okB (lens.drop i) = ((decide (0 ≤ lens[i]) && decide (lens[i] ≤ 15)) && okB (lens.drop (i + 1))) := by rw [hd]; rfl
      simp only [gy, tW, ae]
      rw [if_pos (show decide ((i : Int) < (lens.length : Int)) = true by simp only [decide_eq_true_eq]; omega), if_pos (show within (i : Int) lens.length = true by unfold within; simp only [decide_eq_true_eq]; omega), Int.toNat_natCast, List.getElem?_eq_getElem (show i < lens.length by omega), Option.bind_some]
      by_cases h1 : lens[i] < 0
      · have hf : okB (lens.drop i) = false := by rw [hok, decide_eq_false (show ¬ 0 ≤ lens[i] by omega)]; rfl
        rw [hf, if_pos (by simpa using h1)]
        exact ⟨fun h => (by cases h), fun _ => ⟨_, rfl⟩⟩
      by_cases h2 : lens[i] > 15
      · have hf : okB (lens.drop i) = false := by rw [hok, decide_eq_false (show ¬ lens[i] ≤ 15 by omega), Bool.and_false]; rfl
        rw [hf, if_neg (by simpa using h1), if_pos (by simpa using h2)]
        exact ⟨fun h => (by cases h), fun _ => ⟨_, rfl⟩⟩
      have hok2 : okB (lens.drop i) = okB (lens.drop (i + 1)) := by rw [hok, decide_eq_true (show 0 ≤ lens[i] by omega), decide_eq_true (show lens[i] ≤ 15 by omega)]; rfl
      obtain ⟨x, hx⟩ := Int.eq_ofNat_of_zero_le (show 0 ≤ lens[i] by omega)
      rw [hok2, if_neg (by simpa using h1), if_neg (by simpa using h2)]
      rw [ht] at ih'
      rw [hx] at ih' ⊢
      have hx16 : x < 16 := by omega
      have hcl : (lens.take i).count (x : Int) ≤ 320 := Nat.le_trans List.count_le_length (by rw [List.length_take]; omega)
      rw [if_pos (show within (x : Int) 16 = true by unfold within; simp only [decide_eq_true_eq]; omega), Int.toNat_natCast, im _ hx16, Option.bind_some, if_pos (show within (x : Int) 16 = true by unfold within; simp only [decide_eq_true_eq]; omega), Option.bind_some, hw, wrap_i64 (by omega) (by omega), Mv _ hx16]
      refine ⟨fun h => ?_, fun h => ?_⟩
      · rw [ih'.1 h]; rfl
      · obtain ⟨c, hc⟩ := ih'.2 h
        rw [hc]
        exact ⟨c, rfl⟩
def yL (lens : List Int) : Bool := decide (lens.length ≤ 320) && okB lens
theorem Qw : dJ [] = [0, 0, 0, 0, 0, 0, 0, 0, 0, 0, 0, 0, 0, 0, 0, 0] := rfl
theorem xT {N : Nat} (hN : 400 ≤ N) (lens : List Int) : ∃ c, YC N lens = some (c, bif yL lens then 0 else 50) ∧ (yL lens = true → c = dJ lens) := by
  unfold yL
  simp only [YC, ae]
  by_cases h : (320 : Int) < (lens.length : Int)
  · rw [if_pos (by simpa using h), decide_eq_false (show ¬ lens.length ≤ 320 by omega)]
    exact ⟨_, rfl, fun hh => by cases hh⟩
  · rw [if_neg (by simpa using h), decide_eq_true (show lens.length ≤ 320 by omega), Bool.true_and]
    have hl := RA N lens [0, 0, 0, 0, 0, 0, 0, 0, 0, 0, 0, 0, 0, 0, 0, 0] (by omega) lens.length 0 N (by omega) (by omega)
    rw [List.drop_zero, List.take_zero, Qw, show ((0 : Nat) : Int) = 0 from rfl] at hl
    cases hb : okB lens with
    | true =>
      rw [hl.1 hb, Option.bind_some]
      exact ⟨_, rfl, fun _ => rfl⟩
    | false =>
      obtain ⟨c, hc⟩ := hl.2 hb
      rw [hc, Option.bind_some]
      exact ⟨_, rfl, fun h => by cases h⟩
def lf (lens : List Int) : Nat → Int
  | 0 => 1
  | l + 1 => 2 * lf lens l - (lens.count ((l + 1 : Nat) : Int) : Int)
theorem PD (lens : List Int) (l k : Nat) (h : lf lens l < 0) : lf lens (l + k) < 0 := by
  induction k with
  | zero => exact h
  | succ k ih => rw [← Nat.add_assoc, lf]; omega
theorem VG (lens : List Int) : ∀ l, lf lens l ≤ 2 ^ l
  | 0 => by rw [lf]; decide
  | l + 1 => by
    have := VG lens l
    rw [lf, Int.pow_succ]
    omega
theorem RB (N : Nat) (lens : List Int) (hl : lens.length ≤ 320) : ∀ (d l f : Nat), l + d = 15 → d + 1 < f → 0 ≤ lf lens l →
    ∃ z, eK N f (lf lens l, 0, ((l + 1 : Nat) : Int), dJ lens) = some (if 0 ≤ lf lens 15 then (lf lens 15, 0) else (z, 50)) := by
  intro d
  induction d with
  | zero =>
    intro l f hi hf h0
    cases f with
    | zero => omega
    | succ f =>
      have : l = 15 := by omega
      subst this
      simp only [eK, nR, ae]
      refine ⟨0, ?_⟩
      rw [if_neg (by decide), if_pos h0]
  | succ d ih =>
    intro l f hi hf h0
    cases f with
    | zero => omega
    | succ f =>
      have hb := VG lens l
      have hp : (2 : Int) ^ l ≤ 32768 := by
        have : (2 : Nat) ^ l ≤ 2 ^ 15 := Nat.pow_le_pow_right (by decide) (by omega)
        have h2 : ((2 ^ l : Nat) : Int) ≤ ((2 ^ 15 : Nat) : Int) := Int.ofNat_le.2 this
        simpa using h2
      have hc : lens.count ((l + 1 : Nat) : Int) ≤ 320 := Nat.le_trans List.count_le_length hl
      have e : lf lens (l + 1) = 2 * lf lens l - (lens.count ((l + 1 : Nat) : Int) : Int) := rfl
      simp only [eK, nR, ae]
      rw [bd (by omega), if_pos (by simp), if_pos (show within ((l + 1 : Nat) : Int) 16 = true by unfold within; simp only [decide_eq_true_eq]; omega), Int.toNat_natCast, im _ (by omega), Option.bind_some, wrap_i64 (z := lf lens l * 2) (by omega) (by omega), wrap_i64 (z := lf lens l * 2 - _) (by omega) (by omega), wrap_i64 (z := ((l + 1 : Nat) : Int) + 1) (by omega) (by omega), show lf lens l * 2 - (lens.count ((l + 1 : Nat) : Int) : Int) = lf lens (l + 1) by rw [e]; omega]
      by_cases hneg : lf lens (l + 1) < 0
      · rw [if_pos (by simpa using hneg)]
        have h15 : lf lens 15 < 0 := by
          have := PD lens (l + 1) (15 - (l + 1)) hneg
          rwa [show l + 1 + (15 - (l + 1)) = 15 by omega] at this
        cases f with
        | zero => omega
        | succ f =>
          simp only [eK, nR, ae]
          refine ⟨lf lens (l + 1), ?_⟩
          rw [if_neg (show ¬ 0 ≤ lf lens 15 by omega)]
          split <;> rfl
      · rw [if_neg (by simpa using hneg)]
        obtain ⟨z, hz⟩ := ih (l + 1) f (by omega) (by omega) (by omega)
        rw [show ((l + 1 : Nat) : Int) + 1 = ((l + 1 + 1 : Nat) : Int) by omega, hz]
        exact ⟨z, rfl⟩
def chk (lens : List Int) : Int × Int := if yL lens = true ∧ 0 ≤ lf lens 15 then (lf lens 15, 0) else (0, 50)
theorem Kv {N : Nat} (hN : 400 ≤ N) (lens : List Int) : Y3 N lens = some (chk lens) := by
  obtain ⟨c, hc, hcc⟩ := xT hN lens
  unfold chk
  simp only [Y3, ae]
  rw [hc, Option.bind_some]
  simp only
  cases hok : yL lens with
  | false =>
    rw [if_neg (by simp)]
    simp only [cond_false]
    cases N with
    | zero => omega
    | succ N =>
      simp only [eK, nR, ae]
      rw [if_pos (by decide), if_neg (by decide), Option.bind_some, if_pos (by decide)]
  | true =>
    rw [hcc hok]
    simp only [cond_true]
    have hl : lens.length ≤ 320 := by
      unfold yL at hok
      simp only [Bool.and_eq_true, decide_eq_true_eq] at hok
      exact hok.1
    obtain ⟨z, hz⟩ := RB N lens hl 15 0 N (by omega) (by omega) (by rw [lf]; decide)
    have hz : eK N N (1, 0, 1, dJ lens) = _ := hz
    rw [hz, Option.bind_some]
    by_cases h : 0 ≤ lf lens 15
    · have e1 : (if 0 ≤ lf lens 15 then (lf lens 15, (0 : Int)) else (z, 50)) = (lf lens 15, 0) := if_pos h
      have e2 : (if (True ∧ 0 ≤ lf lens 15) then (lf lens 15, (0 : Int)) else (0, 50)) = (lf lens 15, 0) := if_pos ⟨trivial, h⟩
      rw [e1, e2]
      rfl
    · have e1 : (if 0 ≤ lf lens 15 then (lf lens 15, (0 : Int)) else (z, 50)) = (z, 50) := if_neg h
      have e2 : (if (True ∧ 0 ≤ lf lens 15) then (lf lens 15, (0 : Int)) else (0, 50)) = (0, 50) := if_neg fun hh => h hh.2
      rw [e1, e2]
      rfl
theorem Rz (N : Nat) (k : Nat) (hk : k ≤ 60) : ∀ (d i f : Nat), i + d = k → d < f → mE N f ((2 : Int) ^ i, (i : Int), (k : Int)) = some ((2 : Int) ^ k) := by
  intro d
  induction d with
  | zero =>
    intro i f hi hf
    cases f with
    | zero => omega
    | succ f =>
      simp only [mE, DK, ae]
      rw [aY (by omega), show i = k by omega]
  | succ d ih =>
    intro i f hi hf
    cases f with
    | zero => omega
    | succ f =>
      have hp : (2 : Int) ^ i ≤ 1152921504606846976 := by
        have : (2 : Nat) ^ i ≤ 2 ^ 60 := Nat.pow_le_pow_right (by decide) (by omega)
        have h2 : ((2 ^ i : Nat) : Int) ≤ ((2 ^ 60 : Nat) : Int) := Int.ofNat_le.2 this
        simpa using h2
      have hp0 : (0 : Int) < 2 ^ i := Int.pow_pos (by decide)
      simp only [mE, DK, ae]
      rw [bd (by omega), wrap_i64 (z := 2 ^ i * 2) (by omega) (by omega), wrap_i64 (by omega) (by omega), ← Int.pow_succ, show ((i : Int) + 1) = ((i + 1 : Nat) : Int) by omega, ih (i + 1) f (by omega) (by omega), Option.bind_some]
theorem Ku {N : Nat} (hN : 61 < N) (k : Nat) (hk : k ≤ 60) : Y0 N (k : Int) = some ((2 : Int) ^ k) := by
  simp only [Y0, ae]
  have := Rz N k hk k 0 N (by omega) (by omega)
  rw [Int.pow_zero, show ((0 : Nat) : Int) = 0 from rfl] at this
  rw [this, Option.bind_some]
def dU : List Int → Int
  | [] => 0
  | x :: l => (if 0 < x then (2 : Int) ^ (15 - x).toNat else 0) + dU l
theorem lz : ∀ a b : List Int, dU (a ++ b) = dU a + dU b
  | [], b => by simp [dU]
  | x :: a, b => by rw [List.cons_append, dU, dU, lz a b]; omega
theorem JI : ∀ l : List Int, 0 ≤ dU l ∧ dU l ≤ 32768 * l.length
  | [] => by simp [dU]
  | x :: l => by
    have := JI l
    rw [dU]
    have hp : 0 < x → (2 : Int) ^ (15 - x).toNat ≤ 32768 := fun hx => by
      have : (2 : Nat) ^ (15 - x).toNat ≤ 2 ^ 15 := Nat.pow_le_pow_right (by decide) (by omega)
      have h2 : ((2 ^ (15 - x).toNat : Nat) : Int) ≤ ((2 ^ 15 : Nat) : Int) := Int.ofNat_le.2 this
      simpa using h2
    have hp0 : (0 : Int) < 2 ^ (15 - x).toNat := Int.pow_pos (by decide)
    simp only [List.length_cons]
    split
    · have := hp (by assumption)
      omega
    · omega
theorem RQ (N : Nat) (hN : 100 ≤ N) (lens : List Int) (hl : lens.length ≤ 320) : ∀ (d i f : Nat), i + d = lens.length → d < f →
    (okB (lens.drop i) = true → gD N f (lens, (i : Int), 32768 - dU (lens.take i)) = some (.inr (32768 - dU lens))) ∧
    (okB (lens.drop i) = false → gD N f (lens, (i : Int), 32768 - dU (lens.take i)) = some (.inl (0, 50))) := by
  intro d
  induction d with
  | zero =>
    intro i f hi hf
    cases f with
    | zero => omega
    | succ f =>
      have e : lens.drop i = [] := List.drop_eq_nil_of_le (by omega)
      rw [e]
      refine ⟨fun _ => ?_, fun h => by cases h⟩
      simp only [gD, t6, ae]
      rw [aY (by omega), List.take_of_length_le (by omega)]
  | succ d ih =>
    intro i f hi hf
    cases f with
    | zero => omega
    | succ f =>
      have hd : lens.drop i = lens[i] :: lens.drop (i + 1) := List.drop_eq_getElem_cons (by omega)
      have ih' := ih (i + 1) f (by omega) (by omega)
      have hw : IntKind.wrap .i64 ((i : Int) + 1) = ((i + 1 : Nat) : Int) := by rw [wrap_i64 (by omega) (by omega)]; omega
      have ht : lens.take (i + 1) = lens.take i ++ [lens[i]] := by rw [List.take_add_one, List.getElem?_eq_getElem (by omega)]; rfl
      have hok : okB (lens.drop i) = ((decide (0 ≤ lens[i]) && decide (lens[i] ≤ 15)) && okB (lens.drop (i + 1))) := by rw [hd]; rfl
      have hc : decide ((i : Int) < (lens.length : Int)) = true := by simp only [decide_eq_true_eq]; omega
      have hwi : within (i : Int) lens.length = true := by unfold within; simp only [decide_eq_true_eq]; omega
      have hg : lens[i]? = some lens[i] := List.getElem?_eq_getElem (by omega)
      simp only [gD, t6, hc, hwi, hg, Int.toNat_natCast, if_true, Option.bind_some, hw, ae]
      by_cases h1 : lens[i] < 0
      · have hf : okB (lens.drop i) = false := by rw [hok, decide_eq_false (show ¬ 0 ≤ lens[i] by omega)]; rfl
        rw [hf, if_pos (by simpa using h1)]
        exact ⟨fun h => (by cases h), fun _ => rfl⟩
      rw [if_neg (by simpa using h1)]
      by_cases h2 : lens[i] > 15
      · have hf : okB (lens.drop i) = false := by rw [hok, decide_eq_false (show ¬ lens[i] ≤ 15 by omega), Bool.and_false]; rfl
        rw [hf, if_pos (by simpa using h2)]
        exact ⟨fun h => (by cases h), fun _ => rfl⟩
      rw [if_neg (by simpa using h2)]
      have hok2 : okB (lens.drop i) = okB (lens.drop (i + 1)) := by rw [hok, decide_eq_true (show 0 ≤ lens[i] by omega), decide_eq_true (show lens[i] ≤ 15 by omega)]; rfl
      have htk : dU (lens.take (i + 1)) = dU (lens.take i) + (if 0 < lens[i] then (2 : Int) ^ (15 - lens[i]).toNat else 0) := by rw [ht, lz]; simp [dU]
      have tb := JI (lens.take i)
      have tl : (lens.take i).length ≤ 320 := by rw [List.length_take]; omega
      rw [hok2]
      rw [htk] at ih'
      by_cases h3 : 0 < lens[i]
      · rw [if_pos (by simpa using h3)]
        rw [if_pos h3] at ih'
        obtain ⟨k, hk⟩ := Int.eq_ofNat_of_zero_le (show 0 ≤ 15 - lens[i] by omega)
        have hpk : (2 : Int) ^ k ≤ 32768 := by
          have : (2 : Nat) ^ k ≤ 2 ^ 15 := Nat.pow_le_pow_right (by decide) (by omega)
          have h2 : ((2 ^ k : Nat) : Int) ≤ ((2 ^ 15 : Nat) : Int) := Int.ofNat_le.2 this
          simpa using h2
        have hp0 : (0 : Int) < 2 ^ k := Int.pow_pos (by decide)
        rw [hk, Int.toNat_natCast] at ih'
        rw [wrap_i64 (z := 15 - lens[i]) (by omega) (by omega), hk, Ku (by omega) k (by omega), Option.bind_some, wrap_i64 (by omega) (by omega), show 32768 - dU (lens.take i) - 2 ^ k = 32768 - (dU (lens.take i) + 2 ^ k) by omega]
        exact ⟨fun h => by rw [ih'.1 h]; rfl, fun h => by rw [ih'.2 h]; rfl⟩
      · rw [if_neg (by simpa using h3)]
        rw [if_neg h3, Int.add_zero] at ih'
        exact ⟨fun h => by rw [ih'.1 h]; rfl, fun h => by rw [ih'.2 h]; rfl⟩
def hJ (l : Nat) : List Int → Int
  | [] => 0
  | x :: r => (if 0 < x ∧ x ≤ (l : Int) then (2 : Int) ^ (15 - x).toNat else 0) + hJ l r
theorem sC (l : Nat) (hl : l < 15) : ∀ r : List Int, hJ (l + 1) r = hJ l r + (r.count ((l + 1 : Nat) : Int) : Int) * 2 ^ (15 - (l + 1))
  | [] => by simp [hJ]
  | x :: r => by
    rw [hJ, hJ, sC l hl r, List.count_cons]
    by_cases e : x = ((l + 1 : Nat) : Int)
    · subst e
      rw [if_pos (by omega), if_neg (by omega)]
      have : (15 - ((l + 1 : Nat) : Int)).toNat = 15 - (l + 1) := by omega
      rw [this]
      simp only [beq_self_eq_true, if_true, Int.natCast_add, Int.natCast_one, Int.add_mul, Int.one_mul, Int.zero_add]
      omega
    · have hb : (x == ((l + 1 : Nat) : Int)) = false := by simpa using e
      rw [hb]
      simp only [Bool.false_eq_true, if_false, Nat.add_zero]
      by_cases h : 0 < x ∧ x ≤ (l : Int)
      · rw [if_pos h, if_pos (by omega)]; omega
      · rw [if_neg h, if_neg (by omega)]; omega
theorem sA : ∀ r : List Int, hJ 0 r = 0
  | [] => rfl
  | x :: r => by rw [hJ, sA r, if_neg (by omega)]; rfl
theorem gZ : ∀ r : List Int, okB r = true → hJ 15 r = dU r
  | [], _ => rfl
  | x :: r, h => by
    have h' : (decide (0 ≤ x) && decide (x ≤ 15)) = true ∧ okB r = true := by
      unfold okB at h ⊢
      rw [List.all_cons, Bool.and_eq_true] at h
      exact h
    simp only [Bool.and_eq_true, decide_eq_true_eq] at h'
    rw [hJ, dU, gZ r h'.2]
    by_cases h0 : 0 < x
    · rw [if_pos h0, if_pos (by omega)]
    · rw [if_neg h0, if_neg (by omega)]
theorem pW (lens : List Int) : ∀ l, l ≤ 15 → lf lens l * 2 ^ (15 - l) = 32768 - hJ l lens
  | 0, _ => by rw [lf, sA]; decide
  | l + 1, h => by
    have ih := pW lens l (by omega)
    rw [sC l (by omega), lf, Int.sub_mul, Int.mul_assoc, Int.mul_comm 2, Int.mul_assoc, Int.mul_comm _ 2]
    have e : (2 : Int) ^ (15 - l) = 2 * 2 ^ (15 - (l + 1)) := by
      rw [show 15 - l = (15 - (l + 1)) + 1 by omega, Int.pow_succ, Int.mul_comm]
    rw [e] at ih
    omega
theorem Du {N : Nat} (hN : 400 ≤ N) (lens : List Int) : V4 N lens = some (chk lens) := by
  unfold chk yL
  simp only [V4, ae]
  by_cases h : (320 : Int) < (lens.length : Int)
  · rw [if_pos (by simpa using h), decide_eq_false (show ¬ lens.length ≤ 320 by omega)]
    rfl
  · rw [if_neg (by simpa using h), decide_eq_true (show lens.length ≤ 320 by omega), Bool.true_and]
    have hl := RQ N (by omega) lens (by omega) lens.length 0 N (by omega) (by omega)
    rw [List.drop_zero, List.take_zero, show dU [] = 0 from rfl, show ((0 : Nat) : Int) = 0 from rfl, show (32768 : Int) - 0 = 32768 from rfl] at hl
    cases hb : okB lens with
    | true =>
      rw [hl.1 hb, Option.bind_some]
      have e := pW lens 15 (by omega)
      rw [gZ lens hb] at e
      have e : lf lens 15 = 32768 - dU lens := by simpa using e
      simp only
      rw [← e]
      by_cases hn : lf lens 15 < 0
      · rw [if_pos (by simpa using hn), if_neg (by omega)]
      · rw [if_neg (by simpa using hn), if_pos ⟨trivial, by omega⟩]
    | false =>
      rw [hl.2 hb, Option.bind_some]
      rfl
abbrev qO := Int × (Int × Unit)
def first (lens : List Int) : Nat → Nat
  | 0 => 0
  | 1 => 0
  | l + 2 => 2 * (first lens (l + 1) + lens.count ((l + 1 : Nat) : Int))
theorem Ff (lens : List Int) (hl : lens.length ≤ 320) : ∀ l, first lens l + 640 ≤ 640 * 2 ^ l
  | 0 => by simp [first]
  | 1 => by simp [first]
  | l + 2 => by
    have := Ff lens hl (l + 1)
    have hc : lens.count ((l + 1 : Nat) : Int) ≤ 320 := Nat.le_trans List.count_le_length hl
    have hp : 1 ≤ 2 ^ l := Nat.one_le_two_pow
    rw [first]
    have e1 : 2 ^ (l + 1) = 2 * 2 ^ l := by rw [Nat.pow_succ]; omega
    have e2 : 2 ^ (l + 2) = 4 * 2 ^ l := by rw [Nat.pow_succ, e1]; omega
    rw [e1] at this
    rw [e2]
    generalize 2 ^ l = q at *
    omega
theorem fK (lens : List Int) (hl : lens.length ≤ 320) {l : Nat} (h : l ≤ 15) : first lens l ≤ 20971520 := by
  have h1 := Ff lens hl l
  have h2 : 2 ^ l ≤ 2 ^ 15 := Nat.pow_le_pow_right (by decide) h
  omega
def ap (lens : List Int) (i : Nat) : qO :=
  let x := lens.getD i 0
  if 0 < x then (((first lens x.toNat + (lens.take i).count x : Nat) : Int), x, ()) else (0, 0, ())
def af (lens : List Int) : List qO := (List.range lens.length).map (ap lens)
def jC (lens : List Int) (i : Nat) : List qO := (List.range lens.length).map fun j => if j < i then ap lens j else (0, 0, ())
theorem d8 (lens : List Int) (i : Nat) : (jC lens i).length = lens.length := by simp [jC]
theorem eW (lens : List Int) (i : Nat) {j : Nat} (h : j < lens.length) : (jC lens i)[j]? = some (if j < i then ap lens j else (0, 0, ())) := by
  unfold jC; rw [List.getElem?_map, List.getElem?_range h]; rfl
theorem Mb (lens : List Int) {i : Nat} (h : i < lens.length) : (jC lens i).set i (ap lens i) = jC lens (i + 1) := by
  apply List.ext_getElem?
  intro k
  by_cases hk : k < lens.length
  · rw [eW _ _ hk]
    by_cases e : i = k
    · subst e
      rw [List.getElem?_set_self (by rw [d8]; exact h), if_pos (by omega)]
    · rw [List.getElem?_set_ne e, eW _ _ hk]
      by_cases hlt : k < i
      · rw [if_pos hlt, if_pos (by omega)]
      · rw [if_neg hlt, if_neg (by omega)]
  · rw [List.getElem?_eq_none (by rw [List.length_set, d8]; omega), List.getElem?_eq_none (by rw [d8]; omega)]
theorem Hh (lens : List Int) {i : Nat} (h : i < lens.length) (h0 : ¬ 0 < lens[i]) : jC lens i = jC lens (i + 1) := by
  apply List.ext_getElem?
  intro k
  by_cases hk : k < lens.length
  · rw [eW _ _ hk, eW _ _ hk]
    by_cases e : k = i
    · subst e
      rw [if_neg (by omega), if_pos (by omega)]
      unfold ap
      have hg : lens.getD k 0 = lens[k] := by rw [List.getD, List.getElem?_eq_getElem h]; rfl
      rw [hg]
      simp only
      rw [if_neg h0]
    · by_cases hlt : k < i
      · rw [if_pos hlt, if_pos (by omega)]
      · rw [if_neg hlt, if_neg (by omega)]
  · rw [List.getElem?_eq_none (by rw [d8]; omega), List.getElem?_eq_none (by rw [d8]; omega)]
def Pv (lens : List Int) (i : Nat) : List Int := (List.range 16).map fun (k : Nat) => (((if k = 0 then 0 else first lens k + (lens.take i).count (k : Int)) : Nat) : Int)
theorem ny (lens : List Int) (i : Nat) : (Pv lens i).length = 16 := by simp [Pv]
theorem nz (lens : List Int) (i : Nat) {k : Nat} (h : k < 16) : (Pv lens i)[k]? = some (((if k = 0 then 0 else first lens k + (lens.take i).count (k : Int)) : Nat) : Int) := by
  unfold Pv; rw [List.getElem?_map, List.getElem?_range h]; rfl
theorem gN {lens : List Int} {i : Nat} (h : i < lens.length) : lens.take (i + 1) = lens.take i ++ [lens[i]] := by
  rw [List.take_add_one, List.getElem?_eq_getElem h]; rfl
theorem TA (lens : List Int) {i x : Nat} (h : i < lens.length) (hx : lens[i] = (x : Int)) (h0 : 0 < x) (h16 : x < 16) :
    (Pv lens i).set x (((first lens x + (lens.take i).count (x : Int) : Nat) : Int) + 1) = Pv lens (i + 1) := by
  apply List.ext_getElem?
  intro k
  by_cases hk : k < 16
  · rw [nz _ _ hk, gN h, hx, List.count_append]
    by_cases e : x = k
    · subst e
      rw [List.getElem?_set_self (by rw [ny]; exact h16), if_neg (by omega)]
      simp
      omega
    · rw [List.getElem?_set_ne e, nz _ _ hk, List.count_singleton]
      have : ((x : Int) == (k : Int)) = false := by simp; omega
      simp [this]
  · rw [List.getElem?_eq_none (by rw [List.length_set, ny]; omega), List.getElem?_eq_none (by rw [ny]; omega)]
theorem Pu (lens : List Int) {i : Nat} (h : i < lens.length) (h0 : lens[i] = 0) : Pv lens i = Pv lens (i + 1) := by
  apply List.ext_getElem?
  intro k
  by_cases hk : k < 16
  · rw [nz _ _ hk, nz _ _ hk, gN h, h0, List.count_append, List.count_singleton]
    by_cases e : k = 0
    · rw [if_pos e, if_pos e]
    · have : ((0 : Int) == (k : Int)) = false := by simp; omega
      rw [if_neg e, if_neg e, this]
      simp
  · rw [List.getElem?_eq_none (by rw [ny]; omega), List.getElem?_eq_none (by rw [ny]; omega)]
theorem ML (N : Nat) (lens : List Int) (hl : lens.length ≤ 320) (hok : okB lens = true) : ∀ (d i f : Nat), i + d = lens.length → d < f →
    fS N f ((i : Int), (lens.length : Int), lens, jC lens i, Pv lens i) = some (jC lens lens.length) := by
  intro d
  induction d with
  | zero =>
    intro i f hi hf
    cases f with
    | zero => omega
    | succ f =>
      simp only [fS, qB, ae]
      rw [aY (by omega), show i = lens.length by omega]
  | succ d ih =>
    intro i f hi hf
    cases f with
    | zero => omega
    | succ f =>
      have hil : i < lens.length := by omega
      obtain ⟨b1, b2⟩ := dV hok hil
      obtain ⟨x, hx⟩ := Int.eq_ofNat_of_zero_le b1
      have ih' := ih (i + 1) f (by omega) (by omega)
      have hw : IntKind.wrap .i64 ((i : Int) + 1) = ((i + 1 : Nat) : Int) := by rw [wrap_i64 (by omega) (by omega)]; omega
      have hc : decide ((i : Int) < (lens.length : Int)) = true := by simp only [decide_eq_true_eq]; omega
      have hwi : within (i : Int) lens.length = true := by unfold within; simp only [decide_eq_true_eq]; omega
      have hg : lens[i]? = some lens[i] := List.getElem?_eq_getElem hil
      simp only [fS, qB, hc, hwi, hg, Int.toNat_natCast, if_true, Option.bind_some, hw, ae]
      by_cases h0 : 0 < lens[i]
      · have hx0 : 0 < x := by omega
        have hx16 : x < 16 := by omega
        have hwx : within (x : Int) 16 = true := by unfold within; simp only [decide_eq_true_eq]; omega
        have hwo : within (i : Int) (jC lens i).length = true := by rw [d8]; exact hwi
        have hng : (Pv lens i)[x]? = some (((first lens x + (lens.take i).count (x : Int) : Nat)) : Int) := by rw [nz _ _ hx16, if_neg (by omega)]
        have hog := eW lens i hil
        have hfs := fK lens hl (show x ≤ 15 by omega)
        have hcl : (lens.take i).count (x : Int) ≤ 320 := Nat.le_trans List.count_le_length (by rw [List.length_take]; omega)
        have hca : ap lens i = ((((first lens x + (lens.take i).count (x : Int) : Nat)) : Int), (x : Int), ()) := by
          unfold ap
          have hgd : lens.getD i 0 = lens[i] := by rw [List.getD, hg]; rfl
          rw [hgd, hx]
          simp only [Int.toNat_natCast]
          rw [if_pos (by omega)]
        rw [if_pos (by simpa using h0), hx]
        simp only [hwx, hwo, hng, hog, Int.toNat_natCast, if_true, Option.bind_some]
        rw [← hca, Mb lens hil, wrap_i64 (by omega) (by omega), TA lens hil hx hx0 hx16, ih', Option.bind_some]
      · rw [if_neg (by simpa using h0)]
        rw [Hh lens hil h0, Pu lens hil (by omega), ih', Option.bind_some]
def lp (lens : List Int) (l : Nat) : List Int := (List.range 16).map fun (k : Nat) => (((if k ≤ l then first lens k else 0) : Nat) : Int)
theorem nD (lens : List Int) (l : Nat) : (lp lens l).length = 16 := by simp [lp]
theorem jP (lens : List Int) (l : Nat) {k : Nat} (h : k < 16) : (lp lens l)[k]? = some (((if k ≤ l then first lens k else 0) : Nat) : Int) := by
  unfold lp; rw [List.getElem?_map, List.getElem?_range h]; rfl
theorem Ml (lens : List Int) {l : Nat} (h : l + 1 < 16) : (lp lens l).set (l + 1) ((first lens (l + 1) : Nat) : Int) = lp lens (l + 1) := by
  apply List.ext_getElem?
  intro k
  by_cases hk : k < 16
  · rw [jP _ _ hk]
    by_cases e : l + 1 = k
    · subst e
      rw [List.getElem?_set_self (by rw [nD]; exact hk), if_pos (by omega)]
    · rw [List.getElem?_set_ne e, jP _ _ hk]
      by_cases hlt : k ≤ l
      · rw [if_pos hlt, if_pos (by omega)]
      · rw [if_neg hlt, if_neg (by omega)]
  · rw [List.getElem?_eq_none (by rw [List.length_set, nD]; omega), List.getElem?_eq_none (by rw [nD]; omega)]
theorem MM (N : Nat) (lens : List Int) (hl : lens.length ≤ 320) : ∀ (d l f : Nat), l + d = 14 → d + 1 < f →
    gE N f (((l + 1 : Nat) : Int), lens, dJ lens, lp lens (l + 1)) = some (lens, lp lens 15) := by
  intro d
  induction d with
  | zero =>
    intro l f hi hf
    cases f with
    | zero => omega
    | succ f =>
      have : l = 14 := by omega
      subst this
      simp only [gE, t7, ae]
      rw [if_neg (by decide)]
  | succ d ih =>
    intro l f hi hf
    cases f with
    | zero => omega
    | succ f =>
      have ih' := ih (l + 1) f (by omega) (by omega)
      have hw : IntKind.wrap .i64 (((l + 1 : Nat) : Int) + 1) = ((l + 1 + 1 : Nat) : Int) := by rw [wrap_i64 (by omega) (by omega)]; omega
      have hc : decide (((l + 1 : Nat) : Int) < 15) = true := by simp only [decide_eq_true_eq]; omega
      have hwi : within ((l + 1 : Nat) : Int) 16 = true := by unfold within; simp only [decide_eq_true_eq]; omega
      have hwj : within ((l + 1 + 1 : Nat) : Int) 16 = true := by unfold within; simp only [decide_eq_true_eq]; omega
      have g1 : (lp lens (l + 1))[l + 1]? = some ((first lens (l + 1) : Nat) : Int) := by rw [jP _ _ (by omega), if_pos (by omega)]
      have g2 := im lens (show l + 1 < 16 by omega)
      have g3 : (lp lens (l + 1))[l + 1 + 1]? = some (0 : Int) := by rw [jP _ _ (by omega), if_neg (by omega)]; rfl
      have hfs := fK lens hl (show l + 1 ≤ 15 by omega)
      have hcl : lens.count ((l + 1 : Nat) : Int) ≤ 320 := Nat.le_trans List.count_le_length hl
      simp only [gE, t7, hc, hwi, hw, hwj, g1, g2, g3, Int.toNat_natCast, if_true, Option.bind_some, ae]
      have e : IntKind.wrap .i64 (IntKind.wrap .i64 (((first lens (l + 1) : Nat) : Int) + (lens.count ((l + 1 : Nat) : Int) : Int)) * 2) = ((first lens (l + 1 + 1) : Nat) : Int) := by
        rw [wrap_i64 (z := ((first lens (l + 1) : Nat) : Int) + _) (by omega) (by omega), wrap_i64 (by omega) (by omega), first]; omega
      rw [e, Ml lens (show l + 1 + 1 < 16 by omega), ih', Option.bind_some]
theorem Mc (lens : List Int) : jC lens lens.length = af lens := by
  apply List.ext_getElem?
  intro k
  by_cases hk : k < lens.length
  · rw [eW _ _ hk, if_pos hk]
    unfold af
    rw [List.getElem?_map, List.getElem?_range hk]; rfl
  · rw [List.getElem?_eq_none (by rw [d8]; omega), List.getElem?_eq_none (by simp [af]; omega)]
theorem Hg (lens : List Int) : jC lens 0 = List.replicate lens.length (0, 0, ()) := by
  apply List.ext_getElem?
  intro k
  by_cases hk : k < lens.length
  · rw [eW _ _ hk, if_neg (by omega), List.getElem?_replicate, if_pos hk]
  · rw [List.getElem?_eq_none (by rw [d8]; omega), List.getElem?_eq_none (by simp; omega)]
theorem Pt (lens : List Int) : Pv lens 0 = lp lens 15 := by
  apply List.ext_getElem?
  intro k
  by_cases hk : k < 16
  · rw [nz _ _ hk, jP _ _ hk, if_pos (show k ≤ 15 by omega)]
    by_cases e : k = 0
    · subst e; rfl
    · rw [if_neg e]; simp
  · rw [List.getElem?_eq_none (by rw [ny]; omega), List.getElem?_eq_none (by rw [nD]; omega)]
theorem Mm (lens : List Int) : lp lens (0 + 1) = [0, 0, 0, 0, 0, 0, 0, 0, 0, 0, 0, 0, 0, 0, 0, 0] := rfl
theorem sg {N : Nat} (hN : 400 ≤ N) (lens : List Int) : V5 N lens = some (if (chk lens).2 = 0 then (0, af lens) else ((chk lens).2, [])) := by
  obtain ⟨c, hc, hcc⟩ := xT hN lens
  simp only [V5, ae]
  rw [Kv hN, Option.bind_some]
  by_cases h : (chk lens).2 = 0
  · have hok : yL lens = true := by
      unfold chk at h
      by_cases hh : yL lens = true ∧ 0 ≤ lf lens 15
      · exact hh.1
      · rw [if_neg hh] at h; cases h
    have hb : okB lens = true ∧ lens.length ≤ 320 := by
      unfold yL at hok
      simp only [Bool.and_eq_true, decide_eq_true_eq] at hok
      exact ⟨hok.2, hok.1⟩
    rw [if_neg (by simpa using h), if_pos h, hc, Option.bind_some, hcc hok]
    have l1 := MM N lens hb.2 14 0 N (by omega) (by omega)
    rw [Mm] at l1
    simp only
    rw [show (((0 + 1 : Nat)) : Int) = 1 from rfl] at l1
    rw [l1, Option.bind_some]
    simp only
    have l2 := ML N lens hb.2 hb.1 lens.length 0 N (by omega) (by omega)
    rw [Hg, Pt, Mc, show ((0 : Nat) : Int) = 0 from rfl] at l2
    rw [bd (by omega), Int.toNat_natCast, l2, Option.bind_some]
  · rw [if_pos (by simpa using h), if_neg h]
def ky (lens : List Int) (l i : Nat) : List qO := (List.range lens.length).map fun j =>
  if 0 < lens.getD j 0 ∧ (lens.getD j 0 < (l : Int) ∨ (lens.getD j 0 = (l : Int) ∧ j < i)) then ap lens j else (0, 0, ())
theorem fF (lens : List Int) (l i : Nat) : (ky lens l i).length = lens.length := by simp [ky]
theorem ig (lens : List Int) (l i : Nat) {j : Nat} (h : j < lens.length) : (ky lens l i)[j]? = some (if 0 < lens.getD j 0 ∧ (lens.getD j 0 < (l : Int) ∨ (lens.getD j 0 = (l : Int) ∧ j < i)) then ap lens j else (0, 0, ())) := by
  unfold ky; rw [List.getElem?_map, List.getElem?_range h]; rfl
theorem EV {lens : List Int} {l i l' i' : Nat} (h : ∀ j, j < lens.length → ((0 < lens.getD j 0 ∧ (lens.getD j 0 < (l : Int) ∨ (lens.getD j 0 = (l : Int) ∧ j < i))) ↔ (0 < lens.getD j 0 ∧ (lens.getD j 0 < (l' : Int) ∨ (lens.getD j 0 = (l' : Int) ∧ j < i'))))) : ky lens l i = ky lens l' i' := by
  apply List.ext_getElem?
  intro k
  by_cases hk : k < lens.length
  · rw [ig _ _ _ hk, ig _ _ _ hk]
    have := h k hk
    by_cases hp : (0 < lens.getD k 0 ∧ (lens.getD k 0 < (l : Int) ∨ (lens.getD k 0 = (l : Int) ∧ k < i)))
    · rw [if_pos hp, if_pos (this.1 hp)]
    · rw [if_neg hp, if_neg (fun hq => hp (this.2 hq))]
  · rw [List.getElem?_eq_none (by rw [fF]; omega), List.getElem?_eq_none (by rw [fF]; omega)]
theorem Po {lens : List Int} {l i : Nat} (h : i < lens.length) (hl : lens.getD i 0 = (l : Int)) (h0 : 0 < l) : (ky lens l i).set i (ap lens i) = ky lens l (i + 1) := by
  apply List.ext_getElem?
  intro k
  by_cases hk : k < lens.length
  · rw [ig _ _ _ hk]
    by_cases e : i = k
    · subst e
      rw [List.getElem?_set_self (by rw [fF]; exact h), if_pos ⟨by omega, .inr ⟨hl, by omega⟩⟩]
    · rw [List.getElem?_set_ne e, ig _ _ _ hk]
      by_cases hp : (0 < lens.getD k 0 ∧ (lens.getD k 0 < (l : Int) ∨ (lens.getD k 0 = (l : Int) ∧ k < i)))
      · rw [if_pos hp, if_pos ⟨hp.1, hp.2.imp id fun q => ⟨q.1, by omega⟩⟩]
      · rw [if_neg hp, if_neg (fun hq => hp ⟨hq.1, hq.2.imp id fun q => ⟨q.1, by omega⟩⟩)]
  · rw [List.getElem?_eq_none (by rw [List.length_set, fF]; omega), List.getElem?_eq_none (by rw [fF]; omega)]
theorem MJ (N : Nat) (lens : List Int) (hl : lens.length ≤ 320) (l : Nat) (h0 : 0 < l) (h15 : l ≤ 15) : ∀ (d i f : Nat), i + d = lens.length → d < f →
    dC N f (((first lens l + (lens.take i).count (l : Int) : Nat) : Int), (i : Int), lens, (l : Int), ky lens l i) =
      some ((l : Int), ((first lens l + lens.count (l : Int) : Nat) : Int), lens, ky lens l lens.length) := by
  intro d
  induction d with
  | zero =>
    intro i f hi hf
    cases f with
    | zero => omega
    | succ f =>
      simp only [dC, nS, ae]
      rw [aY (by omega), List.take_of_length_le (by omega), show i = lens.length by omega]
  | succ d ih =>
    intro i f hi hf
    cases f with
    | zero => omega
    | succ f =>
      have hil : i < lens.length := by omega
      have ih' := ih (i + 1) f (by omega) (by omega)
      have hw : IntKind.wrap .i64 ((i : Int) + 1) = ((i + 1 : Nat) : Int) := by rw [wrap_i64 (by omega) (by omega)]; omega
      have hc : decide ((i : Int) < (lens.length : Int)) = true := by simp only [decide_eq_true_eq]; omega
      have hwi : within (i : Int) lens.length = true := by unfold within; simp only [decide_eq_true_eq]; omega
      have hwo : within (i : Int) (ky lens l i).length = true := by rw [fF]; exact hwi
      have hg : lens[i]? = some lens[i] := List.getElem?_eq_getElem hil
      have hgd : lens.getD i 0 = lens[i] := by rw [List.getD, hg]; rfl
      have hog := ig lens l i hil
      have hfs := fK lens hl h15
      have hcl : (lens.take i).count (l : Int) ≤ 320 := Nat.le_trans List.count_le_length (by rw [List.length_take]; omega)
      rw [gN hil, List.count_append, List.count_singleton] at ih'
      simp only [dC, nS, hc, hwi, hg, hwo, hog, Int.toNat_natCast, if_true, Option.bind_some, hw, ae]
      by_cases he : lens[i] = (l : Int)
      · have hb : (lens[i] == (l : Int)) = true := by simpa using he
        rw [hb] at ih'
        have hca : ap lens i = ((((first lens l + (lens.take i).count (l : Int) : Nat)) : Int), (l : Int), ()) := by
          unfold ap
          rw [hgd, he]
          simp only [Int.toNat_natCast]
          rw [if_pos (by omega)]
        rw [if_pos hb, ← hca, Po hil (hgd.trans he) h0, wrap_i64 (by omega) (by omega)]
        simp only [if_true] at ih'
        rw [show (((first lens l + (lens.take i).count (l : Int) : Nat)) : Int) + 1 = ((first lens l + ((lens.take i).count (l : Int) + 1) : Nat) : Int) by omega, ih', Option.bind_some]
      · have hb : (lens[i] == (l : Int)) = false := by simpa using he
        rw [hb] at ih'
        simp only [Bool.false_eq_true, if_false, Nat.add_zero] at ih'
        rw [if_neg (by rw [hb]; decide)]
        have e : ky lens l i = ky lens l (i + 1) := EV fun j hj => by
          by_cases e : j = i
          · subst e
            rw [hgd]
            constructor
            · rintro ⟨h1, h2 | ⟨h2, h3⟩⟩
              · exact ⟨h1, .inl h2⟩
              · exact absurd h2 he
            · rintro ⟨h1, h2 | ⟨h2, h3⟩⟩
              · exact ⟨h1, .inl h2⟩
              · exact absurd h2 he
          · constructor
            · rintro ⟨h1, h2 | ⟨h2, h3⟩⟩
              · exact ⟨h1, .inl h2⟩
              · exact ⟨h1, .inr ⟨h2, by omega⟩⟩
            · rintro ⟨h1, h2 | ⟨h2, h3⟩⟩
              · exact ⟨h1, .inl h2⟩
              · exact ⟨h1, .inr ⟨h2, by omega⟩⟩
        rw [e, ih', Option.bind_some]
def before (lens : List Int) : Nat → Nat
  | 0 => 0
  | 1 => 0
  | l + 2 => first lens (l + 1) + lens.count ((l + 1 : Nat) : Int)
theorem BC (lens : List Int) (l : Nat) (h : 0 < l) : 2 * before lens l = first lens l := by
  match l, h with
  | 1, _ => rfl
  | l + 2, _ => rfl
theorem MI (N : Nat) (hN : 400 ≤ N) (lens : List Int) (hl : lens.length ≤ 320) : ∀ (d l f : Nat), l + d = 16 → 0 < l → d < f →
    iT N f ((before lens l : Int), lens, (l : Int), ky lens l 0) = some (ky lens 16 0) := by
  intro d
  induction d with
  | zero =>
    intro l f hi h0 hf
    cases f with
    | zero => omega
    | succ f =>
      have : l = 16 := by omega
      subst this
      simp only [iT, tZ, ae]
      rw [if_neg (by decide)]
  | succ d ih =>
    intro l f hi h0 hf
    cases f with
    | zero => omega
    | succ f =>
      have ih' := ih (l + 1) f (by omega) (by omega) (by omega)
      have hfs := fK lens hl (show l ≤ 15 by omega)
      have hb := BC lens l h0
      have hin := MJ N lens hl l h0 (by omega) lens.length 0 N (by omega) (by omega)
      rw [List.take_zero, List.count_nil, Nat.add_zero, show ((0 : Nat) : Int) = 0 from rfl] at hin
      simp only [iT, tZ, ae]
      rw [bd (by omega), wrap_i64 (z := (before lens l : Int) * 2) (by omega) (by omega), show (before lens l : Int) * 2 = ((first lens l : Nat) : Int) by omega, hin, Option.bind_some]
      simp only
      have e1 : ((first lens l + lens.count (l : Int) : Nat) : Int) = (before lens (l + 1) : Int) := by
        match l, h0 with
        | k + 1, _ => rfl
      have e2 : ky lens l lens.length = ky lens (l + 1) 0 := EV fun j hj => by
        constructor
        · rintro ⟨h1, h2 | ⟨h2, h3⟩⟩
          · exact ⟨h1, .inl (by omega)⟩
          · exact ⟨h1, .inl (by omega)⟩
        · rintro ⟨h1, h2 | ⟨h2, h3⟩⟩
          · by_cases e : lens.getD j 0 = (l : Int)
            · exact ⟨h1, .inr ⟨e, hj⟩⟩
            · exact ⟨h1, .inl (by omega)⟩
          · omega
      rw [e1, e2, wrap_i64 (by omega) (by omega), show ((l : Int) + 1) = ((l + 1 : Nat) : Int) by omega, ih', Option.bind_some]
theorem sf {N : Nat} (hN : 400 ≤ N) (lens : List Int) (hl : lens.length ≤ 320) (hok : okB lens = true) : V3 N lens = some (af lens) := by
  simp only [V3, ae]
  rw [bd (by omega), Int.toNat_natCast]
  have h := MI N hN lens hl 15 1 N (by omega) (by omega) (by omega)
  have e0 : ky lens 1 0 = List.replicate lens.length (0, 0, ()) := by
    apply List.ext_getElem?
    intro k
    by_cases hk : k < lens.length
    · rw [ig _ _ _ hk, if_neg (by omega), List.getElem?_replicate, if_pos hk]
    · rw [List.getElem?_eq_none (by rw [fF]; omega), List.getElem?_eq_none (by simp; omega)]
  have e1 : ky lens 16 0 = af lens := by
    apply List.ext_getElem?
    intro k
    by_cases hk : k < lens.length
    · have hc : (af lens)[k]? = some (ap lens k) := by
        unfold af
        rw [List.getElem?_map, List.getElem?_range hk]; rfl
      rw [ig _ _ _ hk, hc]
      have hg : lens.getD k 0 = lens[k] := by rw [List.getD, List.getElem?_eq_getElem hk]; rfl
      obtain ⟨b1, b2⟩ := dV hok hk
      by_cases h0 : 0 < lens[k]
      · rw [if_pos ⟨by omega, .inl (by omega)⟩]
      · rw [if_neg (fun q => h0 (by rw [← hg]; exact q.1))]
        unfold ap
        rw [hg]
        simp only
        rw [if_neg h0]
    · rw [List.getElem?_eq_none (by rw [fF]; omega), List.getElem?_eq_none (by simp [af]; omega)]
  rw [e0, e1, show (before lens 1 : Int) = 0 from rfl, show ((1 : Nat) : Int) = 1 from rfl] at h
  rw [h, Option.bind_some]
theorem b8 (lens : List Int) : (af lens).length = lens.length := by simp [af]
theorem bo {lens : List Int} (h : (chk lens).2 = 0) : lens.length ≤ 320 ∧ okB lens = true := by
  have hok : yL lens = true := by
    unfold chk at h
    by_cases hh : yL lens = true ∧ 0 ≤ lf lens 15
    · exact hh.1
    · rw [if_neg hh] at h; cases h
  unfold yL at hok
  simp only [Bool.and_eq_true, decide_eq_true_eq] at hok
  exact hok
theorem get_at {a : List Int} {i : Nat} (h : i < a.length) : a[i]? = some (a.getD i 0) := by
  rw [List.getD, List.getElem?_eq_getElem h]; rfl
def be (lens : List Int) (l : Nat) : Nat → List Int
  | 0 => []
  | i + 1 => if lens.getD i 0 = (l : Int) then be lens l i ++ [(i : Int)] else be lens l i
theorem dk (lens : List Int) (l : Nat) : ∀ i, i ≤ lens.length → (be lens l i).length = (lens.take i).count (l : Int)
  | 0, _ => by simp [be]
  | i + 1, h => by
    have ih := dk lens l i (by omega)
    have hg : lens.getD i 0 = lens[i] := by rw [List.getD, List.getElem?_eq_getElem (by omega)]; rfl
    rw [be, hg, gN (by omega), List.count_append, List.count_singleton]
    by_cases e : lens[i] = (l : Int)
    · have hb : (lens[i] == (l : Int)) = true := by simpa using e
      rw [if_pos e, hb, List.length_append, ih]; rfl
    · have hb : (lens[i] == (l : Int)) = false := by simpa using e
      rw [if_neg e, hb, ih]; rfl
def tq (lens : List Int) (l i lg : Nat) : Nat := if (be lens l i).isEmpty then lg else l
def aF (lens : List Int) : Nat → List Int
  | 0 => []
  | l + 1 => aF lens l ++ be lens (l + 1) lens.length
def cr (lens : List Int) : Nat → Nat
  | 0 => 0
  | l + 1 => tq lens (l + 1) lens.length (cr lens l)
theorem kj (lens : List Int) (hl : lens.length ≤ 320) : ∀ l, (aF lens l).length ≤ 320 * l
  | 0 => by simp [aF]
  | l + 1 => by
    have h1 := kj lens hl l
    have h2 := dk lens (l + 1) lens.length (Nat.le_refl _)
    have h3 : (lens.take lens.length).count ((l + 1 : Nat) : Int) ≤ 320 := Nat.le_trans List.count_le_length (by rw [List.length_take]; omega)
    rw [aF, List.length_append]
    omega
def iq (c n : Nat) (i : Nat) : Bool := c.testBit (n - 1 - i)
theorem Sr {N : Nat} (hN : 61 < N) (c n i : Nat) (hc : c < 1000000000) (hn : n ≤ 15) (hi : i < n) : Ss N ((c : Int), (n : Int), (i : Int)) = some (iq c n i) := by
  have hp : (2 : Int) ^ (n - 1 - i) ≤ 32768 := by
    have : (2 : Nat) ^ (n - 1 - i) ≤ 2 ^ 15 := Nat.pow_le_pow_right (by decide) (by omega)
    have h2 : ((2 ^ (n - 1 - i) : Nat) : Int) ≤ ((2 ^ 15 : Nat) : Int) := Int.ofNat_le.2 this
    simpa using h2
  have hp0 : (0 : Int) < 2 ^ (n - 1 - i) := Int.pow_pos (by decide)
  simp only [Ss, ae]
  have e : IntKind.wrap .i64 (IntKind.wrap .i64 ((n : Int) - 1) - (i : Int)) = ((n - 1 - i : Nat) : Int) := by
    rw [wrap_i64 (z := (n : Int) - 1) (by omega) (by omega), wrap_i64 (by omega) (by omega)]; omega
  rw [e, Ku hN _ (by omega), Option.bind_some, aY (by omega)]
  congr 1
  unfold iq
  have e2 : Int.tdiv (c : Int) (2 ^ (n - 1 - i)) = ((c / 2 ^ (n - 1 - i) : Nat) : Int) := by
    rw [Int.tdiv_eq_ediv_of_nonneg (by omega)]; simp
  have hd : c / 2 ^ (n - 1 - i) ≤ c := Nat.div_le_self ..
  rw [e2, Nat.testBit_eq_decide_div_mod_eq]
  clear e2
  generalize c / 2 ^ (n - 1 - i) = q at *
  rw [wrap_i64 (by omega) (by omega), Int.tmod_eq_emod_of_nonneg (by omega)]
  have hq := Nat.mod_two_eq_zero_or_one q
  have e3 : (q : Int) % 2 = ((q % 2 : Nat) : Int) := by omega
  rw [e3]
  rcases hq with h | h <;> rw [h] <;> rfl
def eG (c n : Nat) (l : List Bool) : Bool := decide (l.length ≤ n) && (List.range l.length).all fun i => iq c n i == l.getD i false
theorem Np {N : Nat} (hN : 61 < N) (c n : Nat) (hc : c < 1000000000) (hn : n ≤ 15) (l : List Bool) (hl : l.length ≤ n) : ∀ (d i f : Nat), i + d = l.length → d < f →
    ((∀ j, i ≤ j → j < l.length → iq c n j = l.getD j false) → gG N f (l, (i : Int), (c : Int), (n : Int)) = some (.inr ())) ∧
    ((∃ j, i ≤ j ∧ j < l.length ∧ iq c n j ≠ l.getD j false) → gG N f (l, (i : Int), (c : Int), (n : Int)) = some (.inl false)) := by
  intro d
  induction d with
  | zero =>
    intro i f hi hf
    cases f with
    | zero => omega
    | succ f =>
      simp only [gG, ui, ae]
      rw [aY (by omega)]
      exact ⟨fun _ => rfl, fun ⟨j, h1, h2, _⟩ => by omega⟩
  | succ d ih =>
    intro i f hi hf
    cases f with
    | zero => omega
    | succ f =>
      obtain ⟨ih1, ih2⟩ := ih (i + 1) f (by omega) (by omega)
      have hil : i < l.length := by omega
      have hw : IntKind.wrap .i64 ((i : Int) + 1) = ((i + 1 : Nat) : Int) := by rw [wrap_i64 (by omega) (by omega)]; omega
      have hwi : within (i : Int) l.length = true := by unfold within; simp only [decide_eq_true_eq]; omega
      have hcc : decide ((i : Int) < (l.length : Int)) = true := by simp only [decide_eq_true_eq]; omega
      have hg : l[i]? = some (l.getD i false) := by rw [List.getD, List.getElem?_eq_getElem hil]; rfl
      simp only [gG, ui, hcc, hwi, hg, hw, Int.toNat_natCast, if_true, Option.bind_some, ae]
      rw [Sr hN c n i hc hn (by omega), Option.bind_some]
      by_cases he : iq c n i = l.getD i false
      · rw [he, if_neg (by simp)]
        refine ⟨fun h => by rw [ih1 fun j h1 h2 => h j (by omega) h2]; rfl, fun ⟨j, h1, h2, h3⟩ => ?_⟩
        rw [ih2 ⟨j, by
          by_cases e : j = i
          · subst e; exact absurd he h3
          · omega, h2, h3⟩]
        rfl
      · rw [if_pos (by simpa using he)]
        exact ⟨fun h => absurd (h i (Nat.le_refl _) hil) he, fun _ => by first | rfl | trivial⟩
theorem Gj {N : Nat} (hN : 61 < N) (c n : Nat) (hc : c < 1000000000) (hn : n ≤ 15) (l : List Bool) (hl : l.length ≤ 100) (hN2 : 101 < N) : SB N ((c : Int), (n : Int), l) = some (eG c n l) := by
  unfold eG
  simp only [SB, ae]
  by_cases h : n < l.length
  · rw [bd (by omega), decide_eq_false (by omega)]; rfl
  · rw [aY (by omega), decide_eq_true (by omega), Bool.true_and]
    obtain ⟨h1, h2⟩ := Np hN c n hc hn l (by omega) l.length 0 N (by omega) (by omega)
    rw [show ((0 : Nat) : Int) = 0 from rfl] at h1 h2
    cases ha : (List.range l.length).all fun i => iq c n i == l.getD i false with
    | true =>
      rw [h1 fun j _ hj => by simpa using List.all_eq_true.1 ha j (List.mem_range.2 hj), Option.bind_some]
    | false =>
      have : ∃ j, 0 ≤ j ∧ j < l.length ∧ iq c n j ≠ l.getD j false := by
        refine Classical.byContradiction fun hn => ?_
        have : (List.range l.length).all (fun i => iq c n i == l.getD i false) = true := List.all_eq_true.2 fun j hj => by
          have hj := List.mem_range.1 hj
          by_cases e : iq c n j = l.getD j false
          · simpa using e
          · exact absurd ⟨j, Nat.zero_le _, hj, e⟩ hn
        rw [ha] at this; cases this
      rw [h2 this, Option.bind_some]
def preB (c n : Nat → Nat) (l : List Bool) (j : Nat) : Bool := !(n j == 0) && eG (c j) (n j) l
def lZ (c n : Nat → Nat) (l : List Bool) (j : Nat) : Bool := preB c n l j && (n j == l.length)
def GP (c n : Nat → Nat) (l : List Bool) (i : Nat) : Int := bif (List.range i).any (preB c n l) then -1 else -2
theorem O7 (c n : Nat → Nat) (l : List Bool) (i : Nat) : GP c n l (i + 1) = bif preB c n l i then -1 else GP c n l i := by
  unfold GP
  rw [List.range_succ, List.any_append, List.any_cons, List.any_nil, Bool.or_false]
  cases (List.range i).any (preB c n l) <;> cases preB c n l i <;> rfl
theorem Ax {N : Nat} (hN : 101 < N) (C : List qO) (c n : Nat → Nat) (hC : ∀ j, j < C.length → C[j]? = some ((c j : Int), (n j : Int), ()) ∧ c j < 1000000000 ∧ n j ≤ 15) (hl : C.length ≤ 1000) (l : List Bool) (hll : l.length ≤ 100) :
    ∀ (d i f : Nat), i + d = C.length → d < f →
    (∀ k, i ≤ k → k < C.length → lZ c n l k = true → (∀ j, i ≤ j → j < k → lZ c n l j = false) → gL N f ((i : Int), GP c n l i, l, C) = some (.inl (k : Int))) ∧
    ((∀ j, i ≤ j → j < C.length → lZ c n l j = false) → gL N f ((i : Int), GP c n l i, l, C) = some (.inr (GP c n l C.length))) := by
  intro d
  induction d with
  | zero =>
    intro i f hi hf
    cases f with
    | zero => omega
    | succ f =>
      simp only [gL, ul, ae]
      rw [aY (by omega), show i = C.length by omega]
      exact ⟨fun k h1 h2 => by omega, fun _ => rfl⟩
  | succ d ih =>
    intro i f hi hf
    cases f with
    | zero => omega
    | succ f =>
      have hil : i < C.length := by omega
      obtain ⟨ih1, ih2⟩ := ih (i + 1) f (by omega) (by omega)
      obtain ⟨hg, hc, hn⟩ := hC i hil
      have hw : IntKind.wrap .i64 ((i : Int) + 1) = ((i + 1 : Nat) : Int) := by rw [wrap_i64 (by omega) (by omega)]; omega
      have hwi : within (i : Int) C.length = true := by unfold within; simp only [decide_eq_true_eq]; omega
      have hcc : decide ((i : Int) < (C.length : Int)) = true := by simp only [decide_eq_true_eq]; omega
      have hs := O7 c n l i
      simp only [gL, ul, hcc, hwi, hg, hw, Int.toNat_natCast, if_true, Option.bind_some, ae]
      by_cases h0 : n i = 0
      · have hp : preB c n l i = false := by unfold preB; rw [h0]; rfl
        have hh : lZ c n l i = false := by unfold lZ; rw [hp]; rfl
        rw [hp] at hs
        have hs : GP c n l (i + 1) = GP c n l i := hs
        rw [hs] at ih1 ih2
        rw [if_pos (by simp [h0])]
        refine ⟨fun k h1 h2 h3 h4 => ?_, fun h => ?_⟩
        · rw [ih1 k (by
            by_cases e : k = i
            · subst e; rw [hh] at h3; cases h3
            · omega) h2 h3 fun j g1 g2 => h4 j (by omega) g2]; rfl
        · rw [ih2 fun j g1 g2 => h j (by omega) g2]; rfl
      · have hn0 : (n i == 0) = false := by simpa using h0
        rw [if_neg (by simp; omega), Gj (by omega) (c i) (n i) hc hn l hll hN, Option.bind_some]
        cases hb : eG (c i) (n i) l with
        | false =>
          have hp : preB c n l i = false := by unfold preB; rw [hb, Bool.and_false]
          have hh : lZ c n l i = false := by unfold lZ; rw [hp]; rfl
          rw [hp] at hs
          have hs : GP c n l (i + 1) = GP c n l i := hs
          rw [hs] at ih1 ih2
          simp only [Bool.false_eq_true, if_false]
          refine ⟨fun k h1 h2 h3 h4 => ?_, fun h => ?_⟩
          · rw [ih1 k (by
              by_cases e : k = i
              · subst e; rw [hh] at h3; cases h3
              · omega) h2 h3 fun j g1 g2 => h4 j (by omega) g2]; rfl
          · rw [ih2 fun j g1 g2 => h j (by omega) g2]; rfl
        | true =>
          have hp : preB c n l i = true := by unfold preB; rw [hb, hn0]; rfl
          rw [hp] at hs
          have hs : GP c n l (i + 1) = -1 := hs
          rw [hs] at ih1 ih2
          simp only [if_true]
          by_cases he : n i = l.length
          · have hh : lZ c n l i = true := by unfold lZ; rw [hp, Bool.true_and]; simpa using he
            rw [if_pos (by simp [he])]
            refine ⟨fun k h1 h2 h3 h4 => ?_, fun h => ?_⟩
            · by_cases e : k = i
              · subst e; rfl
              · have := h4 i (Nat.le_refl _) (by omega)
                rw [hh] at this; cases this
            · have := h i (Nat.le_refl _) hil
              rw [hh] at this; cases this
          · have hh : lZ c n l i = false := by unfold lZ; rw [hp, Bool.true_and]; simpa using he
            rw [if_neg (by simp; omega)]
            refine ⟨fun k h1 h2 h3 h4 => ?_, fun h => ?_⟩
            · rw [ih1 k (by
                by_cases e : k = i
                · subst e; rw [hh] at h3; cases h3
                · omega) h2 h3 fun j g1 g2 => h4 j (by omega) g2]; rfl
            · rw [ih2 fun j g1 g2 => h j (by omega) g2]; rfl
theorem SN {N : Nat} (hN : 2000 < N) {C : List qO} {c n : Nat → Nat} (hC : ∀ j, j < C.length → C[j]? = some ((c j : Int), (n j : Int), ()) ∧ c j < 1000000000 ∧ n j ≤ 15) (hl : C.length ≤ 1000) (l : List Bool) (hll : l.length ≤ 100) {k : Nat} (hk : k < C.length) (hh : lZ c n l k = true) (hf : ∀ j, j < k → lZ c n l j = false) : yX N (C, l) = some (k : Int) := by
  obtain ⟨h1, _⟩ := Ax (N := N) (by omega) C c n hC hl l hll C.length 0 N (by omega) (by omega)
  simp only [yX, ae]
  have := h1 k (Nat.zero_le _) hk hh fun j _ hj => hf j hj
  rw [show GP c n l 0 = -2 from rfl, show ((0 : Nat) : Int) = 0 from rfl] at this
  rw [this, Option.bind_some]
theorem NC {N : Nat} (hN : 2000 < N) {C : List qO} {c n : Nat → Nat} (hC : ∀ j, j < C.length → C[j]? = some ((c j : Int), (n j : Int), ()) ∧ c j < 1000000000 ∧ n j ≤ 15) (hl : C.length ≤ 1000) (l : List Bool) (hll : l.length ≤ 100) (hf : ∀ j, j < C.length → lZ c n l j = false) : yX N (C, l) = some (GP c n l C.length) := by
  obtain ⟨_, h2⟩ := Ax (N := N) (by omega) C c n hC hl l hll C.length 0 N (by omega) (by omega)
  simp only [yX, ae]
  have := h2 fun j _ hj => hf j hj
  rw [show GP c n l 0 = -2 from rfl, show ((0 : Nat) : Int) = 0 from rfl] at this
  rw [this, Option.bind_some]
def d5 (lens : List Int) (lg : Nat) : Nat → Nat
  | 0 => 0
  | d + 1 => (d5 lens lg d + lens.count ((lg - d : Nat) : Int) + 1) / 2
theorem pI (lens : List Int) (lg : Nat) (hl : lens.length ≤ 320) : ∀ d, d5 lens lg d ≤ 321
  | 0 => by simp [d5]
  | d + 1 => by
    have h1 := pI lens lg hl d
    have h2 : lens.count ((lg - d : Nat) : Int) ≤ 320 := Nat.le_trans List.count_le_length hl
    rw [d5]
    omega
theorem tK (lens : List Int) : ∀ l, cr lens l ≤ l
  | 0 => Nat.le_refl _
  | l + 1 => by
    have := tK lens l
    rw [cr]
    unfold tq
    split <;> omega
theorem v7 : ∀ (l : List UInt8) (j : Nat), j < 8 * l.length → (bitsOf l)[j]? = some ((l.getD (j / 8) 0).toNat.testBit (j % 8))
  | [], j, h => by simp at h
  | x :: l, j, h => by
    have e : bitsOf (x :: l) = iO 8 x.toNat ++ bitsOf l := by unfold bitsOf; rw [List.flatMap_cons]
    rw [e]
    by_cases h8 : j < 8
    · rw [List.getElem?_append_left (by rw [bM]; exact h8), fa, if_pos h8, show j / 8 = 0 by omega, show j % 8 = j by omega]
      rfl
    · rw [List.getElem?_append_right (by rw [bM]; omega), bM, v7 l (j - 8) (by rw [List.length_cons] at h; omega), show j / 8 = (j - 8) / 8 + 1 by omega, show (j - 8) % 8 = j % 8 by omega]
      simp
theorem EL (s : ByteArray) (p k : Nat) (h : p + k ≤ 8 * s.size) : gl s p k = ((aQ s).drop p).take k := by
  have hal := aJ s
  have hsl : s.data.toList.length = s.size := by simp
  apply List.ext_getElem?
  intro i
  unfold gl
  by_cases hi : i < k
  · rw [List.getElem?_map, List.getElem?_range hi, List.getElem?_take_of_lt hi, List.getElem?_drop]
    unfold aQ
    rw [v7 _ _ (by omega)]
    rfl
  · rw [List.getElem?_eq_none (by simp; omega), List.getElem?_eq_none (by simp; omega)]
def rd (L : List Bool) (p : Nat) (e n : Int) : Nat × Nat × Int :=
  if e = 0 then (if p + am n ≤ L.length then (val ((L.drop p).take (am n)), p + am n, 0) else (0, p, 2)) else (0, p, e)
theorem or_bit (v b : Nat) (hv : v < 1000000000) (hb : b < 2) : IntKind.wrap .i64 ((BitVec.toNat (BitVec.ofInt 64 ((2 * v : Nat) : Int) ||| BitVec.ofInt 64 (b : Int)) : Nat) : Int) = ((2 * v + b : Nat) : Int) := by
  have e : (BitVec.ofInt 64 ((2 * v : Nat) : Int) ||| BitVec.ofInt 64 (b : Int)).toNat = 2 * v + b := by
    have h := Nat.two_pow_add_eq_or_of_lt (i := 1) (b := b) (by simpa using hb) v
    rw [BitVec.toNat_or, BitVec.ofInt_natCast, BitVec.ofInt_natCast, BitVec.toNat_ofNat, BitVec.toNat_ofNat, Nat.mod_eq_of_lt (by omega), Nat.mod_eq_of_lt (by omega)]
    simpa using h.symm
  rw [e]
  exact wrap_i64 (by omega) (by omega)
def Hz (lens : List Int) (lg : Nat) (L : List Bool) : Nat → Nat → Nat → Option (Int × Int × Nat)
  | 0, _, p => some (0, 3, p)
  | d + 1, v, p =>
    let l := lg - d
    if p < L.length then
      let w := 2 * v + (L.getD p false).toNat
      if w < first lens l + lens.count (l : Int) then
        if first lens l ≤ w then some ((aF lens 15).getD ((aF lens (l - 1)).length + (w - first lens l)) 0, 0, p + 1) else none
      else if d5 lens lg d ≤ w - (first lens l + lens.count (l : Int)) then some (0, 3, p + 1)
      else Hz lens lg L d w (p + 1)
    else some (0, 2, p)
theorem oF (lens : List Int) {l : Nat} (h : 0 < l) : first lens (l + 1) = 2 * (first lens l + lens.count (l : Int)) := by
  match l, h with
  | k + 1, _ => rfl
theorem lC (lens : List Int) {l : Nat} (h : 0 < l) : (aF lens l).length = (aF lens (l - 1)).length + lens.count (l : Int) := by
  match l, h with
  | k + 1, _ =>
    rw [aF, List.length_append, dk lens (k + 1) lens.length (Nat.le_refl _), List.take_length]
    rfl
theorem lD (lens : List Int) (l : Nat) : ∀ k, (aF lens l).length ≤ (aF lens (l + k)).length
  | 0 => Nat.le_refl _
  | k + 1 => by
    have := lD lens l k
    rw [← Nat.add_assoc, aF, List.length_append]
    omega
theorem XA (lens : List Int) : ∀ l, l ≤ 15 → ∀ w, first lens l ≤ w → w < first lens l + lens.count (l : Int) → 0 < l → (aF lens (l - 1)).length + (w - first lens l) < (aF lens 15).length := by
  intro l hl w h1 h2 h0
  have hst := lC lens h0
  have hm := lD lens l (15 - l)
  rw [show l + (15 - l) = 15 by omega] at hm
  omega
def b9 (lens : List Int) (j : Nat) : Nat := first lens (lens.getD j 0).toNat + (lens.take j).count (lens.getD j 0)
theorem getD_at {lens : List Int} {j : Nat} (h : j < lens.length) : lens.getD j 0 = lens[j] := by
  rw [List.getD, List.getElem?_eq_getElem h]; rfl
theorem gQ (lens : List Int) (j : Nat) : ap lens j = if 0 < lens.getD j 0 then ((b9 lens j : Int), lens.getD j 0, ()) else (0, 0, ()) := rfl
theorem og {lens : List Int} {j : Nat} (h : j < lens.length) : (lens.take j).count (lens.getD j 0) < lens.count (lens.getD j 0) := by
  have e : lens.count (lens.getD j 0) = (lens.take (j + 1) ++ lens.drop (j + 1)).count (lens.getD j 0) := by rw [List.take_append_drop]
  rw [e, gN h, List.count_append, List.count_append, getD_at h, List.count_singleton_self]
  omega
theorem zy (lens : List Int) (l : Nat) : ∀ n, n ≤ lens.length → ∀ r, r < (be lens l n).length → ∃ j, j < n ∧ lens.getD j 0 = (l : Int) ∧ (lens.take j).count (l : Int) = r ∧ (be lens l n).getD r 0 = (j : Int)
  | 0, _, r, h => by simp [be] at h
  | n + 1, hn, r, h => by
    have ih := zy lens l n (by omega)
    have hlen := dk lens l n (by omega)
    by_cases e : lens.getD n 0 = (l : Int)
    · have es : be lens l (n + 1) = be lens l n ++ [(n : Int)] := by rw [be, if_pos e]
      rw [es] at h ⊢
      rw [List.length_append, List.length_singleton] at h
      by_cases hr : r < (be lens l n).length
      · obtain ⟨j, h1, h2, h3, h4⟩ := ih r hr
        refine ⟨j, by omega, h2, h3, ?_⟩
        rw [List.getD, List.getElem?_append_left hr]
        exact h4
      · have : r = (be lens l n).length := by omega
        subst this
        refine ⟨n, by omega, e, hlen.symm, ?_⟩
        rw [List.getD, List.getElem?_append_right (Nat.le_refl _), Nat.sub_self]
        rfl
    · have es : be lens l (n + 1) = be lens l n := by rw [be, if_neg e]
      rw [es] at h ⊢
      obtain ⟨j, h1, h2⟩ := ih r h
      exact ⟨j, by omega, h2⟩
theorem uG (lens : List Int) {l : Nat} (h0 : 0 < l) {r : Nat} (hr : r < lens.count (l : Int)) : ∀ k, (aF lens (l + k)).getD ((aF lens (l - 1)).length + r) 0 = (be lens l lens.length).getD r 0
  | 0 => by
    obtain ⟨m, rfl⟩ : ∃ m, l = m + 1 := ⟨l - 1, by omega⟩
    have hlen := dk lens (m + 1) lens.length (Nat.le_refl _)
    rw [List.take_length] at hlen
    rw [Nat.add_zero, Nat.add_sub_cancel, aF, List.getD, List.getD, List.getElem?_append_right (by omega), Nat.add_sub_cancel_left]
  | k + 1 => by
    have ih := uG lens h0 hr k
    have hst := lC lens h0
    have hm := lD lens l k
    rw [← Nat.add_assoc, aF, List.getD, List.getElem?_append_left (by omega)]
    exact ih
theorem O5 (lens : List Int) {l : Nat} (h0 : 0 < l) (hl : l ≤ 15) {w : Nat} (h1 : first lens l ≤ w) (h2 : w < first lens l + lens.count (l : Int)) :
    ∃ j, j < lens.length ∧ lens.getD j 0 = (l : Int) ∧ b9 lens j = w ∧ (aF lens 15).getD ((aF lens (l - 1)).length + (w - first lens l)) 0 = (j : Int) := by
  have hlen := dk lens l lens.length (Nat.le_refl _)
  rw [List.take_length] at hlen
  have hg := uG lens h0 (show w - first lens l < lens.count (l : Int) by omega) (15 - l)
  rw [show l + (15 - l) = 15 by omega] at hg
  obtain ⟨j, a1, a2, a3, a4⟩ := zy lens l lens.length (Nat.le_refl _) (w - first lens l) (by omega)
  refine ⟨j, a1, a2, ?_, by rw [hg, a4]⟩
  unfold b9
  rw [a2, a3, Int.toNat_natCast]
  omega
theorem iN {lens : List Int} {j : Nat} (hj : j < lens.length) {l : Nat} (hl : lens.getD j 0 = (l : Int)) : first lens l ≤ b9 lens j ∧ b9 lens j < first lens l + lens.count (l : Int) := by
  have h := og hj
  unfold b9
  rw [hl] at h ⊢
  rw [Int.toNat_natCast]
  omega
theorem Ab {lens : List Int} {i j : Nat} (hi : i < lens.length) (hj : j < lens.length) (h1 : lens.getD i 0 = lens.getD j 0) (h2 : b9 lens i = b9 lens j) : i = j := by
  have key : ∀ a b, a < b → b < lens.length → lens.getD a 0 = lens.getD b 0 → (lens.take a).count (lens.getD a 0) < (lens.take b).count (lens.getD a 0) := by
    intro a b hab hb he
    have e : lens.take b = (lens.take b).take (a + 1) ++ (lens.take b).drop (a + 1) := (List.take_append_drop ..).symm
    rw [e, List.count_append, List.take_take, Nat.min_eq_left (by omega), gN (show a < lens.length by omega), List.count_append, getD_at (show a < lens.length by omega), List.count_singleton_self]
    omega
  unfold b9 at h2
  rw [h1] at h2
  rcases Nat.lt_trichotomy i j with h | h | h
  · have := key i j h hj h1
    rw [h1] at this
    omega
  · exact h
  · have := key j i h hi h1.symm
    omega
theorem zT (lens : List Int) : ∀ n l, cr lens n < l → l ≤ n → lens.count (l : Int) = 0
  | 0, l, h1, h2 => by omega
  | n + 1, l, h1, h2 => by
    have hlen := dk lens (n + 1) lens.length (Nat.le_refl _)
    rw [List.take_length] at hlen
    rw [cr] at h1
    unfold tq at h1
    by_cases he : (be lens (n + 1) lens.length).isEmpty = true
    · rw [if_pos he] at h1
      by_cases h : l = n + 1
      · subst h
        rw [List.isEmpty_iff] at he
        rw [← hlen, he]; rfl
      · exact zT lens n l h1 (by omega)
    · rw [if_neg he] at h1
      omega
theorem rf {lens : List Int} (hok : okB lens = true) {j : Nat} (hj : j < lens.length) : (lens.getD j 0).toNat ≤ cr lens 15 := by
  obtain ⟨a, b⟩ := dV hok hj
  rw [← getD_at hj] at a b
  refine Classical.byContradiction fun hn => ?_
  have h := zT lens 15 (lens.getD j 0).toNat (by omega) (by omega)
  have e : (((lens.getD j 0).toNat : Nat) : Int) = lens.getD j 0 := by omega
  rw [e] at h
  have := og hj
  omega
theorem eC (a b : Nat) : a / 2 ^ (b + 1) = a / 2 ^ b / 2 := by rw [Nat.pow_succ, Nat.div_div_eq_div_mul]
theorem q7 {lens : List Int} (hok : okB lens = true) : ∀ d l, 0 < l → l + d = cr lens 15 → ∀ w,
    (∃ j, j < lens.length ∧ (l : Int) < lens.getD j 0 ∧ b9 lens j / 2 ^ ((lens.getD j 0).toNat - l) = w) ↔ (first lens l + lens.count (l : Int) ≤ w ∧ w < first lens l + lens.count (l : Int) + d5 lens (cr lens 15) d)
  | 0, l, h0, h1, w => by
    constructor
    · rintro ⟨j, hj, h2, _⟩
      have := rf hok hj
      omega
    · rintro ⟨h2, h3⟩
      rw [d5] at h3
      omega
  | d + 1, l, h0, h1, w => by
    have ih := q7 hok d (l + 1) (by omega) (by omega)
    have hf := oF lens h0
    have hr : d5 lens (cr lens 15) (d + 1) = (d5 lens (cr lens 15) d + lens.count ((l + 1 : Nat) : Int) + 1) / 2 := by
      rw [d5, show cr lens 15 - d = l + 1 by omega]
    have hlg := tK lens 15
    constructor
    · rintro ⟨j, hj, h2, h3⟩
      by_cases e : lens.getD j 0 = ((l + 1 : Nat) : Int)
      · obtain ⟨r1, r2⟩ := iN hj e
        rw [e, show ((l + 1 : Nat) : Int).toNat - l = 1 by omega] at h3
        omega
      · have h4 := (ih (b9 lens j / 2 ^ ((lens.getD j 0).toNat - (l + 1)))).1 ⟨j, hj, by omega, rfl⟩
        rw [show (lens.getD j 0).toNat - l = (lens.getD j 0).toNat - (l + 1) + 1 by omega, eC] at h3
        omega
    · rintro ⟨h2, h3⟩
      by_cases e : 2 * w < first lens (l + 1) + lens.count ((l + 1 : Nat) : Int)
      · obtain ⟨j, a1, a2, a3, _⟩ := O5 lens (l := l + 1) (w := 2 * w) (by omega) (by omega) (by omega) e
        refine ⟨j, a1, by omega, ?_⟩
        rw [a2, a3, show ((l + 1 : Nat) : Int).toNat - l = 1 by omega]
        omega
      · obtain ⟨j, a1, a2, a3⟩ := (ih (2 * w)).2 (by omega)
        refine ⟨j, a1, by omega, ?_⟩
        rw [show (lens.getD j 0).toNat - l = (lens.getD j 0).toNat - (l + 1) + 1 by omega, eC, a3]
        omega
theorem room {lens : List Int} : ∀ l, lf lens (l + 1) = 2 ^ (l + 1) - ((first lens (l + 1) + lens.count ((l + 1 : Nat) : Int) : Nat) : Int)
  | 0 => by simp [lf, first]
  | l + 1 => by
    have hf := oF lens (Nat.succ_pos l)
    rw [Nat.succ_eq_add_one] at hf
    rw [lf, room l, hf, Int.pow_succ 2 (l + 1)]
    omega
theorem Qx {lens : List Int} (h : (chk lens).2 = 0) {l : Nat} (h0 : 0 < l) (hl : l ≤ 15) : first lens l + lens.count (l : Int) ≤ 2 ^ l := by
  have h15 : 0 ≤ lf lens 15 := by
    unfold chk at h
    by_cases hh : yL lens = true ∧ 0 ≤ lf lens 15
    · exact hh.2
    · rw [if_neg hh] at h; cases h
  have hl0 : 0 ≤ lf lens l := Int.not_lt.1 fun hn => by
    have := PD lens l (15 - l) hn
    rw [show l + (15 - l) = 15 by omega] at this
    omega
  obtain ⟨m, rfl⟩ : ∃ m, l = m + 1 := ⟨l - 1, by omega⟩
  rw [room] at hl0
  have : ((2 ^ (m + 1) : Nat) : Int) = (2 : Int) ^ (m + 1) := by simp
  omega
theorem qc {lens : List Int} (h : (chk lens).2 = 0) {j : Nat} (hj : j < lens.length) (h0 : 0 < lens.getD j 0) : b9 lens j < 2 ^ (lens.getD j 0).toNat := by
  obtain ⟨a1, a2⟩ := bo h
  obtain ⟨b1, b2⟩ := dV a2 hj
  rw [← getD_at hj] at b1 b2
  have e : lens.getD j 0 = (((lens.getD j 0).toNat : Nat) : Int) := by omega
  obtain ⟨r1, r2⟩ := iN hj e
  have := Qx h (l := (lens.getD j 0).toNat) (by omega) (by omega)
  omega
theorem uL {α : Type} {motive : List α → Prop} (h0 : motive []) (h1 : ∀ l b, motive l → motive (l ++ [b])) (l : List α) : motive l := by
  have key : ∀ m : List α, motive m.reverse := fun m => by
    induction m with
    | nil => exact h0
    | cons b m ih => rw [List.reverse_cons]; exact h1 _ _ ih
  have := key l.reverse
  rwa [List.reverse_reverse] at this
def AJ (l : List Bool) : Nat := l.foldl (fun n b => 2 * n + b.toNat) 0
theorem KS (l : List Bool) (b : Bool) : AJ (l ++ [b]) = 2 * AJ l + b.toNat := by unfold AJ; rw [List.foldl_append]; rfl
theorem BB (c n : Nat) (l : List Bool) (b : Bool) : eG c n (l ++ [b]) = (eG c n l && (decide (l.length < n) && (iq c n l.length == b))) := by
  unfold eG
  rw [List.length_append, List.length_singleton, List.range_succ, List.all_append]
  have e1 : ((List.range l.length).all fun i => iq c n i == (l ++ [b]).getD i false) = (List.range l.length).all fun i => iq c n i == l.getD i false := by
    apply Bool.eq_iff_iff.2
    rw [List.all_eq_true, List.all_eq_true]
    constructor
    · intro h i hi
      have := h i hi
      rwa [List.getD, List.getElem?_append_left (List.mem_range.1 hi)] at this
    · intro h i hi
      rw [List.getD, List.getElem?_append_left (List.mem_range.1 hi)]
      exact h i hi
  have e2 : (l ++ [b]).getD l.length false = b := by rw [List.getD, List.getElem?_append_right (Nat.le_refl _), Nat.sub_self]; rfl
  rw [e1]
  simp only [List.all_cons, List.all_nil, Bool.and_true, e2]
  by_cases h : l.length + 1 ≤ n
  · rw [decide_eq_true h, decide_eq_true (show l.length ≤ n by omega), decide_eq_true (show l.length < n by omega)]
    simp only [Bool.true_and]
  · rw [decide_eq_false h, decide_eq_false (show ¬ l.length < n by omega)]
    simp only [Bool.false_and, Bool.and_false]
theorem FH {c n : Nat} (hc : c < 2 ^ n) (l : List Bool) : eG c n l = true ↔ l.length ≤ n ∧ c / 2 ^ (n - l.length) = AJ l := by
  refine uL (motive := fun l => eG c n l = true ↔ l.length ≤ n ∧ c / 2 ^ (n - l.length) = AJ l) ?_ (fun l b ih => ?_) l
  · have : c / 2 ^ n = 0 := Nat.div_eq_of_lt hc
    simp [eG, AJ, this]
  · rw [BB, Bool.and_eq_true, Bool.and_eq_true, ih, KS, List.length_append, List.length_singleton, decide_eq_true_eq, beq_iff_eq]
    unfold iq
    constructor
    · rintro ⟨⟨h1, h2⟩, h3, h4⟩
      refine ⟨h3, ?_⟩
      rw [show n - l.length = n - (l.length + 1) + 1 by omega, eC] at h2
      rw [show n - 1 - l.length = n - (l.length + 1) by omega, Nat.testBit_eq_decide_div_mod_eq] at h4
      generalize c / 2 ^ (n - (l.length + 1)) = q at *
      rcases Nat.mod_two_eq_zero_or_one q with h | h <;> rw [h] at h4 <;> subst h4 <;> simp <;> omega
    · rintro ⟨h3, h4⟩
      rw [show n - l.length = n - (l.length + 1) + 1 by omega, eC, show n - 1 - l.length = n - (l.length + 1) by omega, Nat.testBit_eq_decide_div_mod_eq]
      generalize c / 2 ^ (n - (l.length + 1)) = q at *
      subst h4
      refine ⟨⟨by omega, ?_⟩, h3, ?_⟩ <;> cases b <;> simp <;> omega
theorem il (lens : List Int) {j : Nat} (hj : j < lens.length) : (af lens)[j]? = some (ap lens j) := by
  unfold af; rw [List.getElem?_map, List.getElem?_range hj]; rfl
def cN (lens : List Int) (j : Nat) : Nat := if 0 < lens.getD j 0 then b9 lens j else 0
def nN (lens : List Int) (j : Nat) : Nat := (lens.getD j 0).toNat
theorem Aa {lens : List Int} (h : (chk lens).2 = 0) : ∀ j, j < (af lens).length → (af lens)[j]? = some ((cN lens j : Int), (nN lens j : Int), ()) ∧ cN lens j < 1000000000 ∧ nN lens j ≤ 15 := by
  intro j hj
  rw [b8] at hj
  obtain ⟨a1, a2⟩ := bo h
  obtain ⟨b1, b2⟩ := dV a2 hj
  rw [← getD_at hj] at b1 b2
  rw [il lens hj, gQ]
  unfold cN nN
  by_cases h0 : 0 < lens.getD j 0
  · rw [if_pos h0, if_pos h0]
    have := qc h hj h0
    have hp : 2 ^ (lens.getD j 0).toNat ≤ 2 ^ 15 := Nat.pow_le_pow_right (by decide) (by omega)
    refine ⟨?_, by omega, by omega⟩
    rw [Int.toNat_of_nonneg b1]
  · rw [if_neg h0, if_neg h0]
    have e : lens.getD j 0 = 0 := by omega
    rw [e]
    exact ⟨rfl, by omega, by decide⟩
theorem ER {lens : List Int} (h : (chk lens).2 = 0) {j : Nat} (hj : j < lens.length) (l : List Bool) :
    preB (cN lens) (nN lens) l j = true ↔ 0 < lens.getD j 0 ∧ l.length ≤ (lens.getD j 0).toNat ∧ b9 lens j / 2 ^ ((lens.getD j 0).toNat - l.length) = AJ l := by
  obtain ⟨a1, a2⟩ := bo h
  obtain ⟨b1, b2⟩ := dV a2 hj
  rw [← getD_at hj] at b1 b2
  unfold preB
  rw [Bool.and_eq_true, Bool.not_eq_true', beq_eq_false_iff_ne]
  by_cases h0 : 0 < lens.getD j 0
  · have e : cN lens j = b9 lens j := by unfold cN; rw [if_pos h0]
    unfold nN
    rw [e, FH (qc h hj h0)]
    constructor
    · rintro ⟨x, y⟩; exact ⟨h0, y⟩
    · rintro ⟨x, y⟩; exact ⟨by omega, y⟩
  · constructor
    · rintro ⟨x, y⟩; unfold nN at x; omega
    · rintro ⟨x, y⟩; exact absurd x h0
theorem vD {lens : List Int} (h : (chk lens).2 = 0) {j : Nat} (hj : j < lens.length) (l : List Bool) :
    lZ (cN lens) (nN lens) l j = true ↔ 0 < l.length ∧ lens.getD j 0 = (l.length : Int) ∧ b9 lens j = AJ l := by
  unfold lZ
  rw [Bool.and_eq_true, ER h hj, beq_iff_eq]
  unfold nN
  constructor
  · rintro ⟨⟨x, y, z⟩, w⟩
    rw [w, Nat.sub_self, Nat.pow_zero, Nat.div_one] at z
    exact ⟨by omega, by omega, z⟩
  · rintro ⟨x, y, z⟩
    rw [y, Int.toNat_natCast, Nat.sub_self, Nat.pow_zero, Nat.div_one]
    exact ⟨⟨by omega, Nat.le_refl _, z⟩, rfl⟩
theorem vZ {b : Bool} (h : ¬ b = true) : b = false := by cases b <;> simp_all
theorem Tl {c n : Nat → Nat} {l : List Bool} {i : Nat} (h : ∃ j, j < i ∧ preB c n l j = true) : GP c n l i = -1 := by
  obtain ⟨j, h1, h2⟩ := h
  have : (List.range i).any (preB c n l) = true := List.any_eq_true.2 ⟨j, List.mem_range.2 h1, h2⟩
  unfold GP; rw [this]; rfl
theorem Af (m : List Bool) : aQ (cC m) = aV m := by
  have h1 := aJ (cC m)
  have h2 := eU m
  have h3 := c8 m
  apply List.ext_getElem?
  intro j
  by_cases h : j < 8 * (cC m).size
  · have e := EL (cC m) j 1 (by omega)
    have e2 : (aQ (cC m))[j]? = some (yG (cC m) j) := by
      have := congrArg (fun l : List Bool => l[0]?) e
      simp only [gl, List.range_one, List.map_cons, List.map_nil, List.getElem?_cons_zero, Nat.add_zero] at this
      rw [List.getElem?_take_of_lt (by omega), List.getElem?_drop] at this
      exact this.symm
    rw [e2, LP]
    unfold aV
    by_cases hj : j < m.length
    · rw [List.getElem?_append_left hj, List.getD, List.getElem?_eq_getElem hj]; rfl
    · rw [List.getElem?_append_right (by omega), List.getElem?_replicate, if_pos (by unfold bz; omega), List.getD, List.getElem?_eq_none (by omega)]; rfl
  · rw [List.getElem?_eq_none (by omega), List.getElem?_eq_none (by omega)]
theorem MA (l : List Bool) : iO l.length (val l) = l := by
  apply List.ext_getElem?
  intro i
  rw [fa]
  by_cases h : i < l.length
  · rw [if_pos h, pm, List.getD, List.getElem?_eq_getElem h]; rfl
  · rw [if_neg h, List.getElem?_eq_none (by omega)]
theorem Ph (n : Int) (l : List Bool) (h : l.length = am n) : an n (val l : Int) = l := by
  unfold an cq
  have hv := gW l
  rw [h] at hv
  have hc := bk n
  have hp := lP hc
  rw [BitVec.ofInt_natCast, BitVec.toNat_ofNat, Nat.mod_eq_of_lt (a := val l) (by omega), Nat.mod_eq_of_lt hv, ← h, MA]
def ag (c : qO) : List Bool := (an c.2.1 c.1).reverse
theorem cG (c : qO) : (ag c).length ≤ 32 := by
  unfold ag; rw [List.length_reverse, al]; exact bk _
theorem mJ {N : Nat} (hN : 6 ≤ N) (m : List Bool) (hm : m.length ≤ 1000000000) (c : qO) :
    Vf N (c.1, c.2.1, aP m, nF m, bF m) = some (aP (m ++ ag c), nF (m ++ ag c), bF (m ++ ag c)) := by
  simp only [Vf]
  rw [U4, Option.bind_some, bj hN m hm, Option.bind_some, O9, Ph _ _ (by rw [List.length_reverse, al])]
  rfl
theorem bL {lens : List Int} (h : (chk lens).2 = 0) {j : Nat} (hj : j < lens.length) (h0 : 0 < lens.getD j 0) :
    (ag (ap lens j)).length = (lens.getD j 0).toNat ∧ ∀ k, k < (lens.getD j 0).toNat → (ag (ap lens j))[k]? = some ((b9 lens j).testBit ((lens.getD j 0).toNat - 1 - k)) := by
  obtain ⟨a1, a2⟩ := bo h
  obtain ⟨b1, b2⟩ := dV a2 hj
  rw [← getD_at hj] at b1 b2
  have hlt := qc h hj h0
  have hp : 2 ^ (lens.getD j 0).toNat ≤ 2 ^ 15 := Nat.pow_le_pow_right (by decide) (by omega)
  have hc : am (lens.getD j 0) = (lens.getD j 0).toNat := by unfold am; omega
  have hlen : (ag (ap lens j)).length = (lens.getD j 0).toNat := by
    unfold ag
    rw [gQ, if_pos h0, List.length_reverse, al, hc]
  refine ⟨hlen, fun k hk => ?_⟩
  unfold ag at hlen ⊢
  rw [gQ, if_pos h0] at hlen ⊢
  simp only at hlen ⊢
  rw [List.length_reverse] at hlen
  rw [List.getElem?_reverse (by omega), hlen]
  unfold an cq
  rw [fa, hc, if_pos (by omega), BitVec.ofInt_natCast, BitVec.toNat_ofNat, Nat.mod_eq_of_lt (a := b9 lens j) (by omega), Nat.mod_eq_of_lt hlt]
theorem Qs {lens : List Int} (h : (chk lens).2 = 0) {j : Nat} (hj : j < lens.length) (h0 : 0 < lens.getD j 0) (L : List Bool) (p : Nat) (hL : ∀ k, k < (lens.getD j 0).toNat → L[p + k]? = some ((b9 lens j).testBit ((lens.getD j 0).toNat - 1 - k))) :
    ∀ (r k : Nat), r + k = (lens.getD j 0).toNat → 0 < r → Hz lens (cr lens 15) L (cr lens 15 - k) (b9 lens j / 2 ^ ((lens.getD j 0).toNat - k)) (p + k) = some ((j : Int), 0, p + (lens.getD j 0).toNat) := by
  obtain ⟨a1, a2⟩ := bo h
  obtain ⟨b1, b2⟩ := dV a2 hj
  rw [← getD_at hj] at b1 b2
  have hle := rf a2 hj
  have hlg := tK lens 15
  intro r
  induction r with
  | zero => intro k _ h; omega
  | succ r ih =>
    intro k hk _
    obtain ⟨d, hd⟩ : ∃ d, cr lens 15 - k = d + 1 := ⟨cr lens 15 - k - 1, by omega⟩
    have hbit := hL k (by omega)
    have hlt : p + k < L.length := by
      refine Classical.byContradiction fun hn => ?_
      rw [List.getElem?_eq_none (by omega)] at hbit
      cases hbit
    have hg : L.getD (p + k) false = (b9 lens j).testBit ((lens.getD j 0).toNat - 1 - k) := by rw [List.getD, hbit]; rfl
    rw [hd]
    simp only [Hz]
    have e1 : cr lens 15 - d = k + 1 := by omega
    have hw : 2 * (b9 lens j / 2 ^ ((lens.getD j 0).toNat - k)) + (L.getD (p + k) false).toNat = b9 lens j / 2 ^ ((lens.getD j 0).toNat - (k + 1)) := by
      rw [hg, show (lens.getD j 0).toNat - k = (lens.getD j 0).toNat - (k + 1) + 1 by omega, eC, show (lens.getD j 0).toNat - 1 - k = (lens.getD j 0).toNat - (k + 1) by omega, Nat.testBit_eq_decide_div_mod_eq]
      generalize b9 lens j / 2 ^ ((lens.getD j 0).toNat - (k + 1)) = q
      rcases Nat.mod_two_eq_zero_or_one q with h | h <;> rw [h] <;> simp <;> omega
    rw [if_pos hlt, hw, e1]
    by_cases hr : r = 0
    · subst hr
      have hm : (lens.getD j 0).toNat = k + 1 := by omega
      have hl : lens.getD j 0 = ((k + 1 : Nat) : Int) := by omega
      obtain ⟨r1, r2⟩ := iN hj hl
      rw [hm, Nat.sub_self, Nat.pow_zero, Nat.div_one, if_pos r2, if_pos r1]
      obtain ⟨i, i1, i2, i3, i4⟩ := O5 lens (l := k + 1) (by omega) (by omega) r1 r2
      have : i = j := Ab i1 hj (by omega) i3
      subst this
      rw [i4]
      rfl
    · have hpre := (q7 a2 d (k + 1) (by omega) (by omega) (b9 lens j / 2 ^ ((lens.getD j 0).toNat - (k + 1)))).1 ⟨j, hj, by omega, rfl⟩
      rw [if_neg (by omega), if_neg (by omega)]
      have := ih (k + 1) (by omega) (by omega)
      rw [show cr lens 15 - (k + 1) = d by omega] at this
      exact this
theorem Sc {N : Nat} (hN : 63 ≤ N) (L : List Bool) (p : Nat) (e n : Int) (hL : L.length ≤ 1000000000) (hp : p ≤ L.length) :
    Ar N (n, (p : Int), e, L) = some (((rd L p e n).1 : Int), ((rd L p e n).2.1 : Int), (rd L p e n).2.2, L) := by
  have hc := bk n
  unfold rd
  simp only [Ar, ae]
  rw [si, Option.bind_some]
  by_cases he : e = 0
  · subst he
    rw [if_pos (by simp), if_pos rfl, wrap_i64 (z := (L.length : Int) - p) (by omega) (by omega)]
    by_cases h : p + am n ≤ L.length
    · have w1 : IntKind.wrap .i64 ((p : Int) + (am n : Int)) = ((p + am n : Nat) : Int) := by rw [wrap_i64 (by omega) (by omega)]; omega
      have w2 : IntKind.wrap .i64 (((p + am n : Nat) : Int) - (am n : Int)) = (p : Int) := by rw [wrap_i64 (by omega) (by omega)]; omega
      rw [aY (by omega), if_neg (by simp), w1, w2, bd (by omega), bd (by omega), if_pos h, Int.toNat_natCast, Int.toNat_natCast, show p + am n - p = am n by omega]
      rw [yb _ (by rw [List.length_take]; omega) hN, Option.bind_some]
    · rw [bd (by omega), if_neg h]
      rfl
  · rw [if_neg (by simpa using he), if_neg he, if_pos (by simpa using he)]
    rfl
theorem jj {N : Nat} (hN : 63 ≤ N) (a r : List Bool) (n v : Int) (hL : (a ++ (an n v ++ r)).length ≤ 1000000000) :
    Ar N (n, (a.length : Int), 0, a ++ (an n v ++ r)) = some ((cq (am n) v : Int), ((a.length + am n : Nat) : Int), 0, a ++ (an n v ++ r)) := by
  have h1 : a.length + am n ≤ (a ++ (an n v ++ r)).length := by rw [List.length_append, List.length_append, al]; omega
  rw [Sc hN _ _ _ _ hL (by rw [List.length_append]; omega)]
  unfold rd
  rw [if_pos rfl, if_pos h1, List.drop_left, List.take_left' (al n v), uq]
theorem HE {k : Nat} (h : k ≤ 32) : am (k : Int) = k := by unfold am; rw [Int.toNat_natCast]; omega
theorem fI {k v : Nat} (hk : k ≤ 62) (h : v < 2 ^ k) : cq k (v : Int) = v := by
  unfold cq
  have h62 : v < 2 ^ 62 := Nat.lt_of_lt_of_le h (Nat.pow_le_pow_right (by decide) hk)
  rw [BitVec.ofInt_natCast, BitVec.toNat_ofNat, Nat.mod_eq_of_lt (Nat.lt_of_lt_of_le h62 (by decide)), Nat.mod_eq_of_lt h]
theorem Hf {N : Nat} (hN : 63 ≤ N) (L : List Bool) (p : Nat) (hL : L.length ≤ 1000000000) (b : Bool) (hb : L[p]? = some b) :
    Ar N (1, (p : Int), 0, L) = some ((b.toNat : Int), ((p + 1 : Nat) : Int), 0, L) := by
  have hp : p < L.length := (List.getElem?_eq_some_iff.1 hb).1
  rw [Sc hN _ _ _ _ hL (by omega)]
  unfold rd
  have hc : am 1 = 1 := rfl
  rw [if_pos rfl, hc, if_pos (by omega)]
  have : (L.drop p).take 1 = [b] := by
    rw [List.drop_eq_getElem_cons hp, List.take_succ_cons, List.take_zero]
    rw [List.getElem?_eq_getElem hp] at hb
    cases hb
    rfl
  rw [this]
  have : val [b] = b.toNat := by unfold val; unfold val; omega
  rw [this]
theorem sU {lens : List Int} (h : (chk lens).2 = 0) {j : Nat} (hj : j < lens.length) (h0 : 0 < lens.getD j 0) (k : Nat) (hk : k ≤ (lens.getD j 0).toNat) :
    preB (cN lens) (nN lens) ((ag (ap lens j)).take k) j = true := by
  obtain ⟨c1, c2⟩ := bL h hj h0
  unfold preB
  have e : cN lens j = b9 lens j := by unfold cN; rw [if_pos h0]
  have hl : ((ag (ap lens j)).take k).length = k := by rw [List.length_take, c1]; omega
  rw [Bool.and_eq_true, Bool.not_eq_true', beq_eq_false_iff_ne, e]
  unfold nN
  refine ⟨by omega, ?_⟩
  unfold eG
  rw [Bool.and_eq_true, decide_eq_true_eq, List.all_eq_true, hl]
  refine ⟨hk, fun i hi => ?_⟩
  have hi := List.mem_range.1 hi
  have e2 : ((ag (ap lens j)).take k).getD i false = (b9 lens j).testBit ((lens.getD j 0).toNat - 1 - i) := by
    rw [List.getD, List.getElem?_take_of_lt hi, c2 i (by omega)]
    rfl
  rw [e2]
  unfold iq
  exact beq_self_eq_true _
theorem ze {lens : List Int} (h : (chk lens).2 = 0) {j : Nat} (hj : j < lens.length) (h0 : 0 < lens.getD j 0) (k : Nat) (hk : k ≤ (lens.getD j 0).toNat) :
    b9 lens j / 2 ^ ((lens.getD j 0).toNat - k) = AJ ((ag (ap lens j)).take k) := by
  have h1 := ((ER h hj _).1 (sU h hj h0 k hk)).2.2
  obtain ⟨c1, c2⟩ := bL h hj h0
  rwa [show ((ag (ap lens j)).take k).length = k by rw [List.length_take, c1]; omega] at h1
theorem Fg {N : Nat} (hN : 2000 < N) {lens : List Int} (h : (chk lens).2 = 0) {j : Nat} (hj : j < lens.length) (h0 : 0 < lens.getD j 0) (k : Nat) (hk : k < (lens.getD j 0).toNat) :
    yX N (af lens, (ag (ap lens j)).take k) = some (-1) := by
  obtain ⟨a1, a2⟩ := bo h
  obtain ⟨b1, b2⟩ := dV a2 hj
  rw [← getD_at hj] at b1 b2
  obtain ⟨c1, c2⟩ := bL h hj h0
  have hl : ((ag (ap lens j)).take k).length = k := by rw [List.length_take, c1]; omega
  have hC := b8 lens
  rw [NC hN (Aa h) (by omega) _ (by omega), Tl ⟨j, by omega, sU h hj h0 k (by omega)⟩]
  intro i hi
  refine vZ fun hh => ?_
  obtain ⟨g1, g2, g3⟩ := (vD h (show i < lens.length by omega) _).1 hh
  rw [hl] at g1 g2
  obtain ⟨r1, r2⟩ := iN (show i < lens.length by omega) g2
  have hlg := rf a2 hj
  have hp := (q7 a2 (cr lens 15 - k) k g1 (by omega) (b9 lens j / 2 ^ ((lens.getD j 0).toNat - k))).1 ⟨j, hj, by omega, rfl⟩
  rw [ze h hj h0 k (by omega), ← g3] at hp
  omega
theorem zX {N : Nat} (hN : 2000 < N) {lens : List Int} (h : (chk lens).2 = 0) {j : Nat} (hj : j < lens.length) (h0 : 0 < lens.getD j 0) :
    yX N (af lens, ag (ap lens j)) = some (j : Int) := by
  obtain ⟨a1, a2⟩ := bo h
  obtain ⟨b1, b2⟩ := dV a2 hj
  rw [← getD_at hj] at b1 b2
  obtain ⟨c1, c2⟩ := bL h hj h0
  have hC := b8 lens
  have hv := ze h hj h0 _ (Nat.le_refl _)
  rw [Nat.sub_self, Nat.pow_zero, Nat.div_one, ← c1, List.take_length] at hv
  have hj1 : lZ (cN lens) (nN lens) (ag (ap lens j)) j = true := (vD h hj _).2 ⟨by omega, by omega, hv⟩
  refine SN hN (Aa h) (by omega) _ (by omega) (by omega) hj1 fun i hi => vZ fun hh => ?_
  obtain ⟨g1, g2, g3⟩ := (vD h (show i < lens.length by omega) _).1 hh
  have := Ab (show i < lens.length by omega) hj (by omega) (by omega)
  omega
theorem RP {N : Nat} (hN : 2000 < N) {lens : List Int} (h : (chk lens).2 = 0) {j : Nat} (hj : j < lens.length) (h0 : 0 < lens.getD j 0) (a r : List Bool) (hL : (a ++ (ag (ap lens j) ++ r)).length ≤ 1000000000) :
    ∀ (d k f : Nat), k + d = (lens.getD j 0).toNat → d < f → mI N f (af lens, ((a.length + k : Nat) : Int), 0, (ag (ap lens j)).take k, a ++ (ag (ap lens j) ++ r)) =
      some ((j : Int), 0, ((a.length + (lens.getD j 0).toNat : Nat) : Int), 0, a ++ (ag (ap lens j) ++ r)) := by
  obtain ⟨c1, c2⟩ := bL h hj h0
  obtain ⟨a1, a2⟩ := bo h
  obtain ⟨b1, b2⟩ := dV a2 hj
  rw [← getD_at hj] at b1 b2
  intro d
  induction d with
  | zero =>
    intro k f hk hf
    cases f with
    | zero => omega
    | succ f =>
      have e : (ag (ap lens j)).take k = ag (ap lens j) := List.take_of_length_le (by omega)
      simp only [mI, DV, ae]
      rw [e, zX hN h hj h0, Option.bind_some, bd (by omega), show k = (lens.getD j 0).toNat by omega]
  | succ d ih =>
    intro k f hk hf
    cases f with
    | zero => omega
    | succ f =>
      have hb : (a ++ (ag (ap lens j) ++ r))[a.length + k]? = some ((ag (ap lens j)).getD k false) := by
        rw [List.getElem?_append_right (by omega), show a.length + k - a.length = k by omega, List.getElem?_append_left (by omega), List.getD, List.getElem?_eq_getElem (show k < (ag (ap lens j)).length by omega), Option.getD_some]
      have ht : (ag (ap lens j)).take (k + 1) = (ag (ap lens j)).take k ++ [(ag (ap lens j)).getD k false] := by
        rw [List.take_add_one, List.getD, List.getElem?_eq_getElem (show k < (ag (ap lens j)).length by omega)]
        rfl
      have hbit : ((((ag (ap lens j)).getD k false).toNat : Int) == 1) = (ag (ap lens j)).getD k false := by
        cases (ag (ap lens j)).getD k false <;> rfl
      have hln : ((ag (ap lens j)).take k).length = k := by rw [List.length_take]; omega
      have hI := ih (k + 1) f (by omega) (by omega)
      simp only [mI, DV, ae]
      rw [Fg hN h hj h0 k (by omega), Option.bind_some, if_neg (by decide), if_neg (by decide), Hf (by omega) _ _ hL _ hb, Option.bind_some, if_neg (by simp), if_pos (by simp only [decide_eq_true_eq, List.length_singleton, hln]; omega), hbit, ← ht, Nat.add_assoc, hI]
      rfl
theorem IU {N : Nat} (hN : 2000 < N) {lens : List Int} (h : (chk lens).2 = 0) {j : Nat} (hj : j < lens.length) (h0 : 0 < lens.getD j 0) (a r : List Bool) (hL : (a ++ (ag (ap lens j) ++ r)).length ≤ 1000000000) :
    F63 N (af lens, (a.length : Int), 0, a ++ (ag (ap lens j) ++ r)) = some ((j : Int), 0, ((a.length + (ag (ap lens j)).length : Nat) : Int), 0, a ++ (ag (ap lens j) ++ r)) := by
  obtain ⟨c1, c2⟩ := bL h hj h0
  obtain ⟨a1, a2⟩ := bo h
  obtain ⟨b1, b2⟩ := dV a2 hj
  rw [← getD_at hj] at b1 b2
  have := RP hN h hj h0 a r hL (lens.getD j 0).toNat 0 N (by omega) (by omega)
  rw [List.take_zero, Nat.add_zero] at this
  simp only [F63]
  rw [this, Option.bind_some, c1]
end Go.Proofs.YteddgkplkjldcaaGreat.Am
