/- Bits, codes and searches: what the seat's functions compute, in plain lists. -/
import Derived.Test.YteddgkplkjldcaaGreatSC
import Derived.Test.YteddgkplkjldcaaGreatSB
import Derived.Test.YteddgkplkjldcaaGreatAmC
set_option linter.unusedSimpArgs false
set_option linter.unusedVariables false
namespace Go.Proofs.YteddgkplkjldcaaGreat.Am
open Go.Am
theorem KE : QX 200000 (ByteArray.mk #[97, 98, 99], false, ByteArray.mk #[]) = some (ByteArray.mk #[120, 156, 74, 76, 74, 6, 0, 0, 0, 255, 255], true, ByteArray.mk #[97, 98, 99]) := by kernel_rfl
theorem KD : FT 200000 (ByteArray.mk #[120, 156, 74, 76, 74, 6, 0, 0, 0, 255, 255], 9, false, ByteArray.mk #[], 0) = some (ByteArray.mk #[97, 98, 99], 0, true, ByteArray.mk #[97, 98, 99], 0) := by kernel_rfl
theorem KC : QX 200000 (ByteArray.mk #[97, 98, 99, 97, 98, 99], true, ByteArray.mk #[97, 98, 99]) = some (ByteArray.mk #[130, 32, 0, 0, 0, 0, 255, 255], true, ByteArray.mk #[97, 98, 99, 97, 98, 99, 97, 98, 99]) := by kernel_rfl
theorem KB : FT 200000 (ByteArray.mk #[130, 32, 0, 0, 0, 0, 255, 255], 9, true, ByteArray.mk #[97, 98, 99], 0) = some (ByteArray.mk #[97, 98, 99, 97, 98, 99], 0, true, ByteArray.mk #[97, 98, 99, 97, 98, 99, 97, 98, 99], 0) := by kernel_rfl
theorem KA : XK 200000 (ByteArray.mk #[97, 98, 99]) = some (ByteArray.mk #[120, 156, 75, 76, 74, 6, 0, 2, 77, 1, 39]) := by kernel_rfl
theorem Kz : XJ 200000 (ByteArray.mk #[120, 156, 75, 76, 74, 6, 0, 2, 77, 1, 39, 120], 9) = some (ByteArray.mk #[97, 98, 99], 11, 0) := by kernel_rfl
theorem Ky : FU 200000 (ByteArray.mk #[120, 156]) = some 0 := by kernel_rfl
theorem Kx : FU 200000 (ByteArray.mk #[120, 157]) = some 100 := by kernel_rfl
theorem Kw : ByteArray.mk #[120, 156, 75, 76, 74, 6, 0, 2, 77, 1, 39] ++ ByteArray.mk #[120] = ByteArray.mk #[120, 156, 75, 76, 74, 6, 0, 2, 77, 1, 39, 120] := by kernel_rfl
theorem OJ : UU 200000 () = some true := by
  simp only [UU]
  rw [KE, Option.bind_some, KD, Option.bind_some, KC, Option.bind_some]
  simp only
  rw [KB, Option.bind_some, KA, Option.bind_some]
  rw [Kw, Kz, Option.bind_some, Ky, Option.bind_some, Kx, Option.bind_some]
  kernel_rfl
theorem Oo (N : Nat) (X : BitVec 64) : Oq N (U X) = some (U (q8 X)) := by
  simp only [Oq, Q1, UX, YZ, XQ, XP, XO, XM, VV, VU, XV, XU, XS, XR, VX, VW, Option.bind_some, ae]
  rfl
def ak (b : Int) : Nat := min b.toNat 32
theorem bG (b : Int) : ak b ≤ 32 := Nat.min_le_right ..
theorem MO (b : Int) : (if (32 : Int) < (if (0 : Int) > b then (0 : Int) else b) then (32 : Int) else if (0 : Int) > b then (0 : Int) else b) = (ak b : Int) := by
  unfold ak
  split <;> split at * <;> omega
theorem jd (N : Nat) (b : Int) : UT N b = some (ak b : Int) := by
  show some _ = _
  rw [← MO]
def kO (n : Nat) (v : Int) : Nat := (BitVec.ofInt 64 v).toNat % 2 ^ n
theorem ze (n : Nat) (v : Int) : kO n v < 2 ^ n := Nat.mod_lt _ (Nat.pow_pos (by decide))
theorem kH {n : Nat} (h : n ≤ 32) : 2 ^ n ≤ 4294967296 := Nat.pow_le_pow_right (n := 2) (by decide) h
theorem Pf {n : Nat} (hn : n ≤ 32) : IntKind.wrap .i64 ((1 : Int) * 2 ^ min (Int.toNat (n : Int)) 64) = ((2 ^ n : Nat) : Int) := by
  have := kH hn
  have h1 : min (Int.toNat (n : Int)) 64 = n := by simp; omega
  rw [h1, Int.one_mul, show ((2 : Int) ^ n) = ((2 ^ n : Nat) : Int) by simp]
  generalize 2 ^ n = k at *
  exact wrap_i64 (by omega) (by omega)
theorem Tg {n : Nat} (hn : n ≤ 32) (v : Int) : IntKind.wrap .i64 ((BitVec.toNat (BitVec.ofInt 64 v &&& BitVec.ofInt 64 (IntKind.wrap .i64 (IntKind.wrap .i64 ((1 : Int) * 2 ^ min (Int.toNat (n : Int)) 64) - 1))) : Nat) : Int) = (kO n v : Int) := by
  have hp := kH hn
  have hpos : 0 < 2 ^ n := Nat.pow_pos (by decide)
  have hw : IntKind.wrap .i64 (((2 ^ n : Nat) : Int) - 1) = ((2 ^ n : Nat) : Int) - 1 := by
    generalize 2 ^ n = k at *
    exact wrap_i64 (by omega) (by omega)
  rw [Pf hn, hw]
  have e : BitVec.ofInt 64 (((2 ^ n : Nat) : Int) - 1) = BitVec.ofNat 64 (2 ^ n - 1) := by
    rw [show ((2 ^ n : Nat) : Int) - 1 = ((2 ^ n - 1 : Nat) : Int) by generalize 2 ^ n = k at *; omega]
    exact BitVec.ofInt_natCast ..
  have e2 : (BitVec.ofInt 64 v &&& BitVec.ofNat 64 (2 ^ n - 1)).toNat = kO n v := by
    rw [BitVec.toNat_and, BitVec.toNat_ofNat, Nat.mod_eq_of_lt (by omega), Nat.and_two_pow_sub_one_eq_mod]
    rfl
  rw [e, e2]
  have := ze n v
  exact wrap_i64 (by omega) (by omega)
theorem HB (N : Nat) {n : Nat} (hn : n ≤ 32) (v : Int) : Xv N ((n : Int), v) = some (kO n v : Int) := by
  show (if decide ((n : Int) < 0) = true then none else some _) = _
  rw [if_neg (by simp)]
  exact congrArg some (Tg hn v)
def BZ (n : Nat) (L : Nat) : Nat := (q8 (BitVec.ofNat 64 L)).toNat >>> (64 - n)
theorem O2 {n : Nat} (hn : n ≤ 32) (L : Nat) : BZ n L < 2 ^ n := by
  unfold BZ
  rw [Nat.shiftRight_eq_div_pow]
  apply Nat.div_lt_of_lt_mul
  rw [← Nat.pow_add, show 64 - n + n = 64 by omega]
  exact (q8 _).isLt
theorem Lv {n : Nat} (hn : n ≤ 32) {L : Nat} (i : Nat) : (BZ n L).testBit i = (decide (i < n) && L.testBit (n - 1 - i)) := by
  unfold BZ
  rw [Nat.testBit_shiftRight]
  by_cases h : i < n
  · have := IM (BitVec.ofNat 64 L) (i := 64 - n + i) (by omega)
    rw [BitVec.getLsbD, BitVec.getLsbD] at this
    rw [this, BitVec.toNat_ofNat, Nat.testBit_mod_two_pow]
    have e : 63 - (64 - n + i) = n - 1 - i := by omega
    rw [e]
    simp [h]; omega
  · have : (q8 (BitVec.ofNat 64 L)).getLsbD (64 - n + i) = false := BitVec.getLsbD_of_ge _ _ (by omega)
    rw [BitVec.getLsbD] at this
    rw [this]
    simp [h]
theorem QG (N : Nat) (a b : Int) : Xm N (a, b) = some (BZ (ak b) (kO (ak b) a) : Int) := by
  have hc := bG b
  have hp := kH hc
  have hl := ze (ak b) a
  simp only [Xm, ae]
  rw [jd, Option.bind_some, HB N hc, Option.bind_some]
  have e1 : IntKind.wrap .u64 ((kO (ak b) a : Nat) : Int) = U (BitVec.ofNat 64 (kO (ak b) a)) := by
    rw [wrap_u64]; unfold U
    rw [BitVec.toNat_ofNat]
    omega
  rw [e1, Oo, Option.bind_some]
  have e2 : IntKind.wrap .i64 ((64 : Int) - (ak b : Int)) = ((64 - ak b : Nat) : Int) := by
    rw [wrap_i64 (by omega) (by omega)]; omega
  rw [e2, if_neg (by simp)]
  have e3 : min (Int.toNat ((64 - ak b : Nat) : Int)) 64 = 64 - ak b := by
    simp
  rw [e3, Ei]
  congr 1
  have hr := O2 hc (kO (ak b) a)
  have e4 : U (q8 (BitVec.ofNat 64 (kO (ak b) a)) >>> (64 - ak b)) = (BZ (ak b) (kO (ak b) a) : Int) := by
    unfold U BZ
    rw [BitVec.toNat_ushiftRight]
  rw [e4]
  exact wrap_i64 (by omega) (by omega)
theorem XY (z : Int) : IntKind.wrap .i64 ((BitVec.toNat (BitVec.ofInt 64 z &&& BitVec.ofInt 64 1) : Nat) : Int) = z % 2 := by
  have e : (BitVec.ofInt 64 z &&& BitVec.ofInt 64 1).toNat = (z % 2).toNat := by
    rw [BitVec.toNat_and, show (BitVec.ofInt 64 1).toNat = 2 ^ 1 - 1 from rfl, Nat.and_two_pow_sub_one_eq_mod, BitVec.toNat_ofInt]
    omega
  rw [e]
  rw [wrap_i64 (by omega) (by omega)]
  omega
theorem Og (N : Nat) : ∀ (k : Nat) (r : List Bool) (b : List Int), r.length / 8 < k → b.length + r.length ≤ 140737488355328 →
    nL N k ((val r : Int), (r.length : Int), b) = some (aJ r, nF r, b ++ bF r) := by
  intro k
  induction k with
  | zero => intro r b h; omega
  | succ k ih =>
    intro r b h hb
    simp only [nL, GG, ae]
    by_cases h8 : 8 ≤ r.length
    · rw [if_pos (by simp; omega), if_pos (by simp; omega)]
      have e1 : Int.fdiv (val r : Int) 256 = (val (r.drop 8) : Int) := by
        rw [Int.fdiv_eq_ediv_of_nonneg _ (by decide), ← OL r 8 h8]; simp
      have e2 : IntKind.wrap .i64 ((r.length : Int) - 8) = ((r.drop 8).length : Int) := by
        rw [wrap_i64 (by omega) (by omega), List.length_drop]; omega
      have e3 : IntKind.wrap .u8 (val r : Int) = (val (r.take 8) : Int) := by
        rw [wrap_u8, ← OK r 8 h8]; simp
      rw [e1, e2, e3, ih (r.drop 8) _ (by rw [List.length_drop]; omega) (by simp; omega)]
      have hk : r.length / 8 = (r.drop 8).length / 8 + 1 := by rw [List.length_drop]; omega
      have f1 : bF r = (val (r.take 8) : Int) :: bF (r.drop 8) := by
        unfold bF; rw [hk, bh]
      have f2 : cw r = cw (r.drop 8) := by
        unfold cw; rw [List.drop_drop, hk]; congr 1; omega
      have f3 : nF r = nF (r.drop 8) := by
        unfold nF; rw [List.length_drop]; congr 1; omega
      simp only [Option.bind_some, aJ, f1, f2, f3, List.append_assoc, List.singleton_append]
    · rw [if_neg (by simp; omega)]
      have hk : r.length / 8 = 0 := by omega
      have f1 : bF r = [] := by unfold bF; rw [hk]; rfl
      have f2 : cw r = r := by unfold cw; rw [hk]; rfl
      have f3 : nF r = (r.length : Int) := by unfold nF; congr 1; omega
      simp only [aJ, f1, f2, f3, List.append_nil]
def aG (n v : Int) : List Bool := j9 (ak n) (kO (ak n) v)
theorem bd {N : Nat} (hN : 6 ≤ N) (m : List Bool) (hm : m.length ≤ 1000000000) (n v : Int) :
    vU N (n, v, aJ m, nF m, bF m) = some (aJ (m ++ aG n v), nF (m ++ aG n v), bF (m ++ aG n v)) := by
  have hc := bG n
  have hl := ze (ak n) v
  have hr := ji (cw m)
  have hrl := js m
  have h8 : (cw m).length < 8 := by omega
  simp only [vU, ae]
  rw [jd, Option.bind_some, HB N hc, Option.bind_some, if_neg (by unfold nF; simp only [decide_eq_true_eq]; omega)]
  have e1 : IntKind.wrap .i64 ((BitVec.toNat (BitVec.ofInt 64 (aJ m) ||| BitVec.ofInt 64 (IntKind.wrap .i64 (((kO (ak n) v : Nat) : Int) * 2 ^ min (Int.toNat (nF m)) 64))) : Nat) : Int) = (val (cw m ++ aG n v) : Int) := by
    unfold aJ nF
    rw [← hrl, LK hr hl (by omega), val_append]
    unfold aG
    rw [pA, Nat.mod_eq_of_lt hl]
  have e2 : IntKind.wrap .i64 (nF m + (ak n : Int)) = ((cw m ++ aG n v).length : Int) := by
    unfold nF aG
    rw [wrap_i64 (by omega) (by omega), List.length_append, bT, hrl]; omega
  have hlen : (cw m ++ aG n v).length < 40 := by
    unfold aG; rw [List.length_append, bT]; omega
  have hb := zI m
  rw [e1, e2, Og N N _ _ (by omega) (by omega), Option.bind_some]
  obtain ⟨p1, p2, p3⟩ := parts m (aG n v)
  simp only [aJ, p1, p2, p3]
def ww (s : ByteArray) (j : Nat) : Bool := (s.data.toList.getD (j / 8) 0).toNat.testBit (j % 8)
def fE (s : ByteArray) (at_ k : Nat) : List Bool := (List.range k).map fun i => ww s (at_ + i)
theorem od (s : ByteArray) (p k : Nat) : (fE s p k).length = k := by simp [fE]
theorem El (s : ByteArray) (p k : Nat) : fE s p (k + 1) = fE s p k ++ [ww s (p + k)] := by
  unfold fE; rw [List.range_succ, List.map_append]; rfl
theorem byte_at (s : ByteArray) (i : Nat) (h : i < s.size) : s[i]? = some (s.data.toList.getD i 0) := by
  have h' : i < s.data.toList.length := by simpa using h
  rw [getElem?_pos s i h]
  congr 1
  have h2 : i < s.data.size := h
  simp only [List.getD, ByteArray.getElem_eq_getElem_data, Array.getElem?_toList]
  rw [Array.getElem?_eq_getElem h2]; rfl
theorem rG (xs ys : List Int) : aN xs ++ aN ys = aN (xs ++ ys) := by
  unfold aN
  apply ByteArray.ext
  simp
theorem eJ (xs : List Int) : (aN xs).size = xs.length := by
  unfold aN
  show (List.toArray _).size = _
  simp
def nq (m : List Bool) : List Int := bh ((m.length + 7) / 8) m
def er (m : List Bool) : ByteArray := aN (nq m)
theorem lV (m : List Bool) : (er m).size = (m.length + 7) / 8 := by
  unfold er nq; rw [eJ, nm]
theorem vO (N : Nat) (m : List Bool) (hm : m.length ≤ 1000000000) : Ut N (bF m, aJ m, nF m, ()) = some (er m) := by
  simp only [Ut, ae]
  have hb := zI m
  have hr := ji (cw m)
  rw [js] at hr
  by_cases h : m.length % 8 = 0
  · rw [if_neg (by unfold nF; simp only [decide_eq_true_eq]; omega)]
    have : nq m = bF m := by unfold nq bF; congr 1; omega
    unfold er; rw [this]
  · rw [if_pos (by unfold nF; simp only [decide_eq_true_eq]; omega)]
    have hp : 2 ^ (m.length % 8) ≤ 256 := Nat.pow_le_pow_right (n := 2) (by decide) (show m.length % 8 ≤ 8 by omega)
    have e : IntKind.wrap .u8 (aJ m) = aJ m := by
      rw [wrap_u8]; unfold aJ; omega
    rw [if_neg (by rw [eJ, eJ]; simp only [decide_eq_true_eq, List.length_singleton]; omega), e, rG]
    have : nq m = bF m ++ [aJ m] := by
      unfold nq bF aJ cw
      rw [show (m.length + 7) / 8 = m.length / 8 + 1 by omega, ru, List.take_of_length_le (by rw [List.length_drop]; omega)]
    unfold er; rw [this]
theorem HE (N : Nat) (m : List Bool) (hm : m.length ≤ 1000000000) : UV N (bF m, aJ m, nF m, ()) = some (m.length : Int) := by
  simp only [UV, ae]
  have hb := zI m
  have e : IntKind.wrap .i64 (IntKind.wrap .i64 ((8 : Int) * ((bF m).length : Int)) + nF m) = (m.length : Int) := by
    unfold nF
    rw [wrap_i64 (z := (8 : Int) * ((bF m).length : Int)) (by omega) (by omega), wrap_i64 (by omega) (by omega)]; omega
  rw [e]
theorem uf : ∀ (k : Nat) (m : List Bool) (i : Nat), i < k → (bh k m)[i]? = some ((val ((m.drop (8 * i)).take 8) : Nat) : Int)
  | 0, m, i, h => by omega
  | k + 1, m, 0, h => by simp [bh]
  | k + 1, m, i + 1, h => by
    rw [bh, List.getElem?_cons_succ, uf k _ i (by omega), List.drop_drop, show 8 + 8 * i = 8 * (i + 1) by omega]
theorem IH (m : List Bool) (j : Nat) : ww (er m) j = m.getD j false := by
  unfold ww
  have hd : (er m).data.toList = (nq m).map fun n => UInt8.ofNat n.toNat := by unfold er aN; simp
  rw [hd]
  by_cases h : j / 8 < (m.length + 7) / 8
  · have e : ((nq m).map fun n => UInt8.ofNat n.toNat).getD (j / 8) 0 = UInt8.ofNat (val ((m.drop (8 * (j / 8))).take 8)) := by
      unfold nq
      rw [List.getD, List.getElem?_map, uf _ _ _ h]
      simp
    have hv := ji ((m.drop (8 * (j / 8))).take 8)
    have hp : 2 ^ ((m.drop (8 * (j / 8))).take 8).length ≤ 256 := Nat.pow_le_pow_right (n := 2) (by decide) (show _ ≤ 8 by rw [List.length_take]; omega)
    rw [e, UInt8.toNat_ofNat', Nat.mod_eq_of_lt (by show _ < 256; omega), nP, List.getD, List.getElem?_take_of_lt (by omega), List.getElem?_drop, show 8 * (j / 8) + j % 8 = j by omega]
    rfl
  · have e : ((nq m).map fun n => UInt8.ofNat n.toNat).getD (j / 8) 0 = 0 := by
      unfold nq
      rw [List.getD, List.getElem?_eq_none (by rw [List.length_map, nm]; omega)]; rfl
    rw [e, List.getD, List.getElem?_eq_none (by omega)]
    simp
theorem am (n v : Int) : (aG n v).length = ak n := by simp [aG]
theorem gy (n L i : Nat) : (j9 n L)[i]? = if i < n then some (L.testBit i) else none := by
  unfold j9
  by_cases h : i < n
  · simp [h]
  · simp [h]
theorem Lu (n v : Int) : BZ (ak n) (kO (ak n) v) = val (aG n v).reverse := by
  have hc := bG n
  apply Nat.eq_of_testBit_eq
  intro i
  rw [Lv hc, nP]
  have hl := am n v
  by_cases h : i < ak n
  · rw [List.getD, List.getElem?_reverse (by omega), hl]
    unfold aG
    rw [gy, if_pos (by omega)]
    simp [h]
  · rw [List.getD, List.getElem?_eq_none (by rw [List.length_reverse]; omega)]
    simp [h]
def jz (m : List Bool) : Nat := (8 - m.length % 8) % 8
def bD (m : List Bool) : List Bool := m ++ List.replicate (jz m) false
theorem eP (m : List Bool) : (bD m).length = 8 * ((m.length + 7) / 8) := by
  unfold bD jz; rw [List.length_append, List.length_replicate]; omega
theorem xG (k : Nat) (hk : k ≤ 32) : aG (k : Int) 0 = List.replicate k false := by
  have c : ak (k : Int) = k := by unfold ak; omega
  unfold aG kO
  rw [c]
  apply List.ext_getElem?
  intro i
  rw [gy, List.getElem?_replicate]
  simp
theorem yn {N : Nat} (hN : 6 ≤ N) (m : List Bool) (hm : m.length ≤ 1000000000) : RH N (aJ m, nF m, bF m) = some (aJ (bD m), nF (bD m), bF (bD m)) := by
  simp only [RH, ae]
  have e : Int.tmod (IntKind.wrap .i64 ((8 : Int) - nF m)) (8 : Int) = ((jz m : Nat) : Int) := by
    unfold nF
    rw [wrap_i64 (by omega) (by omega), Int.tmod_eq_emod_of_nonneg (by omega)]
    unfold jz; omega
  rw [e, bd hN m hm, Option.bind_some, xG _ (by unfold jz; omega)]
  rfl
def bitsOf (l : List UInt8) : List Bool := l.flatMap fun x => j9 8 x.toNat
def aM (s : ByteArray) : List Bool := bitsOf s.data.toList
theorem eN : ∀ l : List UInt8, (bitsOf l).length = 8 * l.length
  | [] => rfl
  | x :: l => by
    unfold bitsOf
    rw [List.flatMap_cons, List.length_append, bT]
    have := eN l
    unfold bitsOf at this
    rw [this, List.length_cons]; omega
theorem aA (s : ByteArray) : (aM s).length = 8 * s.size := by
  unfold aM; rw [eN]; simp
theorem mQ (a b : List UInt8) : bitsOf (a ++ b) = bitsOf a ++ bitsOf b := List.flatMap_append
theorem HR (x : UInt8) : val (j9 8 x.toNat) = x.toNat := by
  have := x.toNat_lt
  rw [pA, Nat.mod_eq_of_lt (by omega)]
theorem eM : ∀ l : List UInt8, bh l.length (bitsOf l) = l.map fun x => (x.toNat : Int)
  | [] => rfl
  | x :: l => by
    have e : bitsOf (x :: l) = j9 8 x.toNat ++ bitsOf l := by unfold bitsOf; rw [List.flatMap_cons]
    rw [List.length_cons, bh, e, List.take_left' (bT ..), List.drop_left' (bT ..), HR, eM l]
    rfl
theorem toList_data (s : ByteArray) : s.toList = s.data.toList := by
  exact ByteArray.toList_eq s
theorem bA (s : ByteArray) : bytesOf s = s.data.toList.map fun x => (x.toNat : Int) := by
  unfold bytesOf; rw [toList_data]
abbrev Act := Int × (Int × (Int × (ByteArray × Unit)))
theorem kC {q : List Bool} (h : q.length % 8 = 0) : cw q = [] := by
  apply List.length_eq_zero_iff.1
  rw [js]; exact h
theorem Jy {N : Nat} (hN : 6 ≤ N) (m : List Bool) (hm : m.length ≤ 1000000000) (s : ByteArray) (hs : s.size ≤ 1000000000) :
    Uq N (s, aJ m, nF m, bF m) = some (aJ (bD m ++ aM s), nF (bD m ++ aM s), bF (bD m ++ aM s)) := by
  simp only [Uq, ae]
  have hq := eP m
  have hb := zI (bD m)
  have hbo : (bytesOf s).length = s.size := by rw [bA, List.length_map]; simp
  rw [yn hN m hm, Option.bind_some, if_pos (by simp only [hb, hbo, decide_eq_true_eq]; omega)]
  obtain ⟨p1, p2, p3⟩ := parts (bD m) (aM s)
  have hal := aA s
  rw [kC (q := bD m) (by omega), List.nil_append] at p1 p2 p3
  have e1 : bF (aM s) = bytesOf s := by
    unfold bF
    have hsl : s.data.toList.length = s.size := by simp
    rw [hal, show 8 * s.size / 8 = s.data.toList.length by omega, bA]
    exact eM _
  have e2 : cw (aM s) = [] := kC (by omega)
  have e3 : nF (bD m) = nF (aM s) := by unfold nF; congr 1; omega
  rw [p1, p3, e1]
  simp only [aJ, p2, e2, kC (q := bD m) (by omega), e3]
theorem yf {m : List Bool} (h : m.length % 8 = 0) : bD m = m := by
  unfold bD
  rw [show jz m = 0 by unfold jz; omega]
  simp
theorem LG (b : Bool) : aG 1 (if b then 1 else 0) = [b] := by cases b <;> rfl
theorem LF : aG 2 0 = [false, false] := rfl
theorem HN {n : Nat} (h : n ≤ 65535) : IntKind.wrap .i64 ((BitVec.toNat (BitVec.ofInt 64 (n : Int) ^^^ BitVec.ofInt 64 65535) : Nat) : Int) = ((65535 - n : Nat) : Int) := by
  have e : BitVec.ofInt 64 (65535 : Int) = BitVec.ofNat 64 65535 := rfl
  rw [BitVec.ofInt_natCast, e, BitVec.toNat_xor, BitVec.toNat_ofNat, BitVec.toNat_ofNat, Nat.mod_eq_of_lt (by omega), Nat.mod_eq_of_lt (by decide)]
  have hx : n ^^^ 65535 = 65535 - n := by
    have h2 : (65535 : Nat) = 2 ^ 16 - 1 := rfl
    apply Nat.eq_of_testBit_eq
    intro i
    rw [Nat.testBit_xor, h2, Nat.testBit_two_pow_sub_one, show 2 ^ 16 - 1 - n = 2 ^ 16 - (n + 1) by omega, Nat.testBit_two_pow_sub_succ (by omega)]
    by_cases hi : i < 16
    · simp [hi]
    · have : n.testBit i = false := Nat.testBit_lt_two_pow (Nat.lt_of_lt_of_le (show n < 2 ^ 16 by omega) (Nat.pow_le_pow_right (by decide) (by omega)))
      simp [hi, this]
  rw [hx, wrap_i64 (by omega) (by omega)]
theorem jl (s : ByteArray) : (ByteArray.toList s == []) = decide (s.size = 0) := by
  have h : s.toList.length = s.size := by rw [toList_data]; simp
  cases hl : s.toList with
  | nil =>
    have : s.size = 0 := by rw [hl] at h; exact h.symm
    simp [this]
  | cons x l =>
    have : s.size ≠ 0 := by rw [hl, List.length_cons] at h; omega
    simp [this]
def cm (m : List Bool) (s : ByteArray) (b : Bool) : List Bool :=
  bD (m ++ [b, false, false]) ++ aG 16 (s.size : Int) ++ aG 16 ((65535 - s.size : Nat) : Int) ++ aM s
theorem I4 (b : Bool) (m : List Bool) (hm : m.length ≤ 100000000) (k : Int) : N1 200000 (b, k, aJ m, nF m, bF m) = some (aJ (m ++ ([b] ++ aG 2 k)), nF (m ++ ([b] ++ aG 2 k)), bF (m ++ ([b] ++ aG 2 k))) := by
  simp only [N1, ae]
  have h2 : (aG 2 k).length = 2 := by rw [am]; rfl
  cases b with
  | true =>
    rw [if_pos rfl, bd (by decide) m (by omega), Option.bind_some, show aG 1 1 = [true] from rfl, bd (by decide) _ (by simp; omega), Option.bind_some, List.append_assoc]
  | false =>
    rw [if_neg (by decide), bd (by decide) m (by omega), Option.bind_some, show aG 1 0 = [false] from rfl, bd (by decide) _ (by simp; omega), Option.bind_some, List.append_assoc]
theorem sM (m : List Bool) (s : ByteArray) (b : Bool) : (cm m s b).length ≤ m.length + 8 * s.size + 50 ∧ (cm m s b).length % 8 = 0 := by
  have h1 := eP (m ++ [b, false, false])
  have h0 : (m ++ [b, false, false]).length = m.length + 3 := by simp
  have h2 := aA s
  have p16 : ∀ v, (aG 16 v).length = 16 := fun v => by rw [am]; rfl
  have h : (cm m s b).length = (bD (m ++ [b, false, false])).length + 16 + 16 + (aM s).length := by
    unfold cm
    rw [List.length_append, List.length_append, List.length_append, p16, p16]
  omega
theorem Ee (s : ByteArray) (hs : s.size ≤ 65535) (b : Bool) (m : List Bool) (hm : m.length ≤ 100000000) : ∃ y1 y2 y3 : Int × Int × List Int,
    N1 200000 (b, 0, aJ m, nF m, bF m) = some y1 ∧ RH 200000 (y1.1, y1.2.1, y1.2.2) = some y2 ∧ vU 200000 (16, (s.size : Int), y2.1, y2.2.1, y2.2.2) = some y3 ∧
    ∃ y4, vU 200000 (16, ((65535 - s.size : Nat) : Int), y3.1, y3.2.1, y3.2.2) = some y4 ∧ Uq 200000 (s, y4.1, y4.2.1, y4.2.2) = some (aJ (cm m s b), nF (cm m s b), bF (cm m s b)) := by
  have h1 := I4 b m hm 0
  rw [LF] at h1
  have e : ([b] ++ [false, false]) = [b, false, false] := rfl
  rw [e] at h1
  have hl := eP (m ++ [b, false, false])
  have hl0 : (m ++ [b, false, false]).length = m.length + 3 := by simp
  have p16 : ∀ v, (aG 16 v).length = 16 := fun v => by rw [am]; rfl
  have ha : bD (bD (m ++ [b, false, false]) ++ aG 16 (s.size : Int) ++ aG 16 ((65535 - s.size : Nat) : Int)) = bD (m ++ [b, false, false]) ++ aG 16 (s.size : Int) ++ aG 16 ((65535 - s.size : Nat) : Int) := yf (by
    simp only [List.length_append, p16, hl]; omega)
  have h5 := Jy (N := 200000) (by decide) (bD (m ++ [b, false, false]) ++ aG 16 (s.size : Int) ++ aG 16 ((65535 - s.size : Nat) : Int)) (by
    simp only [List.length_append, p16, hl]; simp; omega) s (by omega)
  rw [ha] at h5
  exact ⟨_, _, _, h1, yn (by decide) _ (by omega), bd (by decide) _ (by rw [hl]; omega) _ _, _, bd (by decide) _ (by rw [List.length_append, p16, hl]; omega) _ _, h5⟩
def bO (p : List Int) : List Int := (List.range 16).map fun (l : Nat) => ((p.count (l : Int) : Nat) : Int)
theorem ud (p : List Int) : (bO p).length = 16 := by simp [bO]
theorem gE (p : List Int) {k : Nat} (h : k < 16) : (bO p)[k]? = some (p.count (k : Int) : Int) := by
  unfold bO; rw [List.getElem?_map, List.getElem?_range h]; rfl
theorem Jg (p : List Int) {x : Nat} (hx : x < 16) : (bO p).set x ((p.count (x : Int) : Int) + 1) = bO (p ++ [(x : Int)]) := by
  apply List.ext_getElem?
  intro k
  by_cases hk : k < 16
  · rw [gE _ hk, List.count_append]
    by_cases e : x = k
    · subst e
      rw [List.getElem?_set_self (by rw [ud]; exact hx)]
      simp
    · rw [List.getElem?_set_ne e, gE _ hk, List.count_singleton]
      have : ((x : Int) == (k : Int)) = false := by simp; omega
      simp [this]
  · rw [List.getElem?_eq_none (by rw [List.length_set, ud]; omega), List.getElem?_eq_none (by rw [ud]; omega)]
def okB (lens : List Int) : Bool := lens.all fun x => decide (0 ≤ x) && decide (x ≤ 15)
theorem kJ {lens : List Int} (h : okB lens = true) {i : Nat} (hi : i < lens.length) : 0 ≤ lens[i] ∧ lens[i] ≤ 15 := by
  have := List.all_eq_true.1 h _ (List.getElem_mem hi)
  simpa using this
theorem NQ (N : Nat) (lens m : List Int) (hl : lens.length ≤ 320) : ∀ (d i f : Nat), i + d = lens.length → d < f →
    (okB (lens.drop i) = true → fO N f ((lens.length : Int), lens, (i : Int), bO (lens.take i), m) = some (.inr (bO lens, m))) ∧
    (okB (lens.drop i) = false → ∃ c, fO N f ((lens.length : Int), lens, (i : Int), bO (lens.take i), m) = some (.inl (50, c))) := by
  intro d
  induction d with
  | zero =>
    intro i f hi hf
    cases f with
    | zero => omega
    | succ f =>
      have e : lens.drop i = [] := List.drop_eq_nil_of_le (by omega)
      rw [e]
      refine ⟨fun _ => ?_, fun h => by cases h⟩
      simp only [fO, sc, ae]
      rw [aV (by omega), List.take_of_length_le (by omega)]
  | succ d ih =>
    intro i f hi hf
    cases f with
    | zero => omega
    | succ f =>
      have hd : lens.drop i = lens[i] :: lens.drop (i + 1) := List.drop_eq_getElem_cons (by omega)
      have ih' := ih (i + 1) f (by omega) (by omega)
      have hw : IntKind.wrap .i64 ((i : Int) + 1) = ((i + 1 : Nat) : Int) := by rw [wrap_i64 (by omega) (by omega)]; omega
      have ht : lens.take (i + 1) = lens.take i ++ [lens[i]] := by rw [List.take_add_one, List.getElem?_eq_getElem (by omega)]; rfl
      have hok : okB (lens.drop i) = ((decide (0 ≤ lens[i]) && decide (lens[i] ≤ 15)) && okB (lens.drop (i + 1))) := by rw [hd]; rfl
      simp only [fO, sc, ae]
      rw [if_pos (show decide ((i : Int) < (lens.length : Int)) = true by simp only [decide_eq_true_eq]; omega), if_pos (show within (i : Int) lens.length = true by unfold within; simp only [decide_eq_true_eq]; omega), Int.toNat_natCast, List.getElem?_eq_getElem (show i < lens.length by omega), Option.bind_some]
      by_cases h1 : lens[i] < 0
      · have hf : okB (lens.drop i) = false := by rw [hok, decide_eq_false (show ¬ 0 ≤ lens[i] by omega)]; rfl
        rw [hf, if_pos (by simpa using h1)]
        exact ⟨fun h => (by cases h), fun _ => ⟨_, rfl⟩⟩
      by_cases h2 : lens[i] > 15
      · have hf : okB (lens.drop i) = false := by rw [hok, decide_eq_false (show ¬ lens[i] ≤ 15 by omega), Bool.and_false]; rfl
        rw [hf, if_neg (by simpa using h1), if_pos (by simpa using h2)]
        exact ⟨fun h => (by cases h), fun _ => ⟨_, rfl⟩⟩
      have hok2 : okB (lens.drop i) = okB (lens.drop (i + 1)) := by rw [hok, decide_eq_true (show 0 ≤ lens[i] by omega), decide_eq_true (show lens[i] ≤ 15 by omega)]; rfl
      obtain ⟨x, hx⟩ := Int.eq_ofNat_of_zero_le (show 0 ≤ lens[i] by omega)
      rw [hok2, if_neg (by simpa using h1), if_neg (by simpa using h2)]
      rw [ht] at ih'
      rw [hx] at ih' ⊢
      have hx16 : x < 16 := by omega
      have hcl : (lens.take i).count (x : Int) ≤ 320 := Nat.le_trans List.count_le_length (by rw [List.length_take]; omega)
      rw [if_pos (show within (x : Int) 16 = true by unfold within; simp only [decide_eq_true_eq]; omega), Int.toNat_natCast, gE _ hx16, Option.bind_some, if_pos (show within (x : Int) 16 = true by unfold within; simp only [decide_eq_true_eq]; omega), Option.bind_some, hw, wrap_i64 (by omega) (by omega), Jg _ hx16]
      refine ⟨fun h => ?_, fun h => ?_⟩
      · rw [ih'.1 h]; rfl
      · obtain ⟨c, hc⟩ := ih'.2 h
        rw [hc]
        exact ⟨c, rfl⟩
def xN (lens : List Int) : Bool := decide (lens.length ≤ 320) && okB lens
theorem MN : bO [] = [0, 0, 0, 0, 0, 0, 0, 0, 0, 0, 0, 0, 0, 0, 0, 0] := rfl
theorem vF {N : Nat} (hN : 400 ≤ N) (lens : List Int) : ∃ c, Um N lens = some (c, bif xN lens then 0 else 50) ∧ (xN lens = true → c = bO lens) := by
  unfold xN
  simp only [Um, ae]
  by_cases h : (320 : Int) < (lens.length : Int)
  · rw [if_pos (by simpa using h), decide_eq_false (show ¬ lens.length ≤ 320 by omega)]
    exact ⟨_, rfl, fun hh => by cases hh⟩
  · rw [if_neg (by simpa using h), decide_eq_true (show lens.length ≤ 320 by omega), Bool.true_and]
    have hl := NQ N lens [0, 0, 0, 0, 0, 0, 0, 0, 0, 0, 0, 0, 0, 0, 0, 0] (by omega) lens.length 0 N (by omega) (by omega)
    rw [List.drop_zero, List.take_zero, MN, show ((0 : Nat) : Int) = 0 from rfl] at hl
    cases hb : okB lens with
    | true =>
      rw [hl.1 hb, Option.bind_some]
      exact ⟨_, rfl, fun _ => rfl⟩
    | false =>
      obtain ⟨c, hc⟩ := hl.2 hb
      rw [hc, Option.bind_some]
      exact ⟨_, rfl, fun h => by cases h⟩
def lf (lens : List Int) : Nat → Int
  | 0 => 1
  | l + 1 => 2 * lf lens l - (lens.count ((l + 1 : Nat) : Int) : Int)
theorem LW (lens : List Int) (l k : Nat) (h : lf lens l < 0) : lf lens (l + k) < 0 := by
  induction k with
  | zero => exact h
  | succ k ih => rw [← Nat.add_assoc, lf]; omega
theorem Rh (lens : List Int) : ∀ l, lf lens l ≤ 2 ^ l
  | 0 => by rw [lf]; decide
  | l + 1 => by
    have := Rh lens l
    rw [lf, Int.pow_succ]
    omega
theorem NR (N : Nat) (lens : List Int) (hl : lens.length ≤ 320) : ∀ (d l f : Nat), l + d = 15 → d + 1 < f → 0 ≤ lf lens l →
    ∃ z, dZ N f (lf lens l, 0, ((l + 1 : Nat) : Int), bO lens) = some (if 0 ≤ lf lens 15 then (lf lens 15, 0) else (z, 50)) := by
  intro d
  induction d with
  | zero =>
    intro l f hi hf h0
    cases f with
    | zero => omega
    | succ f =>
      have : l = 15 := by omega
      subst this
      simp only [dZ, my, ae]
      refine ⟨0, ?_⟩
      rw [if_neg (by decide), if_pos h0]
  | succ d ih =>
    intro l f hi hf h0
    cases f with
    | zero => omega
    | succ f =>
      have hb := Rh lens l
      have hp : (2 : Int) ^ l ≤ 32768 := by
        have : (2 : Nat) ^ l ≤ 2 ^ 15 := Nat.pow_le_pow_right (by decide) (by omega)
        have h2 : ((2 ^ l : Nat) : Int) ≤ ((2 ^ 15 : Nat) : Int) := Int.ofNat_le.2 this
        simpa using h2
      have hc : lens.count ((l + 1 : Nat) : Int) ≤ 320 := Nat.le_trans List.count_le_length hl
      have e : lf lens (l + 1) = 2 * lf lens l - (lens.count ((l + 1 : Nat) : Int) : Int) := rfl
      simp only [dZ, my, ae]
      rw [aY (by omega), if_pos (by simp), if_pos (show within ((l + 1 : Nat) : Int) 16 = true by unfold within; simp only [decide_eq_true_eq]; omega), Int.toNat_natCast, gE _ (by omega), Option.bind_some, wrap_i64 (z := lf lens l * 2) (by omega) (by omega), wrap_i64 (z := lf lens l * 2 - _) (by omega) (by omega), wrap_i64 (z := ((l + 1 : Nat) : Int) + 1) (by omega) (by omega), show lf lens l * 2 - (lens.count ((l + 1 : Nat) : Int) : Int) = lf lens (l + 1) by rw [e]; omega]
      by_cases hneg : lf lens (l + 1) < 0
      · rw [if_pos (by simpa using hneg)]
        have h15 : lf lens 15 < 0 := by
          have := LW lens (l + 1) (15 - (l + 1)) hneg
          rwa [show l + 1 + (15 - (l + 1)) = 15 by omega] at this
        cases f with
        | zero => omega
        | succ f =>
          simp only [dZ, my, ae]
          refine ⟨lf lens (l + 1), ?_⟩
          rw [if_neg (show ¬ 0 ≤ lf lens 15 by omega)]
          split <;> rfl
      · rw [if_neg (by simpa using hneg)]
        obtain ⟨z, hz⟩ := ih (l + 1) f (by omega) (by omega) (by omega)
        rw [show ((l + 1 : Nat) : Int) + 1 = ((l + 1 + 1 : Nat) : Int) by omega, hz]
        exact ⟨z, rfl⟩
def chk (lens : List Int) : Int × Int := if xN lens = true ∧ 0 ≤ lf lens 15 then (lf lens 15, 0) else (0, 50)
theorem Hy {N : Nat} (hN : 400 ≤ N) (lens : List Int) : UK N lens = some (chk lens) := by
  obtain ⟨c, hc, hcc⟩ := vF hN lens
  unfold chk
  simp only [UK, ae]
  rw [hc, Option.bind_some]
  simp only
  cases hok : xN lens with
  | false =>
    rw [if_neg (by simp)]
    simp only [cond_false]
    cases N with
    | zero => omega
    | succ N =>
      simp only [dZ, my, ae]
      rw [if_pos (by decide), if_neg (by decide), Option.bind_some, if_pos (by decide)]
  | true =>
    rw [hcc hok]
    simp only [cond_true]
    have hl : lens.length ≤ 320 := by
      unfold xN at hok
      simp only [Bool.and_eq_true, decide_eq_true_eq] at hok
      exact hok.1
    obtain ⟨z, hz⟩ := NR N lens hl 15 0 N (by omega) (by omega) (by rw [lf]; decide)
    have hz : dZ N N (1, 0, 1, bO lens) = _ := hz
    rw [hz, Option.bind_some]
    by_cases h : 0 ≤ lf lens 15
    · have e1 : (if 0 ≤ lf lens 15 then (lf lens 15, (0 : Int)) else (z, 50)) = (lf lens 15, 0) := if_pos h
      have e2 : (if (True ∧ 0 ≤ lf lens 15) then (lf lens 15, (0 : Int)) else (0, 50)) = (lf lens 15, 0) := if_pos ⟨trivial, h⟩
      rw [e1, e2]
      rfl
    · have e1 : (if 0 ≤ lf lens 15 then (lf lens 15, (0 : Int)) else (z, 50)) = (z, 50) := if_neg h
      have e2 : (if (True ∧ 0 ≤ lf lens 15) then (lf lens 15, (0 : Int)) else (0, 50)) = (0, 50) := if_neg fun hh => h hh.2
      rw [e1, e2]
      rfl
theorem NP (N : Nat) (k : Nat) (hk : k ≤ 60) : ∀ (d i f : Nat), i + d = k → d < f → vE N f ((2 : Int) ^ i, (i : Int), (k : Int)) = some ((2 : Int) ^ k) := by
  intro d
  induction d with
  | zero =>
    intro i f hi hf
    cases f with
    | zero => omega
    | succ f =>
      simp only [vE, GC, ae]
      rw [aV (by omega), show i = k by omega]
  | succ d ih =>
    intro i f hi hf
    cases f with
    | zero => omega
    | succ f =>
      have hp : (2 : Int) ^ i ≤ 1152921504606846976 := by
        have : (2 : Nat) ^ i ≤ 2 ^ 60 := Nat.pow_le_pow_right (by decide) (by omega)
        have h2 : ((2 ^ i : Nat) : Int) ≤ ((2 ^ 60 : Nat) : Int) := Int.ofNat_le.2 this
        simpa using h2
      have hp0 : (0 : Int) < 2 ^ i := Int.pow_pos (by decide)
      simp only [vE, GC, ae]
      rw [aY (by omega), wrap_i64 (z := 2 ^ i * 2) (by omega) (by omega), wrap_i64 (by omega) (by omega), ← Int.pow_succ, show ((i : Int) + 1) = ((i + 1 : Nat) : Int) by omega, ih (i + 1) f (by omega) (by omega), Option.bind_some]
theorem QF {N : Nat} (hN : 61 < N) (k : Nat) (hk : k ≤ 60) : Yt N (k : Int) = some ((2 : Int) ^ k) := by
  simp only [Yt, ae]
  have := NP N k hk k 0 N (by omega) (by omega)
  rw [Int.pow_zero, show ((0 : Nat) : Int) = 0 from rfl] at this
  rw [this, Option.bind_some]
def ko : List Int → Int
  | [] => 0
  | x :: l => (if 0 < x then (2 : Int) ^ (15 - x).toNat else 0) + ko l
theorem qT : ∀ a b : List Int, ko (a ++ b) = ko a + ko b
  | [], b => by simp [ko]
  | x :: a, b => by rw [List.cons_append, ko, ko, qT a b]; omega
def gm (l : Nat) : List Int → Int
  | [] => 0
  | x :: r => (if 0 < x ∧ x ≤ (l : Int) then (2 : Int) ^ (15 - x).toNat else 0) + gm l r
theorem qV (l : Nat) (hl : l < 15) : ∀ r : List Int, gm (l + 1) r = gm l r + (r.count ((l + 1 : Nat) : Int) : Int) * 2 ^ (15 - (l + 1))
  | [] => by simp [gm]
  | x :: r => by
    rw [gm, gm, qV l hl r, List.count_cons]
    by_cases e : x = ((l + 1 : Nat) : Int)
    · subst e
      rw [if_pos (by omega), if_neg (by omega)]
      have : (15 - ((l + 1 : Nat) : Int)).toNat = 15 - (l + 1) := by omega
      rw [this]
      simp only [beq_self_eq_true, if_true, Int.natCast_add, Int.natCast_one, Int.add_mul, Int.one_mul, Int.zero_add]
      omega
    · have hb : (x == ((l + 1 : Nat) : Int)) = false := by simpa using e
      rw [hb]
      simp only [Bool.false_eq_true, if_false, Nat.add_zero]
      by_cases h : 0 < x ∧ x ≤ (l : Int)
      · rw [if_pos h, if_pos (by omega)]; omega
      · rw [if_neg h, if_neg (by omega)]; omega
theorem qU : ∀ r : List Int, gm 0 r = 0
  | [] => rfl
  | x :: r => by rw [gm, qU r, if_neg (by omega)]; rfl
theorem jk : ∀ r : List Int, okB r = true → gm 15 r = ko r
  | [], _ => rfl
  | x :: r, h => by
    have h' : (decide (0 ≤ x) && decide (x ≤ 15)) = true ∧ okB r = true := by
      unfold okB at h ⊢
      rw [List.all_cons, Bool.and_eq_true] at h
      exact h
    simp only [Bool.and_eq_true, decide_eq_true_eq] at h'
    rw [gm, ko, jk r h'.2]
    by_cases h0 : 0 < x
    · rw [if_pos h0, if_pos (by omega)]
    · rw [if_neg h0, if_neg (by omega)]
theorem rY (lens : List Int) : ∀ l, l ≤ 15 → lf lens l * 2 ^ (15 - l) = 32768 - gm l lens
  | 0, _ => by rw [lf, qU]; decide
  | l + 1, h => by
    have ih := rY lens l (by omega)
    rw [qV l (by omega), lf, Int.sub_mul, Int.mul_assoc, Int.mul_comm 2, Int.mul_assoc, Int.mul_comm _ 2]
    have e : (2 : Int) ^ (15 - l) = 2 * 2 ^ (15 - (l + 1)) := by
      rw [show 15 - l = (15 - (l + 1)) + 1 by omega, Int.pow_succ, Int.mul_comm]
    rw [e] at ih
    omega
abbrev sa := Int × (Int × Unit)
def first (lens : List Int) : Nat → Nat
  | 0 => 0
  | 1 => 0
  | l + 2 => 2 * (first lens (l + 1) + lens.count ((l + 1 : Nat) : Int))
theorem CC (lens : List Int) (hl : lens.length ≤ 320) : ∀ l, first lens l + 640 ≤ 640 * 2 ^ l
  | 0 => by simp [first]
  | 1 => by simp [first]
  | l + 2 => by
    have := CC lens hl (l + 1)
    have hc : lens.count ((l + 1 : Nat) : Int) ≤ 320 := Nat.le_trans List.count_le_length hl
    have hp : 1 ≤ 2 ^ l := Nat.one_le_two_pow
    rw [first]
    have e1 : 2 ^ (l + 1) = 2 * 2 ^ l := by rw [Nat.pow_succ]; omega
    have e2 : 2 ^ (l + 2) = 4 * 2 ^ l := by rw [Nat.pow_succ, e1]; omega
    rw [e1] at this
    rw [e2]
    generalize 2 ^ l = q at *
    omega
theorem kV (lens : List Int) (hl : lens.length ≤ 320) {l : Nat} (h : l ≤ 15) : first lens l ≤ 20971520 := by
  have h1 := CC lens hl l
  have h2 : 2 ^ l ≤ 2 ^ 15 := Nat.pow_le_pow_right (by decide) h
  omega
def bX (lens : List Int) (i : Nat) : sa :=
  let x := lens.getD i 0
  if 0 < x then (((first lens x.toNat + (lens.take i).count x : Nat) : Int), x, ()) else (0, 0, ())
def af (lens : List Int) : List sa := (List.range lens.length).map (bX lens)
def iJ (lens : List Int) (i : Nat) : List sa := (List.range lens.length).map fun j => if j < i then bX lens j else (0, 0, ())
theorem dI (lens : List Int) (i : Nat) : (iJ lens i).length = lens.length := by simp [iJ]
theorem ey (lens : List Int) (i : Nat) {j : Nat} (h : j < lens.length) : (iJ lens i)[j]? = some (if j < i then bX lens j else (0, 0, ())) := by
  unfold iJ; rw [List.getElem?_map, List.getElem?_range h]; rfl
theorem IV (lens : List Int) {i : Nat} (h : i < lens.length) : (iJ lens i).set i (bX lens i) = iJ lens (i + 1) := by
  apply List.ext_getElem?
  intro k
  by_cases hk : k < lens.length
  · rw [ey _ _ hk]
    by_cases e : i = k
    · subst e
      rw [List.getElem?_set_self (by rw [dI]; exact h), if_pos (by omega)]
    · rw [List.getElem?_set_ne e, ey _ _ hk]
      by_cases hlt : k < i
      · rw [if_pos hlt, if_pos (by omega)]
      · rw [if_neg hlt, if_neg (by omega)]
  · rw [List.getElem?_eq_none (by rw [List.length_set, dI]; omega), List.getElem?_eq_none (by rw [dI]; omega)]
theorem Ev (lens : List Int) {i : Nat} (h : i < lens.length) (h0 : ¬ 0 < lens[i]) : iJ lens i = iJ lens (i + 1) := by
  apply List.ext_getElem?
  intro k
  by_cases hk : k < lens.length
  · rw [ey _ _ hk, ey _ _ hk]
    by_cases e : k = i
    · subst e
      rw [if_neg (by omega), if_pos (by omega)]
      unfold bX
      have hg : lens.getD k 0 = lens[k] := by rw [List.getD, List.getElem?_eq_getElem h]; rfl
      rw [hg]
      simp only
      rw [if_neg h0]
    · by_cases hlt : k < i
      · rw [if_pos hlt, if_pos (by omega)]
      · rw [if_neg hlt, if_neg (by omega)]
  · rw [List.getElem?_eq_none (by rw [dI]; omega), List.getElem?_eq_none (by rw [dI]; omega)]
def LQ (lens : List Int) (i : Nat) : List Int := (List.range 16).map fun (k : Nat) => (((if k = 0 then 0 else first lens k + (lens.take i).count (k : Int)) : Nat) : Int)
theorem l9 (lens : List Int) (i : Nat) : (LQ lens i).length = 16 := by simp [LQ]
theorem ma (lens : List Int) (i : Nat) {k : Nat} (h : k < 16) : (LQ lens i)[k]? = some (((if k = 0 then 0 else first lens k + (lens.take i).count (k : Int)) : Nat) : Int) := by
  unfold LQ; rw [List.getElem?_map, List.getElem?_range h]; rfl
theorem iC {lens : List Int} {i : Nat} (h : i < lens.length) : lens.take (i + 1) = lens.take i ++ [lens[i]] := by
  rw [List.take_add_one, List.getElem?_eq_getElem h]; rfl
theorem Pb (lens : List Int) {i x : Nat} (h : i < lens.length) (hx : lens[i] = (x : Int)) (h0 : 0 < x) (h16 : x < 16) :
    (LQ lens i).set x (((first lens x + (lens.take i).count (x : Int) : Nat) : Int) + 1) = LQ lens (i + 1) := by
  apply List.ext_getElem?
  intro k
  by_cases hk : k < 16
  · rw [ma _ _ hk, iC h, hx, List.count_append]
    by_cases e : x = k
    · subst e
      rw [List.getElem?_set_self (by rw [l9]; exact h16), if_neg (by omega)]
      simp
      omega
    · rw [List.getElem?_set_ne e, ma _ _ hk, List.count_singleton]
      have : ((x : Int) == (k : Int)) = false := by simp; omega
      simp [this]
  · rw [List.getElem?_eq_none (by rw [List.length_set, l9]; omega), List.getElem?_eq_none (by rw [l9]; omega)]
theorem LP (lens : List Int) {i : Nat} (h : i < lens.length) (h0 : lens[i] = 0) : LQ lens i = LQ lens (i + 1) := by
  apply List.ext_getElem?
  intro k
  by_cases hk : k < 16
  · rw [ma _ _ hk, ma _ _ hk, iC h, h0, List.count_append, List.count_singleton]
    by_cases e : k = 0
    · rw [if_pos e, if_pos e]
    · have : ((0 : Int) == (k : Int)) = false := by simp; omega
      rw [if_neg e, if_neg e, this]
      simp
  · rw [List.getElem?_eq_none (by rw [l9]; omega), List.getElem?_eq_none (by rw [l9]; omega)]
theorem Jt (N : Nat) (lens : List Int) (hl : lens.length ≤ 320) (hok : okB lens = true) : ∀ (d i f : Nat), i + d = lens.length → d < f →
    fl N f ((i : Int), (lens.length : Int), lens, iJ lens i, LQ lens i) = some (iJ lens lens.length) := by
  intro d
  induction d with
  | zero =>
    intro i f hi hf
    cases f with
    | zero => omega
    | succ f =>
      simp only [fl, pm, ae]
      rw [aV (by omega), show i = lens.length by omega]
  | succ d ih =>
    intro i f hi hf
    cases f with
    | zero => omega
    | succ f =>
      have hil : i < lens.length := by omega
      obtain ⟨b1, b2⟩ := kJ hok hil
      obtain ⟨x, hx⟩ := Int.eq_ofNat_of_zero_le b1
      have ih' := ih (i + 1) f (by omega) (by omega)
      have hw : IntKind.wrap .i64 ((i : Int) + 1) = ((i + 1 : Nat) : Int) := by rw [wrap_i64 (by omega) (by omega)]; omega
      have hc : decide ((i : Int) < (lens.length : Int)) = true := by simp only [decide_eq_true_eq]; omega
      have hwi : within (i : Int) lens.length = true := by unfold within; simp only [decide_eq_true_eq]; omega
      have hg : lens[i]? = some lens[i] := List.getElem?_eq_getElem hil
      simp only [fl, pm, hc, hwi, hg, Int.toNat_natCast, if_true, Option.bind_some, hw, ae]
      by_cases h0 : 0 < lens[i]
      · have hx0 : 0 < x := by omega
        have hx16 : x < 16 := by omega
        have hwx : within (x : Int) 16 = true := by unfold within; simp only [decide_eq_true_eq]; omega
        have hwo : within (i : Int) (iJ lens i).length = true := by rw [dI]; exact hwi
        have hng : (LQ lens i)[x]? = some (((first lens x + (lens.take i).count (x : Int) : Nat)) : Int) := by rw [ma _ _ hx16, if_neg (by omega)]
        have hog := ey lens i hil
        have hfs := kV lens hl (show x ≤ 15 by omega)
        have hcl : (lens.take i).count (x : Int) ≤ 320 := Nat.le_trans List.count_le_length (by rw [List.length_take]; omega)
        have hca : bX lens i = ((((first lens x + (lens.take i).count (x : Int) : Nat)) : Int), (x : Int), ()) := by
          unfold bX
          have hgd : lens.getD i 0 = lens[i] := by rw [List.getD, hg]; rfl
          rw [hgd, hx]
          simp only [Int.toNat_natCast]
          rw [if_pos (by omega)]
        rw [if_pos (by simpa using h0), hx]
        simp only [hwx, hwo, hng, hog, Int.toNat_natCast, if_true, Option.bind_some]
        rw [← hca, IV lens hil, wrap_i64 (by omega) (by omega), Pb lens hil hx hx0 hx16, ih', Option.bind_some]
      · rw [if_neg (by simpa using h0)]
        rw [Ev lens hil h0, LP lens hil (by omega), ih', Option.bind_some]
def j8 (lens : List Int) (l : Nat) : List Int := (List.range 16).map fun (k : Nat) => (((if k ≤ l then first lens k else 0) : Nat) : Int)
theorem me (lens : List Int) (l : Nat) : (j8 lens l).length = 16 := by simp [j8]
theorem iU (lens : List Int) (l : Nat) {k : Nat} (h : k < 16) : (j8 lens l)[k]? = some (((if k ≤ l then first lens k else 0) : Nat) : Int) := by
  unfold j8; rw [List.getElem?_map, List.getElem?_range h]; rfl
theorem I5 (lens : List Int) {l : Nat} (h : l + 1 < 16) : (j8 lens l).set (l + 1) ((first lens (l + 1) : Nat) : Int) = j8 lens (l + 1) := by
  apply List.ext_getElem?
  intro k
  by_cases hk : k < 16
  · rw [iU _ _ hk]
    by_cases e : l + 1 = k
    · subst e
      rw [List.getElem?_set_self (by rw [me]; exact hk), if_pos (by omega)]
    · rw [List.getElem?_set_ne e, iU _ _ hk]
      by_cases hlt : k ≤ l
      · rw [if_pos hlt, if_pos (by omega)]
      · rw [if_neg hlt, if_neg (by omega)]
  · rw [List.getElem?_eq_none (by rw [List.length_set, me]; omega), List.getElem?_eq_none (by rw [me]; omega)]
theorem Ju (N : Nat) (lens : List Int) (hl : lens.length ≤ 320) : ∀ (d l f : Nat), l + d = 14 → d + 1 < f →
    fR N f (((l + 1 : Nat) : Int), lens, bO lens, j8 lens (l + 1)) = some (lens, j8 lens 15) := by
  intro d
  induction d with
  | zero =>
    intro l f hi hf
    cases f with
    | zero => omega
    | succ f =>
      have : l = 14 := by omega
      subst this
      simp only [fR, sg, ae]
      rw [if_neg (by decide)]
  | succ d ih =>
    intro l f hi hf
    cases f with
    | zero => omega
    | succ f =>
      have ih' := ih (l + 1) f (by omega) (by omega)
      have hw : IntKind.wrap .i64 (((l + 1 : Nat) : Int) + 1) = ((l + 1 + 1 : Nat) : Int) := by rw [wrap_i64 (by omega) (by omega)]; omega
      have hc : decide (((l + 1 : Nat) : Int) < 15) = true := by simp only [decide_eq_true_eq]; omega
      have hwi : within ((l + 1 : Nat) : Int) 16 = true := by unfold within; simp only [decide_eq_true_eq]; omega
      have hwj : within ((l + 1 + 1 : Nat) : Int) 16 = true := by unfold within; simp only [decide_eq_true_eq]; omega
      have g1 : (j8 lens (l + 1))[l + 1]? = some ((first lens (l + 1) : Nat) : Int) := by rw [iU _ _ (by omega), if_pos (by omega)]
      have g2 := gE lens (show l + 1 < 16 by omega)
      have g3 : (j8 lens (l + 1))[l + 1 + 1]? = some (0 : Int) := by rw [iU _ _ (by omega), if_neg (by omega)]; rfl
      have hfs := kV lens hl (show l + 1 ≤ 15 by omega)
      have hcl : lens.count ((l + 1 : Nat) : Int) ≤ 320 := Nat.le_trans List.count_le_length hl
      simp only [fR, sg, hc, hwi, hw, hwj, g1, g2, g3, Int.toNat_natCast, if_true, Option.bind_some, ae]
      have e : IntKind.wrap .i64 (IntKind.wrap .i64 (((first lens (l + 1) : Nat) : Int) + (lens.count ((l + 1 : Nat) : Int) : Int)) * 2) = ((first lens (l + 1 + 1) : Nat) : Int) := by
        rw [wrap_i64 (z := ((first lens (l + 1) : Nat) : Int) + _) (by omega) (by omega), wrap_i64 (by omega) (by omega), first]; omega
      rw [e, I5 lens (show l + 1 + 1 < 16 by omega), ih', Option.bind_some]
theorem IW (lens : List Int) : iJ lens lens.length = af lens := by
  apply List.ext_getElem?
  intro k
  by_cases hk : k < lens.length
  · rw [ey _ _ hk, if_pos hk]
    unfold af
    rw [List.getElem?_map, List.getElem?_range hk]; rfl
  · rw [List.getElem?_eq_none (by rw [dI]; omega), List.getElem?_eq_none (by simp [af]; omega)]
theorem Eu (lens : List Int) : iJ lens 0 = List.replicate lens.length (0, 0, ()) := by
  apply List.ext_getElem?
  intro k
  by_cases hk : k < lens.length
  · rw [ey _ _ hk, if_neg (by omega), List.getElem?_replicate, if_pos hk]
  · rw [List.getElem?_eq_none (by rw [dI]; omega), List.getElem?_eq_none (by simp; omega)]
theorem LO (lens : List Int) : LQ lens 0 = j8 lens 15 := by
  apply List.ext_getElem?
  intro k
  by_cases hk : k < 16
  · rw [ma _ _ hk, iU _ _ hk, if_pos (show k ≤ 15 by omega)]
    by_cases e : k = 0
    · subst e; rfl
    · rw [if_neg e]; simp
  · rw [List.getElem?_eq_none (by rw [l9]; omega), List.getElem?_eq_none (by rw [me]; omega)]
theorem I6 (lens : List Int) : j8 lens (0 + 1) = [0, 0, 0, 0, 0, 0, 0, 0, 0, 0, 0, 0, 0, 0, 0, 0] := rfl
theorem qK {N : Nat} (hN : 400 ≤ N) (lens : List Int) : RF N lens = some (if (chk lens).2 = 0 then (0, af lens) else ((chk lens).2, [])) := by
  obtain ⟨c, hc, hcc⟩ := vF hN lens
  simp only [RF, ae]
  rw [Hy hN, Option.bind_some]
  by_cases h : (chk lens).2 = 0
  · have hok : xN lens = true := by
      unfold chk at h
      by_cases hh : xN lens = true ∧ 0 ≤ lf lens 15
      · exact hh.1
      · rw [if_neg hh] at h; cases h
    have hb : okB lens = true ∧ lens.length ≤ 320 := by
      unfold xN at hok
      simp only [Bool.and_eq_true, decide_eq_true_eq] at hok
      exact ⟨hok.2, hok.1⟩
    rw [if_neg (by simpa using h), if_pos h, hc, Option.bind_some, hcc hok]
    have l1 := Ju N lens hb.2 14 0 N (by omega) (by omega)
    rw [I6] at l1
    simp only
    rw [show (((0 + 1 : Nat)) : Int) = 1 from rfl] at l1
    rw [l1, Option.bind_some]
    simp only
    have l2 := Jt N lens hb.2 hb.1 lens.length 0 N (by omega) (by omega)
    rw [Eu, LO, IW, show ((0 : Nat) : Int) = 0 from rfl] at l2
    rw [aY (by omega), Int.toNat_natCast, l2, Option.bind_some]
  · rw [if_pos (by simpa using h), if_neg h]
def before (lens : List Int) : Nat → Nat
  | 0 => 0
  | 1 => 0
  | l + 2 => first lens (l + 1) + lens.count ((l + 1 : Nat) : Int)
theorem ci (lens : List Int) : (af lens).length = lens.length := by simp [af]
theorem dq {lens : List Int} (h : (chk lens).2 = 0) : lens.length ≤ 320 ∧ okB lens = true := by
  have hok : xN lens = true := by
    unfold chk at h
    by_cases hh : xN lens = true ∧ 0 ≤ lf lens 15
    · exact hh.1
    · rw [if_neg hh] at h; cases h
  unfold xN at hok
  simp only [Bool.and_eq_true, decide_eq_true_eq] at hok
  exact hok
theorem get_at {a : List Int} {i : Nat} (h : i < a.length) : a[i]? = some (a.getD i 0) := by
  rw [List.getD, List.getElem?_eq_getElem h]; rfl
def a8 (lens : List Int) (l : Nat) : Nat → List Int
  | 0 => []
  | i + 1 => if lens.getD i 0 = (l : Int) then a8 lens l i ++ [(i : Int)] else a8 lens l i
theorem cV (lens : List Int) (l : Nat) : ∀ i, i ≤ lens.length → (a8 lens l i).length = (lens.take i).count (l : Int)
  | 0, _ => by simp [a8]
  | i + 1, h => by
    have ih := cV lens l i (by omega)
    have hg : lens.getD i 0 = lens[i] := by rw [List.getD, List.getElem?_eq_getElem (by omega)]; rfl
    rw [a8, hg, iC (by omega), List.count_append, List.count_singleton]
    by_cases e : lens[i] = (l : Int)
    · have hb : (lens[i] == (l : Int)) = true := by simpa using e
      rw [if_pos e, hb, List.length_append, ih]; rfl
    · have hb : (lens[i] == (l : Int)) = false := by simpa using e
      rw [if_neg e, hb, ih]; rfl
def rJ (lens : List Int) (l i lg : Nat) : Nat := if (a8 lens l i).isEmpty then lg else l
def ar (lens : List Int) : Nat → List Int
  | 0 => []
  | l + 1 => ar lens l ++ a8 lens (l + 1) lens.length
def bg (lens : List Int) : Nat → Nat
  | 0 => 0
  | l + 1 => rJ lens (l + 1) lens.length (bg lens l)
theorem jo (lens : List Int) (hl : lens.length ≤ 320) : ∀ l, (ar lens l).length ≤ 320 * l
  | 0 => by simp [ar]
  | l + 1 => by
    have h1 := jo lens hl l
    have h2 := cV lens (l + 1) lens.length (Nat.le_refl _)
    have h3 : (lens.take lens.length).count ((l + 1 : Nat) : Int) ≤ 320 := Nat.le_trans List.count_le_length (by rw [List.length_take]; omega)
    rw [ar, List.length_append]
    omega
def gX (c n : Nat) (i : Nat) : Bool := c.testBit (n - 1 - i)
theorem Oe {N : Nat} (hN : 61 < N) (c n i : Nat) (hc : c < 1000000000) (hn : n ≤ 15) (hi : i < n) : Uu N ((c : Int), (n : Int), (i : Int)) = some (gX c n i) := by
  have hp : (2 : Int) ^ (n - 1 - i) ≤ 32768 := by
    have : (2 : Nat) ^ (n - 1 - i) ≤ 2 ^ 15 := Nat.pow_le_pow_right (by decide) (by omega)
    have h2 : ((2 ^ (n - 1 - i) : Nat) : Int) ≤ ((2 ^ 15 : Nat) : Int) := Int.ofNat_le.2 this
    simpa using h2
  have hp0 : (0 : Int) < 2 ^ (n - 1 - i) := Int.pow_pos (by decide)
  simp only [Uu, ae]
  have e : IntKind.wrap .i64 (IntKind.wrap .i64 ((n : Int) - 1) - (i : Int)) = ((n - 1 - i : Nat) : Int) := by
    rw [wrap_i64 (z := (n : Int) - 1) (by omega) (by omega), wrap_i64 (by omega) (by omega)]; omega
  rw [e, QF hN _ (by omega), Option.bind_some, aV (by omega)]
  congr 1
  unfold gX
  have e2 : Int.tdiv (c : Int) (2 ^ (n - 1 - i)) = ((c / 2 ^ (n - 1 - i) : Nat) : Int) := by
    rw [Int.tdiv_eq_ediv_of_nonneg (by omega)]; simp
  have hd : c / 2 ^ (n - 1 - i) ≤ c := Nat.div_le_self ..
  rw [e2, Nat.testBit_eq_decide_div_mod_eq]
  clear e2
  generalize c / 2 ^ (n - 1 - i) = q at *
  rw [wrap_i64 (by omega) (by omega), Int.tmod_eq_emod_of_nonneg (by omega)]
  have hq := Nat.mod_two_eq_zero_or_one q
  have e3 : (q : Int) % 2 = ((q % 2 : Nat) : Int) := by omega
  rw [e3]
  rcases hq with h | h <;> rw [h] <;> rfl
def eO (c n : Nat) (l : List Bool) : Bool := decide (l.length ≤ n) && (List.range l.length).all fun i => gX c n i == l.getD i false
theorem J0 {N : Nat} (hN : 61 < N) (c n : Nat) (hc : c < 1000000000) (hn : n ≤ 15) (l : List Bool) (hl : l.length ≤ n) : ∀ (d i f : Nat), i + d = l.length → d < f →
    ((∀ j, i ≤ j → j < l.length → gX c n j = l.getD j false) → mo N f (l, (i : Int), (c : Int), (n : Int)) = some (.inr ())) ∧
    ((∃ j, i ≤ j ∧ j < l.length ∧ gX c n j ≠ l.getD j false) → mo N f (l, (i : Int), (c : Int), (n : Int)) = some (.inl false)) := by
  intro d
  induction d with
  | zero =>
    intro i f hi hf
    cases f with
    | zero => omega
    | succ f =>
      simp only [mo, Bm, ae]
      rw [aV (by omega)]
      exact ⟨fun _ => rfl, fun ⟨j, h1, h2, _⟩ => by omega⟩
  | succ d ih =>
    intro i f hi hf
    cases f with
    | zero => omega
    | succ f =>
      obtain ⟨ih1, ih2⟩ := ih (i + 1) f (by omega) (by omega)
      have hil : i < l.length := by omega
      have hw : IntKind.wrap .i64 ((i : Int) + 1) = ((i + 1 : Nat) : Int) := by rw [wrap_i64 (by omega) (by omega)]; omega
      have hwi : within (i : Int) l.length = true := by unfold within; simp only [decide_eq_true_eq]; omega
      have hcc : decide ((i : Int) < (l.length : Int)) = true := by simp only [decide_eq_true_eq]; omega
      have hg : l[i]? = some (l.getD i false) := by rw [List.getD, List.getElem?_eq_getElem hil]; rfl
      simp only [mo, Bm, hcc, hwi, hg, hw, Int.toNat_natCast, if_true, Option.bind_some, ae]
      rw [Oe hN c n i hc hn (by omega), Option.bind_some]
      by_cases he : gX c n i = l.getD i false
      · rw [he, if_neg (by simp)]
        refine ⟨fun h => by rw [ih1 fun j h1 h2 => h j (by omega) h2]; rfl, fun ⟨j, h1, h2, h3⟩ => ?_⟩
        rw [ih2 ⟨j, by
          by_cases e : j = i
          · subst e; exact absurd he h3
          · omega, h2, h3⟩]
        rfl
      · rw [if_pos (by simpa using he)]
        exact ⟨fun h => absurd (h i (Nat.le_refl _) hil) he, fun _ => by first | rfl | trivial⟩
theorem Dq {N : Nat} (hN : 61 < N) (c n : Nat) (hc : c < 1000000000) (hn : n ≤ 15) (l : List Bool) (hl : l.length ≤ 100) (hN2 : 101 < N) : Uy N ((c : Int), (n : Int), l) = some (eO c n l) := by
  unfold eO
  simp only [Uy, ae]
  by_cases h : n < l.length
  · rw [aY (by omega), decide_eq_false (by omega)]; rfl
  · rw [aV (by omega), decide_eq_true (by omega), Bool.true_and]
    obtain ⟨h1, h2⟩ := J0 hN c n hc hn l (by omega) l.length 0 N (by omega) (by omega)
    rw [show ((0 : Nat) : Int) = 0 from rfl] at h1 h2
    cases ha : (List.range l.length).all fun i => gX c n i == l.getD i false with
    | true =>
      rw [h1 fun j _ hj => by simpa using List.all_eq_true.1 ha j (List.mem_range.2 hj), Option.bind_some]
    | false =>
      have : ∃ j, 0 ≤ j ∧ j < l.length ∧ gX c n j ≠ l.getD j false := by
        refine Classical.byContradiction fun hn => ?_
        have : (List.range l.length).all (fun i => gX c n i == l.getD i false) = true := List.all_eq_true.2 fun j hj => by
          have hj := List.mem_range.1 hj
          by_cases e : gX c n j = l.getD j false
          · simpa using e
          · exact absurd ⟨j, Nat.zero_le _, hj, e⟩ hn
        rw [ha] at this; cases this
      rw [h2 this, Option.bind_some]
def preB (c n : Nat → Nat) (l : List Bool) (j : Nat) : Bool := !(n j == 0) && eO (c j) (n j) l
def ni (c n : Nat → Nat) (l : List Bool) (j : Nat) : Bool := preB c n l j && (n j == l.length)
def Kp (c n : Nat → Nat) (l : List Bool) (i : Nat) : Int := bif (List.range i).any (preB c n l) then -1 else -2
theorem Ls (c n : Nat → Nat) (l : List Bool) (i : Nat) : Kp c n l (i + 1) = bif preB c n l i then -1 else Kp c n l i := by
  unfold Kp
  rw [List.range_succ, List.any_append, List.any_cons, List.any_nil, Bool.or_false]
  cases (List.range i).any (preB c n l) <;> cases preB c n l i <;> rfl
theorem Kb {N : Nat} (hN : 101 < N) (C : List sa) (c n : Nat → Nat) (hC : ∀ j, j < C.length → C[j]? = some ((c j : Int), (n j : Int), ()) ∧ c j < 1000000000 ∧ n j ≤ 15) (hl : C.length ≤ 1000) (l : List Bool) (hll : l.length ≤ 100) :
    ∀ (d i f : Nat), i + d = C.length → d < f →
    (∀ k, i ≤ k → k < C.length → ni c n l k = true → (∀ j, i ≤ j → j < k → ni c n l j = false) → mq N f ((i : Int), Kp c n l i, l, C) = some (.inl (k : Int))) ∧
    ((∀ j, i ≤ j → j < C.length → ni c n l j = false) → mq N f ((i : Int), Kp c n l i, l, C) = some (.inr (Kp c n l C.length))) := by
  intro d
  induction d with
  | zero =>
    intro i f hi hf
    cases f with
    | zero => omega
    | succ f =>
      simp only [mq, Bo, ae]
      rw [aV (by omega), show i = C.length by omega]
      exact ⟨fun k h1 h2 => by omega, fun _ => rfl⟩
  | succ d ih =>
    intro i f hi hf
    cases f with
    | zero => omega
    | succ f =>
      have hil : i < C.length := by omega
      obtain ⟨ih1, ih2⟩ := ih (i + 1) f (by omega) (by omega)
      obtain ⟨hg, hc, hn⟩ := hC i hil
      have hw : IntKind.wrap .i64 ((i : Int) + 1) = ((i + 1 : Nat) : Int) := by rw [wrap_i64 (by omega) (by omega)]; omega
      have hwi : within (i : Int) C.length = true := by unfold within; simp only [decide_eq_true_eq]; omega
      have hcc : decide ((i : Int) < (C.length : Int)) = true := by simp only [decide_eq_true_eq]; omega
      have hs := Ls c n l i
      simp only [mq, Bo, hcc, hwi, hg, hw, Int.toNat_natCast, if_true, Option.bind_some, ae]
      by_cases h0 : n i = 0
      · have hp : preB c n l i = false := by unfold preB; rw [h0]; rfl
        have hh : ni c n l i = false := by unfold ni; rw [hp]; rfl
        rw [hp] at hs
        have hs : Kp c n l (i + 1) = Kp c n l i := hs
        rw [hs] at ih1 ih2
        rw [if_pos (by simp [h0])]
        refine ⟨fun k h1 h2 h3 h4 => ?_, fun h => ?_⟩
        · rw [ih1 k (by
            by_cases e : k = i
            · subst e; rw [hh] at h3; cases h3
            · omega) h2 h3 fun j g1 g2 => h4 j (by omega) g2]; rfl
        · rw [ih2 fun j g1 g2 => h j (by omega) g2]; rfl
      · have hn0 : (n i == 0) = false := by simpa using h0
        rw [if_neg (by simp; omega), Dq (by omega) (c i) (n i) hc hn l hll hN, Option.bind_some]
        cases hb : eO (c i) (n i) l with
        | false =>
          have hp : preB c n l i = false := by unfold preB; rw [hb, Bool.and_false]
          have hh : ni c n l i = false := by unfold ni; rw [hp]; rfl
          rw [hp] at hs
          have hs : Kp c n l (i + 1) = Kp c n l i := hs
          rw [hs] at ih1 ih2
          simp only [Bool.false_eq_true, if_false]
          refine ⟨fun k h1 h2 h3 h4 => ?_, fun h => ?_⟩
          · rw [ih1 k (by
              by_cases e : k = i
              · subst e; rw [hh] at h3; cases h3
              · omega) h2 h3 fun j g1 g2 => h4 j (by omega) g2]; rfl
          · rw [ih2 fun j g1 g2 => h j (by omega) g2]; rfl
        | true =>
          have hp : preB c n l i = true := by unfold preB; rw [hb, hn0]; rfl
          rw [hp] at hs
          have hs : Kp c n l (i + 1) = -1 := hs
          rw [hs] at ih1 ih2
          simp only [if_true]
          by_cases he : n i = l.length
          · have hh : ni c n l i = true := by unfold ni; rw [hp, Bool.true_and]; simpa using he
            rw [if_pos (by simp [he])]
            refine ⟨fun k h1 h2 h3 h4 => ?_, fun h => ?_⟩
            · by_cases e : k = i
              · subst e; rfl
              · have := h4 i (Nat.le_refl _) (by omega)
                rw [hh] at this; cases this
            · have := h i (Nat.le_refl _) hil
              rw [hh] at this; cases this
          · have hh : ni c n l i = false := by unfold ni; rw [hp, Bool.true_and]; simpa using he
            rw [if_neg (by simp; omega)]
            refine ⟨fun k h1 h2 h3 h4 => ?_, fun h => ?_⟩
            · rw [ih1 k (by
                by_cases e : k = i
                · subst e; rw [hh] at h3; cases h3
                · omega) h2 h3 fun j g1 g2 => h4 j (by omega) g2]; rfl
            · rw [ih2 fun j g1 g2 => h j (by omega) g2]; rfl
theorem OA {N : Nat} (hN : 2000 < N) {C : List sa} {c n : Nat → Nat} (hC : ∀ j, j < C.length → C[j]? = some ((c j : Int), (n j : Int), ()) ∧ c j < 1000000000 ∧ n j ≤ 15) (hl : C.length ≤ 1000) (l : List Bool) (hll : l.length ≤ 100) {k : Nat} (hk : k < C.length) (hh : ni c n l k = true) (hf : ∀ j, j < k → ni c n l j = false) : UE N (C, l) = some (k : Int) := by
  obtain ⟨h1, _⟩ := Kb (N := N) (by omega) C c n hC hl l hll C.length 0 N (by omega) (by omega)
  simp only [UE, ae]
  have := h1 k (Nat.zero_le _) hk hh fun j _ hj => hf j hj
  rw [show Kp c n l 0 = -2 from rfl, show ((0 : Nat) : Int) = 0 from rfl] at this
  rw [this, Option.bind_some]
def du (lens : List Int) (lg : Nat) : Nat → Nat
  | 0 => 0
  | d + 1 => (du lens lg d + lens.count ((lg - d : Nat) : Int) + 1) / 2
theorem ol (lens : List Int) (lg : Nat) (hl : lens.length ≤ 320) : ∀ d, du lens lg d ≤ 321
  | 0 => by simp [du]
  | d + 1 => by
    have h1 := ol lens lg hl d
    have h2 : lens.count ((lg - d : Nat) : Int) ≤ 320 := Nat.le_trans List.count_le_length hl
    rw [du]
    omega
theorem oE (lens : List Int) : ∀ l, bg lens l ≤ l
  | 0 => Nat.le_refl _
  | l + 1 => by
    have := oE lens l
    rw [bg]
    unfold rJ
    split <;> omega
theorem uk : ∀ (l : List UInt8) (j : Nat), j < 8 * l.length → (bitsOf l)[j]? = some ((l.getD (j / 8) 0).toNat.testBit (j % 8))
  | [], j, h => by simp at h
  | x :: l, j, h => by
    have e : bitsOf (x :: l) = j9 8 x.toNat ++ bitsOf l := by unfold bitsOf; rw [List.flatMap_cons]
    rw [e]
    by_cases h8 : j < 8
    · rw [List.getElem?_append_left (by rw [bT]; exact h8), gy, if_pos h8, show j / 8 = 0 by omega, show j % 8 = j by omega]
      rfl
    · rw [List.getElem?_append_right (by rw [bT]; omega), bT, uk l (j - 8) (by rw [List.length_cons] at h; omega), show j / 8 = (j - 8) / 8 + 1 by omega, show (j - 8) % 8 = j % 8 by omega]
      simp
theorem BV (s : ByteArray) (p k : Nat) (h : p + k ≤ 8 * s.size) : fE s p k = ((aM s).drop p).take k := by
  have hal := aA s
  have hsl : s.data.toList.length = s.size := by simp
  apply List.ext_getElem?
  intro i
  unfold fE
  by_cases hi : i < k
  · rw [List.getElem?_map, List.getElem?_range hi, List.getElem?_take_of_lt hi, List.getElem?_drop]
    unfold aM
    rw [uk _ _ (by omega)]
    rfl
  · rw [List.getElem?_eq_none (by simp; omega), List.getElem?_eq_none (by simp; omega)]
def rd (L : List Bool) (p : Nat) (e n : Int) : Nat × Nat × Int :=
  if e = 0 then (if p + ak n ≤ L.length then (val ((L.drop p).take (ak n)), p + ak n, 0) else (0, p, 2)) else (0, p, e)
theorem Q8 {L : List Bool} {p : Nat} {e n : Int} (hp : p ≤ L.length) : (rd L p e n).2.1 ≤ L.length := by
  unfold rd
  split
  · split <;> simp only <;> omega
  · exact hp
theorem or_bit (v b : Nat) (hv : v < 1000000000) (hb : b < 2) : IntKind.wrap .i64 ((BitVec.toNat (BitVec.ofInt 64 ((2 * v : Nat) : Int) ||| BitVec.ofInt 64 (b : Int)) : Nat) : Int) = ((2 * v + b : Nat) : Int) := by
  have e : (BitVec.ofInt 64 ((2 * v : Nat) : Int) ||| BitVec.ofInt 64 (b : Int)).toNat = 2 * v + b := by
    have h := Nat.two_pow_add_eq_or_of_lt (i := 1) (b := b) (by simpa using hb) v
    rw [BitVec.toNat_or, BitVec.ofInt_natCast, BitVec.ofInt_natCast, BitVec.toNat_ofNat, BitVec.toNat_ofNat, Nat.mod_eq_of_lt (by omega), Nat.mod_eq_of_lt (by omega)]
    simpa using h.symm
  rw [e]
  exact wrap_i64 (by omega) (by omega)
def zw (lens : List Int) (lg : Nat) (L : List Bool) : Nat → Nat → Nat → Option (Int × Int × Nat)
  | 0, _, p => some (0, 3, p)
  | d + 1, v, p =>
    let l := lg - d
    if p < L.length then
      let w := 2 * v + (L.getD p false).toNat
      if w < first lens l + lens.count (l : Int) then
        if first lens l ≤ w then some ((ar lens 15).getD ((ar lens (l - 1)).length + (w - first lens l)) 0, 0, p + 1) else none
      else if du lens lg d ≤ w - (first lens l + lens.count (l : Int)) then some (0, 3, p + 1)
      else zw lens lg L d w (p + 1)
    else some (0, 2, p)
theorem jF (lens : List Int) {l : Nat} (h : 0 < l) : first lens (l + 1) = 2 * (first lens l + lens.count (l : Int)) := by
  match l, h with
  | k + 1, _ => rfl
theorem kr (lens : List Int) {l : Nat} (h : 0 < l) : (ar lens l).length = (ar lens (l - 1)).length + lens.count (l : Int) := by
  match l, h with
  | k + 1, _ =>
    rw [ar, List.length_append, cV lens (k + 1) lens.length (Nat.le_refl _), List.take_length]
    rfl
theorem kt (lens : List Int) (l : Nat) : ∀ k, (ar lens l).length ≤ (ar lens (l + k)).length
  | 0 => Nat.le_refl _
  | k + 1 => by
    have := kt lens l k
    rw [← Nat.add_assoc, ar, List.length_append]
    omega
theorem Tq (lens : List Int) : ∀ l, l ≤ 15 → ∀ w, first lens l ≤ w → w < first lens l + lens.count (l : Int) → 0 < l → (ar lens (l - 1)).length + (w - first lens l) < (ar lens 15).length := by
  intro l hl w h1 h2 h0
  have hst := kr lens h0
  have hm := kt lens l (15 - l)
  rw [show l + (15 - l) = 15 by omega] at hm
  omega
def cE (lens : List Int) (j : Nat) : Nat := first lens (lens.getD j 0).toNat + (lens.take j).count (lens.getD j 0)
theorem getD_at {lens : List Int} {j : Nat} (h : j < lens.length) : lens.getD j 0 = lens[j] := by
  rw [List.getD, List.getElem?_eq_getElem h]; rfl
theorem fZ (lens : List Int) (j : Nat) : bX lens j = if 0 < lens.getD j 0 then ((cE lens j : Int), lens.getD j 0, ()) else (0, 0, ()) := rfl
theorem mN {lens : List Int} {j : Nat} (h : j < lens.length) : (lens.take j).count (lens.getD j 0) < lens.count (lens.getD j 0) := by
  have e : lens.count (lens.getD j 0) = (lens.take (j + 1) ++ lens.drop (j + 1)).count (lens.getD j 0) := by rw [List.take_append_drop]
  rw [e, iC h, List.count_append, List.count_append, getD_at h, List.count_singleton_self]
  omega
theorem xq (lens : List Int) (l : Nat) : ∀ n, n ≤ lens.length → ∀ r, r < (a8 lens l n).length → ∃ j, j < n ∧ lens.getD j 0 = (l : Int) ∧ (lens.take j).count (l : Int) = r ∧ (a8 lens l n).getD r 0 = (j : Int)
  | 0, _, r, h => by simp [a8] at h
  | n + 1, hn, r, h => by
    have ih := xq lens l n (by omega)
    have hlen := cV lens l n (by omega)
    by_cases e : lens.getD n 0 = (l : Int)
    · have es : a8 lens l (n + 1) = a8 lens l n ++ [(n : Int)] := by rw [a8, if_pos e]
      rw [es] at h ⊢
      rw [List.length_append, List.length_singleton] at h
      by_cases hr : r < (a8 lens l n).length
      · obtain ⟨j, h1, h2, h3, h4⟩ := ih r hr
        refine ⟨j, by omega, h2, h3, ?_⟩
        rw [List.getD, List.getElem?_append_left hr]
        exact h4
      · have : r = (a8 lens l n).length := by omega
        subst this
        refine ⟨n, by omega, e, hlen.symm, ?_⟩
        rw [List.getD, List.getElem?_append_right (Nat.le_refl _), Nat.sub_self]
        rfl
    · have es : a8 lens l (n + 1) = a8 lens l n := by rw [a8, if_neg e]
      rw [es] at h ⊢
      obtain ⟨j, h1, h2⟩ := ih r h
      exact ⟨j, by omega, h2⟩
theorem sI (lens : List Int) {l : Nat} (h0 : 0 < l) {r : Nat} (hr : r < lens.count (l : Int)) : ∀ k, (ar lens (l + k)).getD ((ar lens (l - 1)).length + r) 0 = (a8 lens l lens.length).getD r 0
  | 0 => by
    obtain ⟨m, rfl⟩ : ∃ m, l = m + 1 := ⟨l - 1, by omega⟩
    have hlen := cV lens (m + 1) lens.length (Nat.le_refl _)
    rw [List.take_length] at hlen
    rw [Nat.add_zero, Nat.add_sub_cancel, ar, List.getD, List.getD, List.getElem?_append_right (by omega), Nat.add_sub_cancel_left]
  | k + 1 => by
    have ih := sI lens h0 hr k
    have hst := kr lens h0
    have hm := kt lens l k
    rw [← Nat.add_assoc, ar, List.getD, List.getElem?_append_left (by omega)]
    exact ih
theorem Ed (lens : List Int) {l : Nat} (h0 : 0 < l) (hl : l ≤ 15) {w : Nat} (h1 : first lens l ≤ w) (h2 : w < first lens l + lens.count (l : Int)) :
    ∃ j, j < lens.length ∧ lens.getD j 0 = (l : Int) ∧ cE lens j = w ∧ (ar lens 15).getD ((ar lens (l - 1)).length + (w - first lens l)) 0 = (j : Int) := by
  have hlen := cV lens l lens.length (Nat.le_refl _)
  rw [List.take_length] at hlen
  have hg := sI lens h0 (show w - first lens l < lens.count (l : Int) by omega) (15 - l)
  rw [show l + (15 - l) = 15 by omega] at hg
  obtain ⟨j, a1, a2, a3, a4⟩ := xq lens l lens.length (Nat.le_refl _) (w - first lens l) (by omega)
  refine ⟨j, a1, a2, ?_, by rw [hg, a4]⟩
  unfold cE
  rw [a2, a3, Int.toNat_natCast]
  omega
theorem k9 {lens : List Int} {j : Nat} (hj : j < lens.length) {l : Nat} (hl : lens.getD j 0 = (l : Int)) : first lens l ≤ cE lens j ∧ cE lens j < first lens l + lens.count (l : Int) := by
  have h := mN hj
  unfold cE
  rw [hl] at h ⊢
  rw [Int.toNat_natCast]
  omega
theorem yb {lens : List Int} {i j : Nat} (hi : i < lens.length) (hj : j < lens.length) (h1 : lens.getD i 0 = lens.getD j 0) (h2 : cE lens i = cE lens j) : i = j := by
  have key : ∀ a b, a < b → b < lens.length → lens.getD a 0 = lens.getD b 0 → (lens.take a).count (lens.getD a 0) < (lens.take b).count (lens.getD a 0) := by
    intro a b hab hb he
    have e : lens.take b = (lens.take b).take (a + 1) ++ (lens.take b).drop (a + 1) := (List.take_append_drop ..).symm
    rw [e, List.count_append, List.take_take, Nat.min_eq_left (by omega), iC (show a < lens.length by omega), List.count_append, getD_at (show a < lens.length by omega), List.count_singleton_self]
    omega
  unfold cE at h2
  rw [h1] at h2
  rcases Nat.lt_trichotomy i j with h | h | h
  · have := key i j h hj h1
    rw [h1] at this
    omega
  · exact h
  · have := key j i h hi h1.symm
    omega
theorem xR (lens : List Int) : ∀ n l, bg lens n < l → l ≤ n → lens.count (l : Int) = 0
  | 0, l, h1, h2 => by omega
  | n + 1, l, h1, h2 => by
    have hlen := cV lens (n + 1) lens.length (Nat.le_refl _)
    rw [List.take_length] at hlen
    rw [bg] at h1
    unfold rJ at h1
    by_cases he : (a8 lens (n + 1) lens.length).isEmpty = true
    · rw [if_pos he] at h1
      by_cases h : l = n + 1
      · subst h
        rw [List.isEmpty_iff] at he
        rw [← hlen, he]; rfl
      · exact xR lens n l h1 (by omega)
    · rw [if_neg he] at h1
      omega
theorem xS {lens : List Int} (hok : okB lens = true) {j : Nat} (hj : j < lens.length) : (lens.getD j 0).toNat ≤ bg lens 15 := by
  obtain ⟨a, b⟩ := kJ hok hj
  rw [← getD_at hj] at a b
  refine Classical.byContradiction fun hn => ?_
  have h := xR lens 15 (lens.getD j 0).toNat (by omega) (by omega)
  have e : (((lens.getD j 0).toNat : Nat) : Int) = lens.getD j 0 := by omega
  rw [e] at h
  have := mN hj
  omega
theorem dU (a b : Nat) : a / 2 ^ (b + 1) = a / 2 ^ b / 2 := by rw [Nat.pow_succ, Nat.div_div_eq_div_mul]
theorem xH {lens : List Int} (hok : okB lens = true) : ∀ d l, 0 < l → l + d = bg lens 15 → ∀ w,
    (∃ j, j < lens.length ∧ (l : Int) < lens.getD j 0 ∧ cE lens j / 2 ^ ((lens.getD j 0).toNat - l) = w) ↔ (first lens l + lens.count (l : Int) ≤ w ∧ w < first lens l + lens.count (l : Int) + du lens (bg lens 15) d)
  | 0, l, h0, h1, w => by
    constructor
    · rintro ⟨j, hj, h2, _⟩
      have := xS hok hj
      omega
    · rintro ⟨h2, h3⟩
      rw [du] at h3
      omega
  | d + 1, l, h0, h1, w => by
    have ih := xH hok d (l + 1) (by omega) (by omega)
    have hf := jF lens h0
    have hr : du lens (bg lens 15) (d + 1) = (du lens (bg lens 15) d + lens.count ((l + 1 : Nat) : Int) + 1) / 2 := by
      rw [du, show bg lens 15 - d = l + 1 by omega]
    have hlg := oE lens 15
    constructor
    · rintro ⟨j, hj, h2, h3⟩
      by_cases e : lens.getD j 0 = ((l + 1 : Nat) : Int)
      · obtain ⟨r1, r2⟩ := k9 hj e
        rw [e, show ((l + 1 : Nat) : Int).toNat - l = 1 by omega] at h3
        omega
      · have h4 := (ih (cE lens j / 2 ^ ((lens.getD j 0).toNat - (l + 1)))).1 ⟨j, hj, by omega, rfl⟩
        rw [show (lens.getD j 0).toNat - l = (lens.getD j 0).toNat - (l + 1) + 1 by omega, dU] at h3
        omega
    · rintro ⟨h2, h3⟩
      by_cases e : 2 * w < first lens (l + 1) + lens.count ((l + 1 : Nat) : Int)
      · obtain ⟨j, a1, a2, a3, _⟩ := Ed lens (l := l + 1) (w := 2 * w) (by omega) (by omega) (by omega) e
        refine ⟨j, a1, by omega, ?_⟩
        rw [a2, a3, show ((l + 1 : Nat) : Int).toNat - l = 1 by omega]
        omega
      · obtain ⟨j, a1, a2, a3⟩ := (ih (2 * w)).2 (by omega)
        refine ⟨j, a1, by omega, ?_⟩
        rw [show (lens.getD j 0).toNat - l = (lens.getD j 0).toNat - (l + 1) + 1 by omega, dU, a3]
        omega
theorem room {lens : List Int} : ∀ l, lf lens (l + 1) = 2 ^ (l + 1) - ((first lens (l + 1) + lens.count ((l + 1 : Nat) : Int) : Nat) : Int)
  | 0 => by simp [lf, first]
  | l + 1 => by
    have hf := jF lens (Nat.succ_pos l)
    rw [Nat.succ_eq_add_one] at hf
    rw [lf, room l, hf, Int.pow_succ 2 (l + 1)]
    omega
theorem MP {lens : List Int} (h : (chk lens).2 = 0) {l : Nat} (h0 : 0 < l) (hl : l ≤ 15) : first lens l + lens.count (l : Int) ≤ 2 ^ l := by
  have h15 : 0 ≤ lf lens 15 := by
    unfold chk at h
    by_cases hh : xN lens = true ∧ 0 ≤ lf lens 15
    · exact hh.2
    · rw [if_neg hh] at h; cases h
  have hl0 : 0 ≤ lf lens l := Int.not_lt.1 fun hn => by
    have := LW lens l (15 - l) hn
    rw [show l + (15 - l) = 15 by omega] at this
    omega
  obtain ⟨m, rfl⟩ : ∃ m, l = m + 1 := ⟨l - 1, by omega⟩
  rw [room] at hl0
  have : ((2 ^ (m + 1) : Nat) : Int) = (2 : Int) ^ (m + 1) := by simp
  omega
theorem oQ {lens : List Int} (h : (chk lens).2 = 0) {j : Nat} (hj : j < lens.length) (h0 : 0 < lens.getD j 0) : cE lens j < 2 ^ (lens.getD j 0).toNat := by
  obtain ⟨a1, a2⟩ := dq h
  obtain ⟨b1, b2⟩ := kJ a2 hj
  rw [← getD_at hj] at b1 b2
  have e : lens.getD j 0 = (((lens.getD j 0).toNat : Nat) : Int) := by omega
  obtain ⟨r1, r2⟩ := k9 hj e
  have := MP h (l := (lens.getD j 0).toNat) (by omega) (by omega)
  omega
theorem sO {α : Type} {motive : List α → Prop} (h0 : motive []) (h1 : ∀ l b, motive l → motive (l ++ [b])) (l : List α) : motive l := by
  have key : ∀ m : List α, motive m.reverse := fun m => by
    induction m with
    | nil => exact h0
    | cons b m ih => rw [List.reverse_cons]; exact h1 _ _ ih
  have := key l.reverse
  rwa [List.reverse_reverse] at this
def kh (l : List Bool) : Nat := l.foldl (fun n b => 2 * n + b.toNat) 0
theorem pB (l : List Bool) (b : Bool) : kh (l ++ [b]) = 2 * kh l + b.toNat := by unfold kh; rw [List.foldl_append]; rfl
theorem zH (c n : Nat) (l : List Bool) (b : Bool) : eO c n (l ++ [b]) = (eO c n l && (decide (l.length < n) && (gX c n l.length == b))) := by
  unfold eO
  rw [List.length_append, List.length_singleton, List.range_succ, List.all_append]
  have e1 : ((List.range l.length).all fun i => gX c n i == (l ++ [b]).getD i false) = (List.range l.length).all fun i => gX c n i == l.getD i false := by
    apply Bool.eq_iff_iff.2
    rw [List.all_eq_true, List.all_eq_true]
    constructor
    · intro h i hi
      have := h i hi
      rwa [List.getD, List.getElem?_append_left (List.mem_range.1 hi)] at this
    · intro h i hi
      rw [List.getD, List.getElem?_append_left (List.mem_range.1 hi)]
      exact h i hi
  have e2 : (l ++ [b]).getD l.length false = b := by rw [List.getD, List.getElem?_append_right (Nat.le_refl _), Nat.sub_self]; rfl
  rw [e1]
  simp only [List.all_cons, List.all_nil, Bool.and_true, e2]
  by_cases h : l.length + 1 ≤ n
  · rw [decide_eq_true h, decide_eq_true (show l.length ≤ n by omega), decide_eq_true (show l.length < n by omega)]
    simp only [Bool.true_and]
  · rw [decide_eq_false h, decide_eq_false (show ¬ l.length < n by omega)]
    simp only [Bool.false_and, Bool.and_false]
theorem CZ {c n : Nat} (hc : c < 2 ^ n) (l : List Bool) : eO c n l = true ↔ l.length ≤ n ∧ c / 2 ^ (n - l.length) = kh l := by
  refine sO (motive := fun l => eO c n l = true ↔ l.length ≤ n ∧ c / 2 ^ (n - l.length) = kh l) ?_ (fun l b ih => ?_) l
  · have : c / 2 ^ n = 0 := Nat.div_eq_of_lt hc
    simp [eO, kh, this]
  · rw [zH, Bool.and_eq_true, Bool.and_eq_true, ih, pB, List.length_append, List.length_singleton, decide_eq_true_eq, beq_iff_eq]
    unfold gX
    constructor
    · rintro ⟨⟨h1, h2⟩, h3, h4⟩
      refine ⟨h3, ?_⟩
      rw [show n - l.length = n - (l.length + 1) + 1 by omega, dU] at h2
      rw [show n - 1 - l.length = n - (l.length + 1) by omega, Nat.testBit_eq_decide_div_mod_eq] at h4
      generalize c / 2 ^ (n - (l.length + 1)) = q at *
      rcases Nat.mod_two_eq_zero_or_one q with h | h <;> rw [h] at h4 <;> subst h4 <;> simp <;> omega
    · rintro ⟨h3, h4⟩
      rw [show n - l.length = n - (l.length + 1) + 1 by omega, dU, show n - 1 - l.length = n - (l.length + 1) by omega, Nat.testBit_eq_decide_div_mod_eq]
      generalize c / 2 ^ (n - (l.length + 1)) = q at *
      subst h4
      refine ⟨⟨by omega, ?_⟩, h3, ?_⟩ <;> cases b <;> simp <;> omega
theorem gD (lens : List Int) {j : Nat} (hj : j < lens.length) : (af lens)[j]? = some (bX lens j) := by
  unfold af; rw [List.getElem?_map, List.getElem?_range hj]; rfl
def cN (lens : List Int) (j : Nat) : Nat := if 0 < lens.getD j 0 then cE lens j else 0
def nN (lens : List Int) (j : Nat) : Nat := (lens.getD j 0).toNat
theorem Je {lens : List Int} (h : (chk lens).2 = 0) : ∀ j, j < (af lens).length → (af lens)[j]? = some ((cN lens j : Int), (nN lens j : Int), ()) ∧ cN lens j < 1000000000 ∧ nN lens j ≤ 15 := by
  intro j hj
  rw [ci] at hj
  obtain ⟨a1, a2⟩ := dq h
  obtain ⟨b1, b2⟩ := kJ a2 hj
  rw [← getD_at hj] at b1 b2
  rw [gD lens hj, fZ]
  unfold cN nN
  by_cases h0 : 0 < lens.getD j 0
  · rw [if_pos h0, if_pos h0]
    have := oQ h hj h0
    have hp : 2 ^ (lens.getD j 0).toNat ≤ 2 ^ 15 := Nat.pow_le_pow_right (by decide) (by omega)
    refine ⟨?_, by omega, by omega⟩
    rw [Int.toNat_of_nonneg b1]
  · rw [if_neg h0, if_neg h0]
    have e : lens.getD j 0 = 0 := by omega
    rw [e]
    exact ⟨rfl, by omega, by decide⟩
theorem LH {lens : List Int} (h : (chk lens).2 = 0) {j : Nat} (hj : j < lens.length) (l : List Bool) :
    preB (cN lens) (nN lens) l j = true ↔ 0 < lens.getD j 0 ∧ l.length ≤ (lens.getD j 0).toNat ∧ cE lens j / 2 ^ ((lens.getD j 0).toNat - l.length) = kh l := by
  obtain ⟨a1, a2⟩ := dq h
  obtain ⟨b1, b2⟩ := kJ a2 hj
  rw [← getD_at hj] at b1 b2
  unfold preB
  rw [Bool.and_eq_true, Bool.not_eq_true', beq_eq_false_iff_ne]
  by_cases h0 : 0 < lens.getD j 0
  · have e : cN lens j = cE lens j := by unfold cN; rw [if_pos h0]
    unfold nN
    rw [e, CZ (oQ h hj h0)]
    constructor
    · rintro ⟨x, y⟩; exact ⟨h0, y⟩
    · rintro ⟨x, y⟩; exact ⟨by omega, y⟩
  · constructor
    · rintro ⟨x, y⟩; unfold nN at x; omega
    · rintro ⟨x, y⟩; exact absurd x h0
theorem Ct {lens : List Int} (h : (chk lens).2 = 0) {j : Nat} (hj : j < lens.length) (l : List Bool) :
    ni (cN lens) (nN lens) l j = true ↔ 0 < l.length ∧ lens.getD j 0 = (l.length : Int) ∧ cE lens j = kh l := by
  unfold ni
  rw [Bool.and_eq_true, LH h hj, beq_iff_eq]
  unfold nN
  constructor
  · rintro ⟨⟨x, y, z⟩, w⟩
    rw [w, Nat.sub_self, Nat.pow_zero, Nat.div_one] at z
    exact ⟨by omega, by omega, z⟩
  · rintro ⟨x, y, z⟩
    rw [y, Int.toNat_natCast, Nat.sub_self, Nat.pow_zero, Nat.div_one]
    exact ⟨⟨by omega, Nat.le_refl _, z⟩, rfl⟩
theorem EU {b : Bool} (h : ¬ b = true) : b = false := by cases b <;> simp_all
theorem My {N : Nat} (hN : 2000 < N) {lens : List Int} (h : (chk lens).2 = 0) (l : List Bool) (h0 : 0 < l.length) (hl : l.length ≤ 15) (h1 : first lens l.length ≤ kh l) (h2 : kh l < first lens l.length + lens.count (l.length : Int)) :
    ∃ k : Nat, k < lens.length ∧ UE N (af lens, l) = some (k : Int) ∧ (ar lens 15).getD ((ar lens (l.length - 1)).length + (kh l - first lens l.length)) 0 = (k : Int) := by
  obtain ⟨a1, a2⟩ := dq h
  obtain ⟨k, k1, k2, k3, k4⟩ := Ed lens h0 hl h1 h2
  refine ⟨k, k1, ?_, k4⟩
  have hC := ci lens
  refine OA hN (Je h) (by omega) l (by omega) (by omega) ((Ct h k1 l).2 ⟨h0, k2, k3⟩) fun j hj => EU fun hh => ?_
  obtain ⟨_, g2, g3⟩ := (Ct h (show j < lens.length by omega) l).1 hh
  have := yb (show j < lens.length by omega) k1 (by omega) (by omega)
  omega
theorem Jo (m : List Bool) : aM (er m) = bD m := by
  have h1 := aA (er m)
  have h2 := lV m
  have h3 := eP m
  apply List.ext_getElem?
  intro j
  by_cases h : j < 8 * (er m).size
  · have e := BV (er m) j 1 (by omega)
    have e2 : (aM (er m))[j]? = some (ww (er m) j) := by
      have := congrArg (fun l : List Bool => l[0]?) e
      simp only [fE, List.range_one, List.map_cons, List.map_nil, List.getElem?_cons_zero, Nat.add_zero] at this
      rw [List.getElem?_take_of_lt (by omega), List.getElem?_drop] at this
      exact this.symm
    rw [e2, IH]
    unfold bD
    by_cases hj : j < m.length
    · rw [List.getElem?_append_left hj, List.getD, List.getElem?_eq_getElem hj]; rfl
    · rw [List.getElem?_append_right (by omega), List.getElem?_replicate, if_pos (by unfold jz; omega), List.getD, List.getElem?_eq_none (by omega)]; rfl
  · rw [List.getElem?_eq_none (by omega), List.getElem?_eq_none (by omega)]
theorem Jl (l : List Bool) : j9 l.length (val l) = l := by
  apply List.ext_getElem?
  intro i
  rw [gy]
  by_cases h : i < l.length
  · rw [if_pos h, nP, List.getD, List.getElem?_eq_getElem h]; rfl
  · rw [if_neg h, List.getElem?_eq_none (by omega)]
theorem LC (n : Int) (l : List Bool) (h : l.length = ak n) : aG n (val l : Int) = l := by
  unfold aG kO
  have hv := ji l
  rw [h] at hv
  have hc := bG n
  have hp := kH hc
  rw [BitVec.ofInt_natCast, BitVec.toNat_ofNat, Nat.mod_eq_of_lt (a := val l) (by omega), Nat.mod_eq_of_lt hv, ← h, Jl]
def aI (c : sa) : List Bool := (aG c.2.1 c.1).reverse
theorem cp (c : sa) : (aI c).length ≤ 32 := by
  unfold aI; rw [List.length_reverse, am]; exact bG _
theorem lD {N : Nat} (hN : 6 ≤ N) (m : List Bool) (hm : m.length ≤ 1000000000) (c : sa) :
    QR N (c.1, c.2.1, aJ m, nF m, bF m) = some (aJ (m ++ aI c), nF (m ++ aI c), bF (m ++ aI c)) := by
  simp only [QR]
  rw [QG, Option.bind_some, bd hN m hm, Option.bind_some, Lu, LC _ _ (by rw [List.length_reverse, am])]
  rfl
theorem zy {lens : List Int} (h : (chk lens).2 = 0) {j : Nat} (hj : j < lens.length) (h0 : 0 < lens.getD j 0) :
    (aI (bX lens j)).length = (lens.getD j 0).toNat ∧ ∀ k, k < (lens.getD j 0).toNat → (aI (bX lens j))[k]? = some ((cE lens j).testBit ((lens.getD j 0).toNat - 1 - k)) := by
  obtain ⟨a1, a2⟩ := dq h
  obtain ⟨b1, b2⟩ := kJ a2 hj
  rw [← getD_at hj] at b1 b2
  have hlt := oQ h hj h0
  have hp : 2 ^ (lens.getD j 0).toNat ≤ 2 ^ 15 := Nat.pow_le_pow_right (by decide) (by omega)
  have hc : ak (lens.getD j 0) = (lens.getD j 0).toNat := by unfold ak; omega
  have hlen : (aI (bX lens j)).length = (lens.getD j 0).toNat := by
    unfold aI
    rw [fZ, if_pos h0, List.length_reverse, am, hc]
  refine ⟨hlen, fun k hk => ?_⟩
  unfold aI at hlen ⊢
  rw [fZ, if_pos h0] at hlen ⊢
  simp only at hlen ⊢
  rw [List.length_reverse] at hlen
  rw [List.getElem?_reverse (by omega), hlen]
  unfold aG kO
  rw [gy, hc, if_pos (by omega), BitVec.ofInt_natCast, BitVec.toNat_ofNat, Nat.mod_eq_of_lt (a := cE lens j) (by omega), Nat.mod_eq_of_lt hlt]
theorem MJ {lens : List Int} (h : (chk lens).2 = 0) {j : Nat} (hj : j < lens.length) (h0 : 0 < lens.getD j 0) (L : List Bool) (p : Nat) (hL : ∀ k, k < (lens.getD j 0).toNat → L[p + k]? = some ((cE lens j).testBit ((lens.getD j 0).toNat - 1 - k))) :
    ∀ (r k : Nat), r + k = (lens.getD j 0).toNat → 0 < r → zw lens (bg lens 15) L (bg lens 15 - k) (cE lens j / 2 ^ ((lens.getD j 0).toNat - k)) (p + k) = some ((j : Int), 0, p + (lens.getD j 0).toNat) := by
  obtain ⟨a1, a2⟩ := dq h
  obtain ⟨b1, b2⟩ := kJ a2 hj
  rw [← getD_at hj] at b1 b2
  have hle := xS a2 hj
  have hlg := oE lens 15
  intro r
  induction r with
  | zero => intro k _ h; omega
  | succ r ih =>
    intro k hk _
    obtain ⟨d, hd⟩ : ∃ d, bg lens 15 - k = d + 1 := ⟨bg lens 15 - k - 1, by omega⟩
    have hbit := hL k (by omega)
    have hlt : p + k < L.length := by
      refine Classical.byContradiction fun hn => ?_
      rw [List.getElem?_eq_none (by omega)] at hbit
      cases hbit
    have hg : L.getD (p + k) false = (cE lens j).testBit ((lens.getD j 0).toNat - 1 - k) := by rw [List.getD, hbit]; rfl
    rw [hd]
    simp only [zw]
    have e1 : bg lens 15 - d = k + 1 := by omega
    have hw : 2 * (cE lens j / 2 ^ ((lens.getD j 0).toNat - k)) + (L.getD (p + k) false).toNat = cE lens j / 2 ^ ((lens.getD j 0).toNat - (k + 1)) := by
      rw [hg, show (lens.getD j 0).toNat - k = (lens.getD j 0).toNat - (k + 1) + 1 by omega, dU, show (lens.getD j 0).toNat - 1 - k = (lens.getD j 0).toNat - (k + 1) by omega, Nat.testBit_eq_decide_div_mod_eq]
      generalize cE lens j / 2 ^ ((lens.getD j 0).toNat - (k + 1)) = q
      rcases Nat.mod_two_eq_zero_or_one q with h | h <;> rw [h] <;> simp <;> omega
    rw [if_pos hlt, hw, e1]
    by_cases hr : r = 0
    · subst hr
      have hm : (lens.getD j 0).toNat = k + 1 := by omega
      have hl : lens.getD j 0 = ((k + 1 : Nat) : Int) := by omega
      obtain ⟨r1, r2⟩ := k9 hj hl
      rw [hm, Nat.sub_self, Nat.pow_zero, Nat.div_one, if_pos r2, if_pos r1]
      obtain ⟨i, i1, i2, i3, i4⟩ := Ed lens (l := k + 1) (by omega) (by omega) r1 r2
      have : i = j := yb i1 hj (by omega) i3
      subst this
      rw [i4]
      rfl
    · have hpre := (xH a2 d (k + 1) (by omega) (by omega) (cE lens j / 2 ^ ((lens.getD j 0).toNat - (k + 1)))).1 ⟨j, hj, by omega, rfl⟩
      rw [if_neg (by omega), if_neg (by omega)]
      have := ih (k + 1) (by omega) (by omega)
      rw [show bg lens 15 - (k + 1) = d by omega] at this
      exact this
theorem EQ {k : Nat} (h : k ≤ 32) : ak (k : Int) = k := by unfold ak; rw [Int.toNat_natCast]; omega
end Go.Proofs.YteddgkplkjldcaaGreat.Am
