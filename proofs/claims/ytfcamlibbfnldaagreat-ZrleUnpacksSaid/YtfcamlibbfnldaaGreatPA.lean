/- A rectangle of tiles is unpacked as the document says: the Lean function that ZrleUnpacks comes to answers true at every input. -/
import Derived.Test.YtfcamlibbfnldaaGreatSD
import Derived.Test.YtfcamlibbfnldaaGreatAmC
import Derived.KernelRfl
set_option linter.unusedSimpArgs false
set_option linter.unusedVariables false
set_option linter.unusedSectionVars false
set_option maxRecDepth 100000
namespace Go.Proofs.YtfcamlibbfnldaaGreat.Am
open Go.Am
theorem toList_data (s : ByteArray) : s.toList = s.data.toList := by
  exact ByteArray.toList_eq s
theorem sL (s : ByteArray) : bytesOf s = s.data.toList.map fun x => (x.toNat : Int) := by
  unfold bytesOf; rw [toList_data]
theorem az {i n : Nat} (h : i < n) : within (i : Int) n = true := by unfold within; simp only [decide_eq_true_eq]; omega
theorem S3 {L : List Int} {i : Nat} (h : i < L.length) : L[i]? = some (L.getD i 0) := by rw [List.getD,List.getElem?_eq_getElem h]; rfl
theorem yt (s : ByteArray) : aB (bytesOf s) = s := by
  rw [sL]
  unfold aB
  apply ByteArray.ext
  show ((s.data.toList.map fun (x : UInt8) => ((x.toNat : Nat) : Int)).map fun (n : Int) => UInt8.ofNat n.toNat).toArray = s.data
  rw [List.map_map]
  have : (fun (n : Int) => UInt8.ofNat n.toNat) ∘ (fun (x : UInt8) => ((x.toNat : Nat) : Int)) = id := by
    funext x
    show UInt8.ofNat ((x.toNat : Int).toNat) = x
    rw [Int.toNat_natCast,UInt8.ofNat_toNat]
  rw [this,List.map_id]
theorem CL (n m : Nat) : Int.fdiv (n : Int) (m : Int) = ((n / m : Nat) : Int) := by
  rw [Int.fdiv_eq_ediv_of_nonneg _ (by omega)]; rfl
end Go.Proofs.YtfcamlibbfnldaaGreat.Am
set_option maxRecDepth 100000
namespace Go.Proofs.YtfcamlibbfnldaaGreat.Am
open Go.Am
def B (l : List UInt8) : ByteArray := ⟨l.toArray⟩
def ints (l : List UInt8) : List Int := l.map fun x => (x.toNat : Int)
theorem am0 (s : ByteArray) : s = B s.data.toList := by unfold B; rfl
theorem a8 (l : List UInt8) : (B l).size = l.length := by show (List.toArray l).size = _; simp
theorem KX (l : List UInt8) (a b : Nat) : (B l).extract a b = B ((l.drop a).take (b - a)) := by
  unfold B
  apply ByteArray.ext
  rw [ByteArray.data_extract]
  apply Array.ext'
  simp
theorem aH7 (l k : List UInt8) : B l ++ B k = B (l ++ k) := by
  unfold B
  apply ByteArray.ext
  simp
theorem BI (l : List UInt8) : bytesOf (B l) = ints l := by rw [sL]; unfold B ints; simp
theorem EY (l : List UInt8) (i : Nat) : (B l)[i]? = l[i]? := by
  by_cases h : i < l.length
  · have hs : i < (B l).size := by rw [a8]; exact h
    have e : (B l)[i]? = some ((B l)[i]) := by simp [hs]
    rw [e,List.getElem?_eq_getElem h]
    rfl
  · have hs : ¬ i < (B l).size := by rw [a8]; exact h
    rw [List.getElem?_eq_none (by omega)]
    simp [hs]
theorem Sj (l : List UInt8) : aB (ints l) = B l := by rw [← BI,yt]
theorem iM (l : List UInt8) : (ints l).length = l.length := by unfold ints; simp
theorem LA (x : UInt8) : IntKind.wrap .i64 (x.toNat : Int) = (x.toNat : Int) := by
  have := x.toNat_lt
  exact wrap_i64 (by omega) (by omega)
theorem ba {n : Int} (h0 : -1000000000000000 ≤ n) (h : n ≤ 1000000000000000) : IntKind.wrap .i64 n = n := wrap_i64 (by omega) (by omega)
theorem Wb (l : List UInt8) (k p : Nat) (h : p + k ≤ l.length) (hl : l.length ≤ 200000000000000) : lG 200000 ((k : Int),B l,(p : Int),0) = some (B ((l.drop p).take k),B l,((p + k : Nat) : Int),0) := by
  have w1 : IntKind.wrap .i64 (((B l).size : Int) - (p : Int)) = ((l.length - p : Nat) : Int) := by rw [a8,ba (by omega) (by omega)]; omega
  have w2 : IntKind.wrap .i64 ((p : Int) + (k : Int)) = ((p + k : Nat) : Int) := by rw [ba (by omega) (by omega)]; omega
  have w3 : IntKind.wrap .i64 (((p + k : Nat) : Int) - (k : Int)) = (p : Int) := by rw [ba (by omega) (by omega)]; omega
  simp only [lG,F86,ai,Option.bind_some,w1,w2,w3,Int.toNat_natCast]
  rw [aZ (by omega),aZ (by omega),if_neg (by decide),aQ (by rw [a8]; omega),aQ (by omega),KX,show p + k - p = k by omega]
theorem Og (l : List UInt8) (k p : Nat) (h : l.length < p + k) (hp : p ≤ l.length) (hl : l.length ≤ 200000000000000) : lG 200000 ((k : Int),B l,(p : Int),0) = some (B [],B l,(p : Int),2) := by
  have w1 : IntKind.wrap .i64 (((B l).size : Int) - (p : Int)) = ((l.length - p : Nat) : Int) := by rw [a8,ba (by omega) (by omega)]; omega
  simp only [lG,F86,Ha,ai,Option.bind_some,w1]
  rw [aZ (by omega),aQ (by omega),if_pos (by decide),Option.bind_some]
  simp only
  rw [if_pos (by decide)]
  rfl
theorem RO (l : List UInt8) (k p : Nat) (hp : p ≤ l.length) (hl : l.length ≤ 200000000000000) : lG 200000 ((k : Int),B l,(p : Int),2) = some (B [],B l,(p : Int),2) := by
  have w1 : IntKind.wrap .i64 (((B l).size : Int) - (p : Int)) = ((l.length - p : Nat) : Int) := by rw [a8,ba (by omega) (by omega)]; omega
  simp only [lG,F86,Ha,ai,Option.bind_some,w1]
  rw [aZ (by omega)]
  by_cases h : l.length < p + k
  · rw [aQ (by omega),if_neg (by decide),Option.bind_some]
    simp only
    rw [if_pos (by decide)]
    rfl
  · rw [aZ (by omega),if_pos (by decide)]
    rfl
theorem Rp (a : Int) : Br 200000 (0,1,[a]) = some [a] := by
  simp only [Br]
  rw [show IntKind.wrap .i64 (((1 : Nat) : Int) - 1) = 0 from rfl]
  show Option.bind (fp 200000 (199999 + 1) _) _ = _
  show Option.bind (pC 200000 (fp 200000 199999) _) _ = _
  generalize fp 200000 199999 = G
  simp only [pC,ai]
  rw [if_neg (by decide),Option.bind_some]
theorem Rr : Br 200000 (0,0,[]) = some [] := by
  simp only [Br]
  show Option.bind (fp 200000 (199999 + 1) _) _ = _
  show Option.bind (pC 200000 (fp 200000 199999) _) _ = _
  generalize fp 200000 199999 = G
  simp only [pC,ai]
  rw [if_neg (by decide),Option.bind_some]
theorem RD (l m : List UInt8) (hl : l.length ≤ 1000) (h : Br 200000 (0,l.length,ints l) = some (ints m)) : vC 200000 (B l) = some (B m) := by
  simp only [vC,ai]
  rw [aQ (by rw [a8]; omega),BI,iM,h,Option.bind_some,Sj]
def Cz : List UInt8 → Nat
  | [] => 0
  | x :: r => x.toNat + 256 * Cz r
theorem sA : ∀ (l : List UInt8),Cz l < 256 ^ l.length
  | [] => by decide
  | x :: r => by
    have := sA r
    have := x.toNat_lt
    simp only [Cz,List.length_cons,Nat.pow_succ]
    omega
theorem Cy : ∀ (l : List UInt8) (x : UInt8),Cz (l ++ [x]) = Cz l + 256 ^ l.length * x.toNat
  | [],x => by simp [Cz]
  | y :: r,x => by
    rw [List.cons_append,Cz,Cz,Cy r x,List.length_cons,Nat.pow_succ,Nat.mul_add]
    rw [show 256 * (256 ^ r.length * x.toNat) = 256 ^ r.length * 256 * x.toNat by rw [Nat.mul_comm (256 ^ r.length) 256,Nat.mul_assoc]]
    omega
theorem Cr (l : List UInt8) (hl : l.length ≤ 4) (s : ByteArray) (p e : Int) : ∀ (suf pre : List UInt8) (k : Nat),l = pre ++ suf → suf.length < k →
    cm 200000 k (((Cz pre : Nat) : Int),((pre.length : Nat) : Int),((l.length : Nat) : Int),s,p,e,ints l) = some (((Cz l : Nat) : Int),s,p,e)
  | [],pre,k + 1,h,_ => by
    have : pre = l := by rw [h]; simp
    subst this
    show gq 200000 (cm 200000 k) _ = _
    simp only [gq,ai]
    rw [aZ (by omega)]
  | x :: r,pre,k + 1,h,hk => by
    have hn : l.length = pre.length + r.length + 1 := by rw [h]; simp; omega
    have ih := Cr l hl s p e r (pre ++ [x]) k (by rw [h]; simp) (by simp at hk; omega)
    rw [show (pre ++ [x]).length = pre.length + 1 by simp] at ih
    show gq 200000 (cm 200000 k) _ = _
    generalize cm 200000 k = G at *
    simp only [gq,ai]
    have hg : (ints l)[pre.length]? = some (x.toNat : Int) := by
      rw [h]; unfold ints; simp
    have hw : IntKind.wrap .i64 ((8 : Int) * ((pre.length : Nat) : Int)) = ((8 * pre.length : Nat) : Int) := by rw [ba (by omega) (by omega)]; omega
    have hw2 : IntKind.wrap .i64 (((pre.length : Nat) : Int) + 1) = ((pre.length + 1 : Nat) : Int) := by rw [ba (by omega) (by omega)]; omega
    have ho := as0 (A := Cz pre) (B := x.toNat) (i := 8 * pre.length) (j := 8) (by have := sA pre; rw [show (256 : Nat) = 2 ^ 8 from rfl,← Nat.pow_mul] at this; exact this) (by have := x.toNat_lt; omega) (by omega)
    rw [aQ (by omega),if_pos (az (by rw [iM]; omega)),Int.toNat_natCast,hg,Option.bind_some,hw,aZ (by omega),LA,ho,hw2]
    have e2 : Cz pre + 2 ^ (8 * pre.length) * x.toNat = Cz (pre ++ [x]) := by
      rw [Cy,show (256 : Nat) = 2 ^ 8 from rfl,← Nat.pow_mul]
    rw [e2,ih,Option.bind_some]
theorem D2 (l m : List UInt8) (hl : l.length ≤ 4) (hm : m.length = l.length) (k : Int) (s : ByteArray) (p e : Int) (s0 : ByteArray) (p0 e0 : Int) (hw : Rs 200000 k = some true) (hB : lG 200000 (k,s0,p0,e0) = some (B l,s,p,e)) (ht : vC 200000 (B l) = some (B m)) :
    uP 200000 (k,s0,p0,e0) = some (((Cz m : Nat) : Int),s,p,e) := by
  have hloop := Cr m (by omega) s p e m [] 200000 rfl (by omega)
  simp only [uP,V7,ai]
  rw [hw,Option.bind_some]
  simp only [Bool.not_true,Bool.false_eq_true,if_false]
  rw [hB,Option.bind_some]
  simp only
  rw [ht,Option.bind_some,aQ (by rw [a8]; omega),BI,iM]
  show Option.bind (Option.bind (cm 200000 200000 (((Cz [] : Nat) : Int),((([] : List UInt8).length : Nat) : Int),((m.length : Nat) : Int),s,p,e,ints m)) _) _ = _
  rw [hloop,Option.bind_some,Option.bind_some]
theorem an4 : vC 200000 (B []) = some (B []) := RD [] [] (by decide) Rr
theorem an3 (a : UInt8) : vC 200000 (B [a]) = some (B [a]) := RD [a] [a] (by simp) (Rp _)
def mB (l : List UInt8) : Nat := Cz l.reverse
theorem zo {l : List UInt8} (h : l.length ≤ 4) : mB l < 4294967296 := by
  have := sA l.reverse
  rw [List.length_reverse] at this
  have h2 : 256 ^ l.length ≤ 256 ^ 4 := Nat.pow_le_pow_right (by decide) h
  unfold mB
  have : (256 : Nat) ^ 4 = 4294967296 := by decide
  omega
end Go.Proofs.YtfcamlibbfnldaaGreat.Am
set_option maxRecDepth 100000
namespace Go.Proofs.YtfcamlibbfnldaaGreat.Am
open Go.Am
theorem nZ {c : Int} (h : 0 ≤ c) : ∃ n : Nat,c = (n : Int) := Int.eq_ofNat_of_zero_le h
def wf (x : Int) : Nat → Nat → Option Nat
  | 0,_ => none
  | j + 1,i => if x = (2 : Int) ^ i - 1 then some i else wf x j (i + 1)
theorem jJ (x : Int) : ∀ (j i w : Nat),wf x j i = some w → x = (2 : Int) ^ w - 1 ∧ i ≤ w ∧ w < i + j
  | j + 1,i,w,h => by
    unfold wf at h
    split at h
    · rename_i hx; cases h; exact ⟨hx,Nat.le_refl _,by omega⟩
    · obtain ⟨h1,h2,h3⟩ := jJ x j (i + 1) w h; exact ⟨h1,by omega,by omega⟩
theorem Nx {i : Nat} (h : i ≤ 17) : (1 : Int) ≤ (2 : Int) ^ i ∧ (2 : Int) ^ i ≤ 131072 := by
  have h1 : 2 ^ i ≤ 2 ^ 17 := Nat.pow_le_pow_right (by decide) h
  have h2 : 0 < 2 ^ i := Nat.pow_pos (by decide)
  have e : (2 : Int) ^ i = ((2 ^ i : Nat) : Int) := by simp
  rw [e]
  have : (2 : Nat) ^ 17 = 131072 := by decide
  omega
theorem xE (x : Int) : ∀ (j i k : Nat),i + j = 17 → 1 ≤ i → j < k → eY 200000 k ((2 : Int) ^ (i - 1),x,(i : Int)) = some (match wf x j i with | some w => .inl (w : Int) | none => .inr ())
  | 0,i,k + 1,h,h1,_ => by
    show kC 200000 (eY 200000 k) _ = _
    simp only [kC,ai]
    rw [aZ (by omega)]
    rfl
  | j + 1,i,k + 1,h,h1,hk => by
    have ih := xE x j (i + 1) k (by omega) (by omega) (by omega)
    rw [show i + 1 - 1 = i by omega] at ih
    show kC 200000 (eY 200000 k) _ = _
    generalize eY 200000 k = G at *
    simp only [kC,ai]
    have e : (2 : Int) ^ (i - 1) * 2 = (2 : Int) ^ i := by
      rw [← Int.pow_succ,show (i - 1).succ = i from by omega]
    obtain ⟨p1,p2⟩ := Nx (i := i) (by omega)
    rw [aQ (by omega),e,ba (n := (2 : Int) ^ i) (by omega) (by omega),ba (n := (2 : Int) ^ i - 1) (by omega) (by omega),ba (by omega) (by omega),show (i : Int) + 1 = ((i + 1 : Nat) : Int) by omega,ih]
    rw [wf]
    by_cases hx : x = (2 : Int) ^ i - 1
    · rw [if_pos (by simpa using hx),if_pos hx]
    · rw [if_neg (by simpa using hx),if_neg hx,Option.bind_some]
      generalize wf x j (i + 1) = o
      cases o <;> rfl
theorem V6 (x : Int) : RA 200000 x = some (match wf x 16 1 with | some w => (w : Int) | none => 0) := by
  have h := xE x 16 1 200000 rfl (by omega) (by omega)
  rw [show (2 : Int) ^ (1 - 1) = 1 from rfl,show ((1 : Nat) : Int) = 1 from rfl] at h
  simp only [RA]
  rw [h,Option.bind_some]
  generalize wf x 16 1 = o
  cases o <;> rfl
def part (b m s : Int) : Bool := match wf m 16 1 with
  | some w => decide (0 ≤ s) && decide (s + (w : Int) ≤ b)
  | none => false
theorem pm {b : Int} (hb : b ≤ 32) (m s : Int) : Hh 200000 (b,m,s) = some (part b m s) := by
  simp only [Hh,ai]
  rw [V6,Option.bind_some]
  unfold part
  cases h : wf m 16 1 with
  | none => rfl
  | some w =>
    obtain ⟨_,h1,h2⟩ := jJ m 16 1 w h
    simp only
    rw [aQ (by omega)]
    by_cases hs : 0 ≤ s
    · rw [aQ (show s ≥ 0 from hs),decide_eq_true hs]
      by_cases hs2 : s ≤ 32
      · rw [aQ hs2,ba (by omega) (by omega)]
        rfl
      · rw [aZ hs2,decide_eq_false (by omega : ¬ s + (w : Int) ≤ b)]
        rfl
    · rw [aZ (show ¬ s ≥ 0 from hs),decide_eq_false hs]
      rfl
def Pr : List Nat := [0,1,3,7,15,31,63,127,255,511,1023,2047,4095,8191,16383,32767,65535]
theorem Tg : (List.range 65536).all (fun m => (m &&& (m + 1)) != 0 || Pr.contains m) = true := by kernel_rfl
theorem Zz {m : Nat} (h : Pr.contains m = true) (h0 : m ≠ 0) : (wf (m : Int) 16 1).isSome = true := by
  simp only [Pr,List.contains_cons,List.contains_nil,Bool.or_false,Bool.or_eq_true,beq_iff_eq] at h
  rcases h with h | h | h | h | h | h | h | h | h | h | h | h | h | h | h | h | h <;> subst h
  · exact absurd rfl h0
  all_goals decide
noncomputable def as5 (w : Nat) : Bool := match Of 200000 (IntKind.wrap .u64 ((2 : Int) ^ w - 1)) with
  | some v => decide (v = (w : Int)) && decide (IntKind.wrap .i64 ((BitVec.toNat (BitVec.ofInt 64 ((2 : Int) ^ w - 1) &&& BitVec.ofInt 64 (IntKind.wrap .i64 ((2 : Int) ^ w - 1 + 1))) : Nat) : Int) = 0)
  | none => false
theorem SZ : (List.range 17).all (fun w => Nat.beq w 0 || as5 w) = true := by kernel_rfl
theorem as4 {w : Nat} (h1 : 1 ≤ w) (h2 : w < 17) : Of 200000 (IntKind.wrap .u64 ((2 : Int) ^ w - 1)) = some (w : Int) ∧ IntKind.wrap .i64 ((BitVec.toNat (BitVec.ofInt 64 ((2 : Int) ^ w - 1) &&& BitVec.ofInt 64 (IntKind.wrap .i64 ((2 : Int) ^ w - 1 + 1))) : Nat) : Int) = 0 := by
  have h := List.all_eq_true.1 SZ w (List.mem_range.2 h2)
  have h0 : Nat.beq w 0 = false := by
    cases hb : Nat.beq w 0 with
    | false => rfl
    | true => have := Nat.eq_of_beq_eq_true hb; omega
  rw [h0,Bool.false_or] at h
  unfold as5 at h
  cases hf : Of 200000 (IntKind.wrap .u64 ((2 : Int) ^ w - 1)) with
  | none => rw [hf] at h; cases h
  | some v =>
    rw [hf] at h
    simp only [Bool.and_eq_true,decide_eq_true_eq] at h
    exact ⟨by rw [h.1],h.2⟩
theorem Q1 {b : Int} (hb : b ≤ 32) (m s : Int) : F98 200000 (m,s,b) = some (part b m s) := by
  simp only [F98,ai]
  unfold part
  by_cases h1 : m < 1
  · rw [aQ h1]
    have : wf m 16 1 = none := by
      cases h : wf m 16 1 with
      | none => rfl
      | some w =>
        obtain ⟨h2,h3,h4⟩ := jJ m 16 1 w h
        have h5 : (2 : Int) ^ 1 ≤ (2 : Int) ^ w := by
          have : 2 ^ 1 ≤ 2 ^ w := Nat.pow_le_pow_right (by decide) h3
          have e : (2 : Int) ^ w = ((2 ^ w : Nat) : Int) := by simp
          rw [e]
          omega
        omega
    rw [this]
  · rw [aZ h1]
    by_cases h2 : m > 65535
    · rw [aQ h2]
      have : wf m 16 1 = none := by
        cases h : wf m 16 1 with
        | none => rfl
        | some w =>
          obtain ⟨h2,h3,h4⟩ := jJ m 16 1 w h
          have h5 : 2 ^ w ≤ 2 ^ 16 := Nat.pow_le_pow_right (by decide) (by omega)
          have e : (2 : Int) ^ w = ((2 ^ w : Nat) : Int) := by simp
          rw [e] at h2
          have : (2 : Nat) ^ 16 = 65536 := by decide
          omega
      rw [this]
    · rw [aZ h2]
      obtain ⟨n,rfl⟩ := nZ (show 0 ≤ m by omega)
      cases h : wf (n : Int) 16 1 with
      | none =>
        have hc := List.all_eq_true.1 Tg n (List.mem_range.2 (by omega))
        have hp : Pr.contains n = false := by
          cases hp : Pr.contains n with
          | false => rfl
          | true => have hw := Zz hp (by omega); rw [h] at hw; cases hw
        rw [hp,Bool.or_false] at hc
        have hne : (n &&& (n + 1)) ≠ 0 := by simpa using hc
        have e : IntKind.wrap .i64 ((BitVec.toNat (BitVec.ofInt 64 (n : Int) &&& BitVec.ofInt 64 (IntKind.wrap .i64 ((n : Int) + 1))) : Nat) : Int) = ((n &&& (n + 1) : Nat) : Int) := by
          rw [ba (n := (n : Int) + 1) (by omega) (by omega),show (n : Int) + 1 = ((n + 1 : Nat) : Int) by omega]
          have e2 : (BitVec.ofInt 64 (n : Int) &&& BitVec.ofInt 64 ((n + 1 : Nat) : Int)).toNat = n &&& (n + 1) := by
            rw [BitVec.toNat_and,BitVec.ofInt_natCast,BitVec.ofInt_natCast,BitVec.toNat_ofNat,BitVec.toNat_ofNat,Nat.mod_eq_of_lt (by omega),Nat.mod_eq_of_lt (by omega)]
          have h3 : n &&& (n + 1) ≤ n := Nat.and_le_left
          rw [e2,ba (by omega) (by omega)]
        rw [e,if_pos (by simp only [bne_iff_ne,ne_eq]; omega)]
      | some w =>
        obtain ⟨hw,h3,h4⟩ := jJ (n : Int) 16 1 w h
        obtain ⟨l1,l2⟩ := as4 (w := w) h3 (by omega)
        rw [← hw] at l1 l2
        rw [l2,if_neg (by decide)]
        simp only
        by_cases hs : 0 ≤ s
        · rw [aZ (by omega),decide_eq_true hs]
          by_cases hs2 : s ≤ b
          · rw [aZ (by omega),l1,Option.bind_some,ba (by omega) (by omega)]
            rfl
          · rw [aQ (by omega),decide_eq_false (by omega : ¬ s + (w : Int) ≤ b)]
            rfl
        · rw [aQ (by omega),decide_eq_false hs]
          rfl
end Go.Proofs.YtfcamlibbfnldaaGreat.Am
set_option maxRecDepth 100000
namespace Go.Proofs.YtfcamlibbfnldaaGreat.Am
open Go.Am
def M (m s : Int) : Nat := m.toNat * 2 ^ s.toNat
theorem fJ {b m s : Int} (hb : b ≤ 32) (h : part b m s = true) : ∃ m' s' : Nat,m = (m' : Int) ∧ s = (s' : Int) ∧ 1 ≤ m' ∧ m' < 65536 ∧ s' ≤ 31 ∧ m' * 2 ^ s' < 4294967296 := by
  unfold part at h
  cases hw : wf m 16 1 with
  | none => rw [hw] at h; cases h
  | some w =>
    rw [hw] at h
    simp only [Bool.and_eq_true,decide_eq_true_eq] at h
    obtain ⟨h1,h2,h3⟩ := jJ m 16 1 w hw
    obtain ⟨s',rfl⟩ := nZ h.1
    have e : (2 : Int) ^ w = ((2 ^ w : Nat) : Int) := by simp
    have p0 : 0 < 2 ^ w := Nat.pow_pos (by decide)
    have p1 : 2 ^ 1 ≤ 2 ^ w := Nat.pow_le_pow_right (by decide) h2
    have p2 : 2 ^ w ≤ 2 ^ 16 := Nat.pow_le_pow_right (by decide) (by omega)
    have p3 : (2 : Nat) ^ 16 = 65536 := by decide
    refine ⟨2 ^ w - 1,s',by rw [h1,e]; omega,rfl,by omega,by omega,by omega,?_⟩
    have h4 : (2 ^ w - 1) * 2 ^ s' < 2 ^ w * 2 ^ s' := Nat.mul_lt_mul_of_pos_right (by omega) (Nat.pow_pos (by decide))
    rw [← Nat.pow_add] at h4
    have h5 : 2 ^ (w + s') ≤ 2 ^ 32 := Nat.pow_le_pow_right (by decide) (by omega)
    have h6 : (2 : Nat) ^ 32 = 4294967296 := by decide
    omega
theorem b7 {b m s : Int} (hb : b ≤ 32) (h : part b m s = true) : F96 200000 (m,s) = some ((M m s : Nat) : Int) ∧ vE 200000 (m,s) = some ((M m s : Nat) : Int) ∧ M m s < 4294967296 := by
  obtain ⟨m',s',rfl,rfl,h1,h2,h3,h4⟩ := fJ hb h
  have e : IntKind.wrap .i64 ((m' : Int) * (2 : Int) ^ min (Int.toNat (s' : Int)) 64) = ((m' * 2 ^ s' : Nat) : Int) := by
    rw [Int.toNat_natCast,Nat.min_eq_left (by omega),show (m' : Int) * (2 : Int) ^ s' = ((m' * 2 ^ s' : Nat) : Int) by simp,ba (by omega) (by omega)]
  unfold M
  rw [Int.toNat_natCast,Int.toNat_natCast]
  simp only [F96,vE,ai]
  rw [aZ (by omega),e]
  exact ⟨rfl,rfl,h4⟩
theorem dI {a c : Nat} (ha : a < 4294967296) (hc : c < 4294967296) : IntKind.wrap .i64 ((BitVec.toNat (BitVec.ofInt 64 (a : Int) &&& BitVec.ofInt 64 (c : Int)) : Nat) : Int) = ((a &&& c : Nat) : Int) := by
  have e : (BitVec.ofInt 64 (a : Int) &&& BitVec.ofInt 64 (c : Int)).toNat = a &&& c := by
    rw [BitVec.toNat_and,BitVec.ofInt_natCast,BitVec.ofInt_natCast,BitVec.toNat_ofNat,BitVec.toNat_ofNat,Nat.mod_eq_of_lt (by omega),Nat.mod_eq_of_lt (by omega)]
  have h : a &&& c ≤ a := Nat.and_le_left
  rw [e,ba (by omega) (by omega)]
theorem ef {a c : Nat} (ha : a < 4294967296) (hc : c < 4294967296) : IntKind.wrap .i64 ((BitVec.toNat (BitVec.ofInt 64 (a : Int) ||| BitVec.ofInt 64 (c : Int)) : Nat) : Int) = ((a ||| c : Nat) : Int) ∧ a ||| c < 4294967296 := by
  have e : (BitVec.ofInt 64 (a : Int) ||| BitVec.ofInt 64 (c : Int)).toNat = a ||| c := by
    rw [BitVec.toNat_or,BitVec.ofInt_natCast,BitVec.ofInt_natCast,BitVec.toNat_ofNat,BitVec.toNat_ofNat,Nat.mod_eq_of_lt (by omega),Nat.mod_eq_of_lt (by omega)]
  have h : a ||| c < 2 ^ 32 := Nat.or_lt_two_pow (by omega) (by omega)
  have h6 : (2 : Nat) ^ 32 = 4294967296 := by decide
  rw [e,ba (by omega) (by omega)]
  exact ⟨rfl,by omega⟩
section
variable (b d : Int) (g t : Bool) (m0 m1 m2 s0 s1 s2 : Int)
def Qb : Bool := decide (M m0 s0 &&& M m1 s1 = 0) && decide ((M m0 s0 ||| M m1 s1) &&& M m2 s2 = 0)
def qp : Bool := ((b == 8 || b == 16) || b == 32) && ((!decide (d < 1)) && ((!decide (d > b)) && (t && (part b m0 s0 && (part b m1 s1 && (part b m2 s2 && Qb m0 m1 m2 s0 s1 s2))))))
theorem Fy (L : List (Int × Int × Unit)) (hL3 : L.length = 3) (i k acc : Nat) (m s : Int) (hL : L[i]? = some (m,s,())) (hi : i < 3) (hb : b ≤ 32) (ha : acc < 4294967296) :
    co 200000 (k + 1) (L,(i : Int),(acc : Int),b,d,g,t,m0,m1,m2,s0,s1,s2) = if part b m s = true then (if acc &&& M m s = 0 then co 200000 k (L,((i + 1 : Nat) : Int),((acc ||| M m s : Nat) : Int),b,d,g,t,m0,m1,m2,s0,s1,s2) else some (.inl false)) else some (.inl false) := by
  show kw 200000 (co 200000 k) _ = _
  generalize co 200000 k = G
  simp only [kw,ai]
  rw [aQ (by omega),if_pos (az (by omega)),Int.toNat_natCast,hL,Option.bind_some]
  simp only
  rw [Q1 hb,Option.bind_some]
  cases hp : part b m s with
  | false => rfl
  | true =>
    obtain ⟨k1,_,k3⟩ := b7 hb hp
    simp only [Bool.not_true,Bool.false_eq_true,if_false,if_true]
    rw [k1,Option.bind_some,dI ha k3,Option.bind_some,(ef ha k3).1,ba (by omega) (by omega),show (i : Int) + 1 = ((i + 1 : Nat) : Int) by omega]
    by_cases h0 : acc &&& M m s = 0
    · rw [if_pos h0,if_neg (by simp [h0])]
      generalize G _ = o
      cases o with
      | none => rfl
      | some r => cases r <;> rfl
    · rw [if_neg h0,if_pos (by simp only [bne_iff_ne,ne_eq]; omega)]
theorem fX : Ss 200000 (b,d,g,t,m0,m1,m2,s0,s1,s2) = some (qp b d t m0 m1 m2 s0 s1 s2) := by
  have h7 : b ≤ 32 → uL 200000 (b,d,g,t,m0,m1,m2,s0,s1,s2) = some ((!decide (d < 1)) && ((!decide (d > b)) && (t && (part b m0 s0 && (part b m1 s1 && (part b m2 s2 && Qb m0 m1 m2 s0 s1 s2)))))) := by
    intro hb
    simp only [uL,Vu,ai,Option.bind_some]
    cases decide (d < 1) with
    | true => rfl
    | false =>
      cases decide (d > b) with
      | true => rfl
      | false =>
        cases t with
        | false => rfl
        | true =>
          simp only [Bool.not_true,Bool.false_eq_true,if_false,Bool.not_false,Bool.true_and]
          have a0 := Fy b d g true m0 m1 m2 s0 s1 s2 [(m0,s0,()),(m1,s1,()),(m2,s2,())] rfl 0 199999 0 m0 s0 rfl (by omega) hb (by omega)
          have e0 : co 200000 200000 ([(m0,s0,()),(m1,s1,()),(m2,s2,())],0,0,b,d,g,true,m0,m1,m2,s0,s1,s2) = co 200000 (199999 + 1) ([(m0,s0,()),(m1,s1,()),(m2,s2,())],((0 : Nat) : Int),((0 : Nat) : Int),b,d,g,true,m0,m1,m2,s0,s1,s2) := rfl
          rw [e0,a0]
          cases p0 : part b m0 s0 with
          | false => rfl
          | true =>
            have q0 := (b7 hb p0).2.2
            rw [if_pos rfl,if_pos (Nat.zero_and _),Nat.zero_or]
            have a1 := Fy b d g true m0 m1 m2 s0 s1 s2 [(m0,s0,()),(m1,s1,()),(m2,s2,())] rfl 1 199998 (M m0 s0) m1 s1 rfl (by omega) hb q0
            rw [show (0 + 1 : Nat) = 1 from rfl,show (199999 : Nat) = 199998 + 1 from rfl,a1]
            cases p1 : part b m1 s1 with
            | false => rfl
            | true =>
              have q1 := (b7 hb p1).2.2
              rw [if_pos rfl]
              unfold Qb
              by_cases z1 : M m0 s0 &&& M m1 s1 = 0
              · rw [if_pos z1,decide_eq_true z1]
                have a2 := Fy b d g true m0 m1 m2 s0 s1 s2 [(m0,s0,()),(m1,s1,()),(m2,s2,())] rfl 2 199997 (M m0 s0 ||| M m1 s1) m2 s2 rfl (by omega) hb (ef q0 q1).2
                rw [show (1 + 1 : Nat) = 2 from rfl,show (199998 : Nat) = 199997 + 1 from rfl,a2]
                cases p2 : part b m2 s2 with
                | false => rfl
                | true =>
                  rw [if_pos rfl]
                  by_cases z2 : (M m0 s0 ||| M m1 s1) &&& M m2 s2 = 0
                  · rw [if_pos z2,decide_eq_true z2]
                    have a3 : ∀ acc : Int,co 200000 (199996 + 1) ([(m0,s0,()),(m1,s1,()),(m2,s2,())],((2 + 1 : Nat) : Int),acc,b,d,g,true,m0,m1,m2,s0,s1,s2) = some (.inr ()) := by
                      intro acc
                      show kw 200000 (co 200000 199996) _ = _
                      simp only [kw,ai]
                      rw [aZ (by omega)]
                    rw [show (199997 : Nat) = 199996 + 1 from rfl,a3]
                    rfl
                  · rw [if_neg z2,decide_eq_false z2]
                    rfl
              · rw [if_neg z1,decide_eq_false z1]
                cases part b m2 s2 <;> rfl
  simp only [Ss,ai]
  unfold qp
  by_cases b8 : b = 8
  · rw [if_pos (by simpa using b8),h7 (by omega),Option.bind_some,b8]; rfl
  · rw [if_neg (by simpa using b8)]
    by_cases b16 : b = 16
    · rw [if_pos (by simpa using b16),h7 (by omega),Option.bind_some,b16]; rfl
    · rw [if_neg (by simpa using b16)]
      by_cases b32 : b = 32
      · rw [if_pos (by simpa using b32),h7 (by omega),Option.bind_some,b32]; rfl
      · rw [if_neg (by simpa using b32)]
        have : ((b == 8 || b == 16) || b == 32) = false := by simp [b8,b16,b32]
        rw [this]; rfl
theorem N1 : F80 200000 (b,d,g,t,m0,m1,m2,s0,s1,s2) = some (qp b d t m0 m1 m2 s0 s1 s2) := by
  have h7 : b ≤ 32 → uK 200000 (b,d,g,t,m0,m1,m2,s0,s1,s2) = some (part b m0 s0 && (part b m1 s1 && (part b m2 s2 && Qb m0 m1 m2 s0 s1 s2))) := by
    intro hb
    simp only [uK,ai]
    rw [pm hb,Option.bind_some,pm hb,pm hb]
    cases p0 : part b m0 s0 with
    | false => rfl
    | true =>
      cases p1 : part b m1 s1 with
      | false => rfl
      | true =>
        cases p2 : part b m2 s2 with
        | false => rfl
        | true =>
          obtain ⟨_,k0,q0⟩ := b7 hb p0
          obtain ⟨_,k1,q1⟩ := b7 hb p1
          obtain ⟨_,k2,q2⟩ := b7 hb p2
          simp only [Bool.not_true,Bool.false_eq_true,if_false,Option.bind_some,Bool.true_and]
          simp only [Bl,ai]
          rw [k0,Option.bind_some,k1,Option.bind_some,k2,Option.bind_some,dI q0 q1,dI q0 q2,dI q1 q2]
          unfold Qb
          rw [Nat.and_or_distrib_right]
          by_cases z1 : M m0 s0 &&& M m1 s1 = 0
          · rw [decide_eq_true z1,if_pos (by simp [z1])]
            by_cases z2 : M m0 s0 &&& M m2 s2 = 0
            · rw [if_pos (by simp [z2]),z2,Nat.zero_or]
              by_cases z3 : M m1 s1 &&& M m2 s2 = 0
              · rw [decide_eq_true z3,z3]; rfl
              · rw [decide_eq_false z3]
                have : (((M m1 s1 &&& M m2 s2 : Nat) : Int) == 0) = false := by simp only [beq_eq_false_iff_ne,ne_eq]; omega
                rw [this]; rfl
            · rw [if_neg (by simp only [beq_iff_eq]; omega)]
              have : ¬ ((M m0 s0 &&& M m2 s2) ||| (M m1 s1 &&& M m2 s2)) = 0 := fun h => z2 (Nat.or_eq_zero_iff.1 h).1
              rw [decide_eq_false this]; rfl
          · rw [decide_eq_false z1,if_neg (by simp only [beq_iff_eq]; omega)]
            rfl
  simp only [F80,ai]
  unfold qp
  by_cases b8 : b = 8
  · rw [if_neg (by simp [b8]),h7 (by omega),Option.bind_some]
    have : ((b == 8 || b == 16) || b == 32) = true := by simp [b8]
    rw [this]
    cases decide (d < 1) <;> cases decide (d > b) <;> cases t <;> rfl
  · rw [if_pos (by simpa using b8)]
    by_cases b16 : b = 16
    · rw [if_neg (by simp [b16]),h7 (by omega),Option.bind_some]
      have : ((b == 8 || b == 16) || b == 32) = true := by simp [b16]
      rw [this]
      cases decide (d < 1) <;> cases decide (d > b) <;> cases t <;> rfl
    · rw [if_pos (by simpa using b16)]
      by_cases b32 : b = 32
      · rw [if_neg (by simp [b32]),h7 (by omega),Option.bind_some]
        have : ((b == 8 || b == 16) || b == 32) = true := by simp [b32]
        rw [this]
        cases decide (d < 1) <;> cases decide (d > b) <;> cases t <;> rfl
      · rw [if_pos (by simpa using b32)]
        have : ((b == 8 || b == 16) || b == 32) = false := by simp [b8,b16,b32]
        rw [this]; rfl
end
end Go.Proofs.YtfcamlibbfnldaaGreat.Am
set_option maxRecDepth 100000
namespace Go.Proofs.YtfcamlibbfnldaaGreat.Am
open Go.Am
section
variable (b d : Int) (g t : Bool) (m0 m1 m2 s0 s1 s2 : Int)
theorem fw (h : qp b d t m0 m1 m2 s0 s1 s2 = true) : (b = 8 ∨ b = 16 ∨ b = 32) ∧ 1 ≤ d ∧ d ≤ b ∧ part b m0 s0 = true ∧ part b m1 s1 = true ∧ part b m2 s2 = true := by
  unfold qp at h
  simp only [Bool.and_eq_true,Bool.or_eq_true,Bool.not_eq_true',decide_eq_false_iff_not,beq_iff_eq] at h
  obtain ⟨h1,h2,h3,_,h5,h6,h7,_⟩ := h
  exact ⟨by rcases h1 with (h1 | h1) | h1 <;> simp [h1],by omega,by omega,h5,h6,h7⟩
def ow : Nat := (M m0 s0 ||| M m1 s1) ||| M m2 s2
def IB (a : Nat) : Nat × Nat := if b = 32 ∧ d ≤ 24 then (if a < 16777216 then (3,0) else if a &&& 255 = 0 then (3,8) else (4,0)) else ((b / 8).toNat,0)
theorem Qf (hb : b = 8 ∨ b = 16 ∨ b = 32) (a : Nat) : 1 ≤ (IB b d a).1 ∧ (IB b d a).1 ≤ 4 ∧ ((IB b d a).2 = 0 ∨ (IB b d a).2 = 8 ∧ (IB b d a).1 = 3) := by
  unfold IB
  split
  · split
    · exact ⟨by decide,by decide,.inl rfl⟩
    · split
      · exact ⟨by decide,by decide,.inr ⟨rfl,rfl⟩⟩
      · exact ⟨by decide,by decide,.inl rfl⟩
  · rcases hb with rfl | rfl | rfl
    · exact ⟨by decide,by decide,.inl rfl⟩
    · exact ⟨by decide,by decide,.inl rfl⟩
    · exact ⟨by decide,by decide,.inl rfl⟩
theorem Gj (L : List (Int × Int × Unit)) (hL3 : L.length = 3) (i k acc : Nat) (m s : Int) (hL : L[i]? = some (m,s,())) (hi : i < 3) (hb : b ≤ 32) (hp : part b m s = true) (ha : acc < 4294967296) :
    cp 200000 (k + 1) ((acc : Int),(i : Int),L,b,d,g,t,m0,m1,m2,s0,s1,s2) = cp 200000 k (((acc ||| M m s : Nat) : Int),((i + 1 : Nat) : Int),L,b,d,g,t,m0,m1,m2,s0,s1,s2) := by
  show ky 200000 (cp 200000 k) _ = _
  generalize cp 200000 k = G
  simp only [ky,ai]
  obtain ⟨k1,_,k3⟩ := b7 hb hp
  rw [aQ (by omega),if_pos (az (by omega)),Int.toNat_natCast,hL,Option.bind_some]
  simp only
  rw [k1,Option.bind_some,(ef ha k3).1,ba (by omega) (by omega),show (i : Int) + 1 = ((i + 1 : Nat) : Int) by omega,Option.bind_fun_some]
theorem Q2 (h : qp b d t m0 m1 m2 s0 s1 s2 = true) : WK 200000 (b,d,g,t,m0,m1,m2,s0,s1,s2) = some (((b / 8).toNat : Nat) : Int) := by
  simp only [WK,ai]
  rw [fX,Option.bind_some,h]
  rcases (fw b d t m0 m1 m2 s0 s1 s2 h).1 with rfl | rfl | rfl <;> rfl
theorem qc (h : qp b d t m0 m1 m2 s0 s1 s2 = true) : J8 200000 (b,d,g,t,m0,m1,m2,s0,s1,s2) = some (((IB b d (ow m0 m1 m2 s0 s1 s2)).1 : Int),((IB b d (ow m0 m1 m2 s0 s1 s2)).2 : Int)) := by
  obtain ⟨hb,hd1,hd2,p0,p1,p2⟩ := fw b d t m0 m1 m2 s0 s1 s2 h
  have hb32 : b ≤ 32 := by omega
  have q0 := (b7 hb32 p0).2.2
  have q1 := (b7 hb32 p1).2.2
  have q2 := (b7 hb32 p2).2.2
  have a0 := Gj b d g t m0 m1 m2 s0 s1 s2 [(m0,s0,()),(m1,s1,()),(m2,s2,())] rfl 0 199999 0 m0 s0 rfl (by omega) hb32 p0 (by omega)
  rw [Nat.zero_or] at a0
  have a1 := Gj b d g t m0 m1 m2 s0 s1 s2 [(m0,s0,()),(m1,s1,()),(m2,s2,())] rfl 1 199998 (M m0 s0) m1 s1 rfl (by omega) hb32 p1 q0
  have a2 := Gj b d g t m0 m1 m2 s0 s1 s2 [(m0,s0,()),(m1,s1,()),(m2,s2,())] rfl 2 199997 (M m0 s0 ||| M m1 s1) m2 s2 rfl (by omega) hb32 p2 (ef q0 q1).2
  have a3 : ∀ acc : Int,cp 200000 (199996 + 1) (acc,((2 + 1 : Nat) : Int),[(m0,s0,()),(m1,s1,()),(m2,s2,())],b,d,g,t,m0,m1,m2,s0,s1,s2) = some (acc,b,d,g,t,m0,m1,m2,s0,s1,s2) := by
    intro acc
    show ky 200000 (cp 200000 199996) _ = _
    simp only [ky,ai]
    rw [aZ (by omega)]
  have hall : cp 200000 200000 (0,0,[(m0,s0,()),(m1,s1,()),(m2,s2,())],b,d,g,t,m0,m1,m2,s0,s1,s2) = some (((ow m0 m1 m2 s0 s1 s2 : Nat) : Int),b,d,g,t,m0,m1,m2,s0,s1,s2) :=
    (show _ = cp 200000 (199999 + 1) (((0 : Nat) : Int),((0 : Nat) : Int),[(m0,s0,()),(m1,s1,()),(m2,s2,())],b,d,g,t,m0,m1,m2,s0,s1,s2) from rfl).trans (a0.trans (a1.trans (a2.trans (a3 _))))
  have qa : ow m0 m1 m2 s0 s1 s2 < 4294967296 := (ef (ef q0 q1).2 q2).2
  simp only [J8,Vu,ai,Option.bind_some]
  rw [fX,Option.bind_some,h]
  simp only [Bool.not_true,Bool.false_eq_true,if_false]
  rw [hall,Option.bind_some]
  simp only
  rw [Q2 b d g t m0 m1 m2 s0 s1 s2 h,Option.bind_some]
  generalize ow m0 m1 m2 s0 s1 s2 = a at *
  have e255 : IntKind.wrap .i64 ((BitVec.toNat (BitVec.ofInt 64 (a : Int) &&& BitVec.ofInt 64 255) : Nat) : Int) = ((a &&& 255 : Nat) : Int) := dI qa (c := 255) (by omega)
  rw [e255]
  unfold IB
  by_cases h1 : b < 32
  · rw [aQ h1,if_neg (by omega)]
    rfl
  · rw [aZ h1]
    by_cases h2 : d > 24
    · rw [aQ h2,if_neg (by omega)]
      rfl
    · rw [aZ h2,if_pos (show b = 32 ∧ d ≤ 24 from ⟨by omega,by omega⟩)]
      by_cases h3 : a < 16777216
      · rw [aQ (by omega),if_pos h3]
        rfl
      · rw [aZ (by omega),if_neg h3]
        by_cases h4 : a &&& 255 = 0
        · rw [if_pos h4,if_pos (by simp [h4])]
          rfl
        · rw [if_neg h4,if_neg (by simp only [beq_iff_eq]; omega)]
          have : b = 32 := by omega
          subst this
          rfl
theorem qb (h : qp b d t m0 m1 m2 s0 s1 s2 = true) : N0 200000 (b,d,g,t,m0,m1,m2,s0,s1,s2) = some (((IB b d (ow m0 m1 m2 s0 s1 s2)).1 : Int),((IB b d (ow m0 m1 m2 s0 s1 s2)).2 : Int)) := by
  obtain ⟨hb,hd1,hd2,p0,p1,p2⟩ := fw b d t m0 m1 m2 s0 s1 s2 h
  have hb32 : b ≤ 32 := by omega
  obtain ⟨_,k0,q0⟩ := b7 hb32 p0
  obtain ⟨_,k1,q1⟩ := b7 hb32 p1
  obtain ⟨_,k2,q2⟩ := b7 hb32 p2
  have qa : ow m0 m1 m2 s0 s1 s2 < 4294967296 := (ef (ef q0 q1).2 q2).2
  have ea : IntKind.wrap .i64 ((BitVec.toNat (BitVec.ofInt 64 (IntKind.wrap .i64 ((BitVec.toNat (BitVec.ofInt 64 ((M m0 s0 : Nat) : Int) ||| BitVec.ofInt 64 ((M m1 s1 : Nat) : Int)) : Nat) : Int)) ||| BitVec.ofInt 64 ((M m2 s2 : Nat) : Int)) : Nat) : Int) = ((ow m0 m1 m2 s0 s1 s2 : Nat) : Int) := by
    rw [(ef q0 q1).1,(ef (ef q0 q1).2 q2).1]
    rfl
  simp only [N0,pb,ai]
  rw [k0,Option.bind_some,k1,Option.bind_some,k2,Option.bind_some,ea]
  generalize ow m0 m1 m2 s0 s1 s2 = a at *
  have e255 : IntKind.wrap .i64 ((BitVec.toNat (BitVec.ofInt 64 (a : Int) &&& BitVec.ofInt 64 255) : Nat) : Int) = ((a &&& 255 : Nat) : Int) := dI qa (c := 255) (by omega)
  rw [e255]
  unfold IB
  have e8 : IntKind.wrap .i64 (Int.tdiv b 8) = (((b / 8).toNat : Nat) : Int) := by rcases hb with rfl | rfl | rfl <;> rfl
  rw [e8]
  by_cases h1 : b = 32
  · rw [if_pos (by simpa using h1)]
    by_cases h2 : d ≤ 24
    · rw [aQ h2,if_pos (show b = 32 ∧ d ≤ 24 from ⟨h1,h2⟩)]
      by_cases h3 : a < 16777216
      · rw [aQ (by omega),if_pos h3]
        rfl
      · rw [aZ (by omega),if_neg h3,if_pos (by simpa using h1),aQ h2]
        by_cases h4 : a &&& 255 = 0
        · rw [if_pos h4,if_pos (by simp [h4])]
          rfl
        · rw [if_neg h4,if_neg (by simp only [beq_iff_eq]; omega)]
          subst h1
          rfl
    · rw [aZ h2,if_pos (by simpa using h1),aZ h2,if_neg (show ¬ (b = 32 ∧ d ≤ 24) from fun h => h2 h.2)]
      rfl
  · rw [if_neg (by simpa using h1),if_neg (by simpa using h1),if_neg (show ¬ (b = 32 ∧ d ≤ 24) from fun h => h1 h.1)]
    rfl
def up (v m s : Nat) : Nat := ((v / 2 ^ s &&& m) * 255 + m / 2) / m
theorem BK {v m s : Nat} (hm : 1 ≤ m) : up v m s ≤ 255 := by
  unfold up
  have h : v / 2 ^ s &&& m ≤ m := Nat.and_le_right
  have h2 : (v / 2 ^ s &&& m) * 255 + m / 2 < 256 * m := by omega
  have := (Nat.div_lt_iff_lt_mul (by omega : 0 < m)).2 h2
  omega
theorem Wg {v m s : Nat} (hv : v < 4294967296) (hm : 1 ≤ m) (hm2 : m < 65536) (hs : s ≤ 31) :
    IntKind.wrap .i64 (Int.tdiv (IntKind.wrap .i64 (IntKind.wrap .i64 (IntKind.wrap .i64 ((BitVec.toNat (BitVec.ofInt 64 (Int.fdiv (v : Int) ((2 : Int) ^ min (Int.toNat (s : Int)) 64)) &&& BitVec.ofInt 64 (m : Int)) : Nat) : Int) * 255) + IntKind.wrap .i64 (Int.tdiv (m : Int) 2))) (m : Int)) = ((up v m s : Nat) : Int) := by
  have e1 : Int.fdiv (v : Int) ((2 : Int) ^ min (Int.toNat (s : Int)) 64) = ((v / 2 ^ s : Nat) : Int) := by
    rw [Int.toNat_natCast,Nat.min_eq_left (by omega),show (2 : Int) ^ s = ((2 ^ s : Nat) : Int) by simp,CL]
  have h0 : v / 2 ^ s ≤ v := Nat.div_le_self _ _
  have h : v / 2 ^ s &&& m ≤ m := Nat.and_le_right
  rw [e1,dI (by omega) (by omega),show Int.tdiv (m : Int) 2 = ((m / 2 : Nat) : Int) from rfl,ba (n := ((v / 2 ^ s &&& m : Nat) : Int) * 255) (by omega) (by omega),ba (n := ((m / 2 : Nat) : Int)) (by omega) (by omega),ba (n := ((v / 2 ^ s &&& m : Nat) : Int) * 255 + ((m / 2 : Nat) : Int)) (by omega) (by omega)]
  rw [show ((v / 2 ^ s &&& m : Nat) : Int) * 255 + ((m / 2 : Nat) : Int) = (((v / 2 ^ s &&& m) * 255 + m / 2 : Nat) : Int) by omega]
  rw [show Int.tdiv ((((v / 2 ^ s &&& m) * 255 + m / 2 : Nat)) : Int) (m : Int) = ((up v m s : Nat) : Int) from rfl]
  have := BK (v := v) (s := s) hm
  exact ba (by omega) (by omega)
theorem Pv {c u : Nat} (hc : c < 4294967296) (hu : u < 256) : IntKind.wrap .i64 ((BitVec.toNat (BitVec.ofInt 64 (IntKind.wrap .i64 ((c : Int) * 256)) ||| BitVec.ofInt 64 (u : Int)) : Nat) : Int) = ((c * 256 + u : Nat) : Int) := by
  rw [ba (n := (c : Int) * 256) (by omega) (by omega),show (c : Int) * 256 = ((c * 256 : Nat) : Int) by omega]
  have e : (BitVec.ofInt 64 ((c * 256 : Nat) : Int) ||| BitVec.ofInt 64 (u : Int)).toNat = c * 256 + u := by
    rw [BitVec.toNat_or,BitVec.ofInt_natCast,BitVec.ofInt_natCast,BitVec.toNat_ofNat,BitVec.toNat_ofNat,Nat.mod_eq_of_lt (by omega),Nat.mod_eq_of_lt (by omega)]
    have := Nat.two_pow_add_eq_or_of_lt (i := 8) (b := u) hu c
    rw [show c * 256 = 2 ^ 8 * c by omega,← this]
  rw [e,ba (by omega) (by omega)]
def dw (v : Nat) : Nat := up v m0.toNat s0.toNat * 65536 + up v m1.toNat s1.toNat * 256 + up v m2.toNat s2.toNat
theorem sJ (L : List (Int × Int × Unit)) (hL3 : L.length = 3) (i k c v : Nat) (m s : Int) (hL : L[i]? = some (m,s,())) (hi : i < 3) (hb : b ≤ 32) (hp : part b m s = true) (hc : c < 4294967296) (hv : v < 4294967296) :
    cn 200000 (k + 1) ((c : Int),(i : Int),L,(v : Int)) = cn 200000 k (((c * 256 + up v m.toNat s.toNat : Nat) : Int),((i + 1 : Nat) : Int),L,(v : Int)) := by
  show kv 200000 (cn 200000 k) _ = _
  generalize cn 200000 k = G
  obtain ⟨m',s',rfl,rfl,h1,h2,h3,_⟩ := fJ hb hp
  simp only [kv,ai]
  rw [aQ (by omega),if_pos (az (by omega)),Int.toNat_natCast,hL,Option.bind_some]
  simp only
  have hu := BK (v := v) (s := s') h1
  rw [aZ (by omega),aZ (by omega),Wg hv h1 h2 h3,Pv hc (by omega),ba (by omega) (by omega),show (i : Int) + 1 = ((i + 1 : Nat) : Int) by omega,Option.bind_fun_some,Int.toNat_natCast,Int.toNat_natCast]
theorem G3 (h : qp b d t m0 m1 m2 s0 s1 s2 = true) (v : Nat) (hv : v < 4294967296) : F85 200000 (b,d,g,t,m0,m1,m2,s0,s1,s2,(v : Int)) = some ((dw m0 m1 m2 s0 s1 s2 v : Nat) : Int) := by
  obtain ⟨hb,hd1,hd2,p0,p1,p2⟩ := fw b d t m0 m1 m2 s0 s1 s2 h
  have hb32 : b ≤ 32 := by omega
  have u0 : up v m0.toNat s0.toNat ≤ 255 := by obtain ⟨m',s',rfl,rfl,h1,_⟩ := fJ hb32 p0; exact BK (by rw [Int.toNat_natCast]; exact h1)
  have u1 : up v m1.toNat s1.toNat ≤ 255 := by obtain ⟨m',s',rfl,rfl,h1,_⟩ := fJ hb32 p1; exact BK (by rw [Int.toNat_natCast]; exact h1)
  have a0 := sJ b [(m0,s0,()),(m1,s1,()),(m2,s2,())] rfl 0 199999 0 v m0 s0 rfl (by omega) hb32 p0 (by omega) hv
  have a1 := sJ b [(m0,s0,()),(m1,s1,()),(m2,s2,())] rfl 1 199998 (0 * 256 + up v m0.toNat s0.toNat) v m1 s1 rfl (by omega) hb32 p1 (by omega) hv
  have a2 := sJ b [(m0,s0,()),(m1,s1,()),(m2,s2,())] rfl 2 199997 ((0 * 256 + up v m0.toNat s0.toNat) * 256 + up v m1.toNat s1.toNat) v m2 s2 rfl (by omega) hb32 p2 (by omega) hv
  have a3 : ∀ c : Int,cn 200000 (199996 + 1) (c,((2 + 1 : Nat) : Int),[(m0,s0,()),(m1,s1,()),(m2,s2,())],(v : Int)) = some c := by
    intro c
    show kv 200000 (cn 200000 199996) _ = _
    simp only [kv,ai]
    rw [aZ (by omega)]
  have hall : cn 200000 200000 (0,0,[(m0,s0,()),(m1,s1,()),(m2,s2,())],(v : Int)) = some ((((0 * 256 + up v m0.toNat s0.toNat) * 256 + up v m1.toNat s1.toNat) * 256 + up v m2.toNat s2.toNat : Nat) : Int) :=
    (show _ = cn 200000 (199999 + 1) (((0 : Nat) : Int),((0 : Nat) : Int),[(m0,s0,()),(m1,s1,()),(m2,s2,())],(v : Int)) from rfl).trans (a0.trans (a1.trans (a2.trans (a3 _))))
  simp only [F85,Vu,ai,Option.bind_some]
  rw [fX,Option.bind_some,h]
  simp only [Bool.not_true,Bool.false_eq_true,if_false]
  rw [hall,Option.bind_some]
  unfold dw
  rw [show ((0 * 256 + up v m0.toNat s0.toNat) * 256 + up v m1.toNat s1.toNat) * 256 + up v m2.toNat s2.toNat = up v m0.toNat s0.toNat * 65536 + up v m1.toNat s1.toNat * 256 + up v m2.toNat s2.toNat by omega]
theorem D3 (h : qp b d t m0 m1 m2 s0 s1 s2 = true) (v : Nat) (hv : v < 4294967296) : RG 200000 (b,d,g,t,m0,m1,m2,s0,s1,s2,(v : Int)) = some ((dw m0 m1 m2 s0 s1 s2 v : Nat) : Int) := by
  obtain ⟨hb,hd1,hd2,p0,p1,p2⟩ := fw b d t m0 m1 m2 s0 s1 s2 h
  have hb32 : b ≤ 32 := by omega
  have one : ∀ m s : Int,part b m s = true → G8 200000 ((v : Int),m,s) = some ((up v m.toNat s.toNat : Nat) : Int) ∧ up v m.toNat s.toNat ≤ 255 := by
    intro m s hp
    obtain ⟨m',s',rfl,rfl,h1,h2,h3,_⟩ := fJ hb32 hp
    simp only [G8,ai]
    rw [aZ (by omega),aZ (by omega),Wg hv h1 h2 h3,Int.toNat_natCast,Int.toNat_natCast]
    exact ⟨rfl,BK h1⟩
  obtain ⟨e0,u0⟩ := one m0 s0 p0
  obtain ⟨e1,u1⟩ := one m1 s1 p1
  obtain ⟨e2,u2⟩ := one m2 s2 p2
  simp only [RG]
  rw [e0,Option.bind_some,e1,Option.bind_some,e2,Option.bind_some]
  unfold dw
  generalize up v m0.toNat s0.toNat = x0 at *
  generalize up v m1.toNat s1.toNat = x1 at *
  generalize up v m2.toNat s2.toNat = x2 at *
  rw [ba (n := (x0 : Int) * 65536) (by omega) (by omega),ba (n := (x1 : Int) * 256) (by omega) (by omega),ba (n := (x0 : Int) * 65536 + (x1 : Int) * 256) (by omega) (by omega),ba (by omega) (by omega)]
  congr 1
theorem Qg : dw m0 m1 m2 s0 s1 s2 0 = 0 := by
  have : ∀ m s : Nat,up 0 m s = 0 := by
    intro m s
    unfold up
    rw [Nat.zero_div,Nat.zero_and,Nat.zero_mul,Nat.zero_add]
    rcases Nat.eq_zero_or_pos m with rfl | h
    · rfl
    · exact Nat.div_eq_of_lt (by omega)
  unfold dw
  rw [this,this,this]
end
end Go.Proofs.YtfcamlibbfnldaaGreat.Am
set_option maxRecDepth 100000
namespace Go.Proofs.YtfcamlibbfnldaaGreat.Am
open Go.Am
def aD (l : List UInt8) (n p : Nat) (e : Int) : List UInt8 × Nat × Int :=
  if e = 0 then (if p + n ≤ l.length then ((l.drop p).take n,p + n,0) else ([],p,2)) else ([],p,e)
def gE (e : Int) : Prop := e = 0 ∨ e = 2
theorem bz (l : List UInt8) (n p : Nat) (e : Int) (hp : p ≤ l.length) (he : gE e) : (aD l n p e).2.1 ≤ l.length ∧ gE (aD l n p e).2.2 ∧ p ≤ (aD l n p e).2.1 ∧ ((aD l n p e).1 = [] ∨ (aD l n p e).1.length = n ∧ (aD l n p e).2.2 = 0 ∧ (aD l n p e).2.1 = p + n) := by
  unfold aD
  split
  · split
    · rename_i h1 h2
      exact ⟨h2,.inl rfl,by simp,.inr ⟨by simp; omega,rfl,rfl⟩⟩
    · exact ⟨hp,.inr rfl,Nat.le_refl _,.inl rfl⟩
  · exact ⟨hp,he,Nat.le_refl _,.inl rfl⟩
theorem By (l : List UInt8) (n p : Nat) (e : Int) (hp : p ≤ l.length) (he : gE e) (hl : l.length ≤ 100000) : lG 200000 ((n : Int),B l,(p : Int),e) = some (B (aD l n p e).1,B l,(((aD l n p e).2.1 : Nat) : Int),(aD l n p e).2.2) := by
  unfold aD
  rcases he with rfl | rfl
  · rw [if_pos rfl]
    by_cases h : p + n ≤ l.length
    · rw [if_pos h]
      exact Wb l n p h (by omega)
    · rw [if_neg h]
      exact Og l n p (by omega) hp (by omega)
  · rw [if_neg (by decide)]
    exact RO l n p hp (by omega)
theorem Bu (l : List UInt8) (n p : Nat) (e : Int) (hp : p ≤ l.length) (he : gE e) (hl : l.length ≤ 100000) (hn : n ≤ 100000) : vB 200000 ((n : Int),B l,(p : Int),e) = some (B (aD l n p e).1,B l,(((aD l n p e).2.1 : Nat) : Int),(aD l n p e).2.2) := by
  have w1 : IntKind.wrap .i64 (((B l).size : Int) - (p : Int)) = ((l.length - p : Nat) : Int) := by rw [a8,ba (by omega) (by omega)]; omega
  have w2 : IntKind.wrap .i64 ((p : Int) + (n : Int)) = ((p + n : Nat) : Int) := by rw [ba (by omega) (by omega)]; omega
  unfold aD
  simp only [vB,ai,w1,w2,Int.toNat_natCast]
  rcases he with rfl | rfl
  · rw [if_neg (by decide),if_pos rfl,aZ (by omega)]
    by_cases h : p + n ≤ l.length
    · rw [if_pos h,aZ (by omega),aQ (by rw [a8]; omega),aQ (by omega),KX,show p + n - p = n by omega]
    · rw [if_neg h,aQ (by omega)]
      rfl
  · rw [if_pos (by decide),if_neg (by decide)]
    rfl
theorem CW (l : List UInt8) (x : UInt8) : mB (l ++ [x]) = x.toNat + 256 * mB l := by unfold mB; simp [Cz]
theorem DO (l : List UInt8) (hl : l.length ≤ 4) : ∀ (suf pre : List UInt8) (k : Nat),l = pre ++ suf → suf.length < k →
    gU 200000 k (((mB pre : Nat) : Int),((pre.length : Nat) : Int),B l) = some ((mB l : Nat) : Int)
  | [],pre,k + 1,h,_ => by
    have : pre = l := by rw [h]; simp
    subst this
    show pA 200000 (gU 200000 k) _ = _
    simp only [pA,ai]
    rw [aZ (by rw [a8]; omega)]
  | x :: r,pre,k + 1,h,hk => by
    have hn : l.length = pre.length + r.length + 1 := by rw [h]; simp; omega
    have ih := DO l hl r (pre ++ [x]) k (by rw [h]; simp) (by simp at hk; omega)
    rw [show (pre ++ [x]).length = pre.length + 1 by simp,CW] at ih
    show pA 200000 (gU 200000 k) _ = _
    generalize gU 200000 k = G at *
    simp only [pA,ai]
    have hg : l[pre.length]? = some x := by rw [h]; simp
    have hb := zo (l := pre) (by omega)
    have := x.toNat_lt
    rw [aQ (by rw [a8]; omega),aQ (by omega),Int.toNat_natCast,EY,hg,Option.bind_some,LA,ba (n := ((mB pre : Nat) : Int) * 256) (by omega) (by omega),ba (by omega) (by omega),ba (by omega) (by omega)]
    rw [show ((mB pre : Nat) : Int) * 256 + (x.toNat : Int) = ((x.toNat + 256 * mB pre : Nat) : Int) by omega,show ((pre.length : Nat) : Int) + 1 = ((pre.length + 1 : Nat) : Int) by omega,ih,Option.bind_some]
theorem G4 (l : List UInt8) (hl : l.length ≤ 4) : Vx 200000 (B l) = some ((mB l : Nat) : Int) := by
  simp only [Vx]
  have := DO l hl l [] 200000 rfl (by omega)
  show Option.bind (gU 200000 200000 (((mB [] : Nat) : Int),((([] : List UInt8).length : Nat) : Int),B l)) _ = _
  rw [this,Option.bind_some]
def ar (l : List UInt8) (p : Nat) (e : Int) : Nat := mB (aD l 1 p e).1
theorem jV (l : List UInt8) (p : Nat) (e : Int) : ar l p e < 256 := by
  unfold ar aD
  split
  · split
    · have := sA ((l.drop p).take 1).reverse
      rw [List.length_reverse,List.length_take] at this
      have h2 : 256 ^ (min 1 (l.drop p).length) ≤ 256 ^ 1 := Nat.pow_le_pow_right (by decide) (Nat.min_le_left _ _)
      show mB ((l.drop p).take 1) < 256
      unfold mB
      omega
    · show mB [] < 256
      decide
  · show mB [] < 256
    decide
theorem Zt {l : List UInt8} (h : l.length ≤ 1) : l = [] ∨ ∃ x,l = [x] := by
  match l,h with
  | [],_ => exact .inl rfl
  | [x],_ => exact .inr ⟨x,rfl⟩
theorem l8 (l : List UInt8) (n p : Nat) (e : Int) : (aD l n p e).1.length ≤ n := by
  unfold aD
  split
  · split
    · simp; omega
    · simp
  · simp
theorem ju (l : List UInt8) (p : Nat) (e : Int) (hp : p ≤ l.length) (he : gE e) (hl : l.length ≤ 100000) : uP 200000 (1,B l,(p : Int),e) = some ((ar l p e : Int),B l,(((aD l 1 p e).2.1 : Nat) : Int),(aD l 1 p e).2.2) := by
  have hB := By l 1 p e hp he hl
  unfold ar
  have h1 := l8 l 1 p e
  generalize aD l 1 p e = r at *
  rcases Zt h1 with h | ⟨x,h⟩
  · rw [h] at hB ⊢
    exact D2 [] [] (by simp) rfl 1 _ _ _ _ _ _ rfl hB an4
  · rw [h] at hB ⊢
    have := D2 [x] [x] (by simp) rfl 1 _ _ _ _ _ _ rfl hB (an3 x)
    rw [this]
    simp [mB]
theorem js (l : List UInt8) (p : Nat) (e : Int) (hp : p ≤ l.length) (he : gE e) (hl : l.length ≤ 100000) : He 200000 (1,B l,(p : Int),e) = some ((ar l p e : Int),B l,(((aD l 1 p e).2.1 : Nat) : Int),(aD l 1 p e).2.2) := by
  have hB := Bu l 1 p e hp he hl (by omega)
  unfold ar
  have h1 := l8 l 1 p e
  simp only [He,Wd,ai]
  generalize aD l 1 p e = r at *
  have hB' : vB 200000 (1,B l,(p : Int),e) = some (B r.1,B l,((r.2.1 : Nat) : Int),r.2.2) := hB
  rw [hB',Option.bind_some]
  simp only
  rw [G4 _ (by omega),Option.bind_some]
  rcases he with rfl | rfl
  · rw [if_pos (by decide),if_pos (by decide),Option.bind_some,if_neg (by decide)]
  · rw [if_neg (by decide)]
def FR (g : Bool) (l : List UInt8) : List UInt8 := if g = true then l else l.reverse
theorem c7 (g : Bool) (l : List UInt8) : (FR g l).length = l.length := by unfold FR; split <;> simp
def vl (g : Bool) (sz sh : Nat) (l : List UInt8) : Nat := if l.length < sz then 0 else mB (FR g l) * 2 ^ sh
theorem xz (l : List UInt8) (hl : l.length ≤ 1000) : ∀ (suf pre : List UInt8) (k : Nat),l = pre ++ suf → suf.length < k →
    dM 200000 k (B pre.reverse,((pre.length : Nat) : Int),B l) = some (B l.reverse)
  | [],pre,k + 1,h,_ => by
    have : pre = l := by rw [h]; simp
    subst this
    show kz 200000 (dM 200000 k) _ = _
    simp only [kz,ai]
    rw [aZ (by rw [a8]; omega)]
  | x :: r,pre,k + 1,h,hk => by
    have hn : l.length = pre.length + r.length + 1 := by rw [h]; simp; omega
    have ih := xz l hl r (pre ++ [x]) k (by rw [h]; simp) (by simp at hk; omega)
    rw [show (pre ++ [x]).length = pre.length + 1 by simp,show (pre ++ [x]).reverse = [x] ++ pre.reverse by simp] at ih
    show kz 200000 (dM 200000 k) _ = _
    generalize dM 200000 k = G at *
    simp only [kz,ai]
    have he : (l.drop pre.length).take 1 = [x] := by rw [h]; simp
    have w : IntKind.wrap .i64 (((pre.length : Nat) : Int) + 1) = ((pre.length + 1 : Nat) : Int) := by rw [ba (by omega) (by omega)]; omega
    simp only [w,Int.toNat_natCast,KX]
    rw [show pre.length + 1 - pre.length = 1 by omega,he,aQ (by rw [a8]; omega),aQ (by rw [a8]; omega),aQ (by omega),aZ (by rw [a8,a8]; simp; omega),aH7,ih,Option.bind_some]
theorem N7 (l : List UInt8) (hl : l.length ≤ 1000) : Ro 200000 (B l) = some (B l.reverse) := by
  have h := xz l hl l [] 200000 rfl (by omega)
  simp only [Ro]
  show Option.bind (dM 200000 200000 (B ([] : List UInt8).reverse,((([] : List UInt8).length : Nat) : Int),B l)) _ = _
  rw [h,Option.bind_some]
section
variable (b d : Int) (g t : Bool) (m0 m1 m2 s0 s1 s2 : Int) (sz sh : Nat)
theorem xB (l : List UInt8) (hl : l.length = sz) (h4 : sz ≤ 4) : ∀ (suf pre : List UInt8) (k : Nat),FR g l = pre ++ suf → suf.length < k →
    cN 200000 k (((mB pre : Nat) : Int),((pre.length : Nat) : Int),(sz : Int),(sz : Int),B l,b,d,g,t,m0,m1,m2,s0,s1,s2) = some ((mB (FR g l) : Nat) : Int)
  | [],pre,k + 1,h,_ => by
    have hp : pre = FR g l := by rw [h]; simp
    have : pre.length = sz := by rw [hp,c7,hl]
    show gp 200000 (cN 200000 k) _ = _
    simp only [gp,ai]
    rw [aZ (by omega),hp]
  | x :: r,pre,k + 1,h,hk => by
    have hn : sz = pre.length + r.length + 1 := by have := c7 g l; rw [h,hl] at this; simp at this; omega
    have ih := xB l hl h4 r (pre ++ [x]) k (by rw [h]; simp) (by simp at hk; omega)
    rw [show (pre ++ [x]).length = pre.length + 1 by simp,CW] at ih
    show gp 200000 (cN 200000 k) _ = _
    generalize cN 200000 k = G at *
    simp only [gp,ai]
    have hb := zo (l := pre) (by omega)
    have hx := x.toNat_lt
    have hg : (FR g l)[pre.length]? = some x := by rw [h]; simp
    have hor := Pv hb (u := x.toNat) (by omega)
    rw [aQ (by omega),ba (n := ((pre.length : Nat) : Int) + 1) (by omega) (by omega),show ((pre.length : Nat) : Int) + 1 = ((pre.length + 1 : Nat) : Int) by omega]
    cases g with
    | true =>
      rw [if_pos rfl,aQ (by omega),Int.toNat_natCast,EY,show l[pre.length]? = some x from hg,Option.bind_some,LA,hor,show mB pre * 256 + x.toNat = x.toNat + 256 * mB pre by omega,ih,Option.bind_some]
    | false =>
      have e : IntKind.wrap .i64 (IntKind.wrap .i64 ((sz : Int) - 1) - ((pre.length : Nat) : Int)) = ((sz - 1 - pre.length : Nat) : Int) := by
        rw [ba (n := (sz : Int) - 1) (by omega) (by omega),ba (by omega) (by omega)]
        omega
      have hg2 : l[sz - 1 - pre.length]? = some x := by
        have : (FR false l)[pre.length]? = l.reverse[pre.length]? := rfl
        rw [this,List.getElem?_reverse (by omega),hl] at hg
        exact hg
      rw [if_neg (by decide),e,aQ (by omega),Int.toNat_natCast,EY,hg2,Option.bind_some,LA,hor,show mB pre * 256 + x.toNat = x.toNat + 256 * mB pre by omega,ih,Option.bind_some]
theorem OM (h4 : sz ≤ 4) (hsh : sh = 0 ∨ sh = 8 ∧ sz = 3) (l : List UInt8) (hl : l.length ≤ sz) : vl g sz sh l < 4294967296 := by
  unfold vl
  split
  · omega
  · have h := sA (FR g l).reverse
    rw [List.length_reverse,c7] at h
    have h2 : 256 ^ l.length ≤ 256 ^ sz := Nat.pow_le_pow_right (by decide) hl
    unfold mB
    rcases hsh with rfl | ⟨rfl,rfl⟩
    · have h3 : 256 ^ sz ≤ 256 ^ 4 := Nat.pow_le_pow_right (by decide) h4
      have h6 : (256 : Nat) ^ 4 = 4294967296 := by decide
      omega
    · have h6 : (256 : Nat) ^ 3 = 16777216 := by decide
      omega
theorem rS (hsh : sh = 0 ∨ sh = 8 ∧ sz = 3) {n : Nat} (hn : n < 4294967296) : IntKind.wrap .i64 ((n : Int) * (2 : Int) ^ min (Int.toNat (sh : Int)) 64) = ((n * 2 ^ sh : Nat) : Int) := by
  rcases hsh with rfl | ⟨rfl,_⟩
  · rw [show (2 : Int) ^ min (Int.toNat ((0 : Nat) : Int)) 64 = 1 from rfl,ba (by omega) (by omega)]
    omega
  · rw [show (2 : Int) ^ min (Int.toNat ((8 : Nat) : Int)) 64 = 256 from rfl,ba (by omega) (by omega)]
    omega
theorem Ry (hv : qp b d t m0 m1 m2 s0 s1 s2 = true) (h37 : J8 200000 (b,d,g,t,m0,m1,m2,s0,s1,s2) = some ((sz : Int),(sh : Int))) (h1 : 1 ≤ sz) (h4 : sz ≤ 4) (hsh : sh = 0 ∨ sh = 8 ∧ sz = 3) (l : List UInt8) (hl : l = [] ∨ l.length = sz) :
    ∃ e,Rz 200000 (b,d,g,t,m0,m1,m2,s0,s1,s2,B l) = some (((vl g sz sh l : Nat) : Int),e) := by
  simp only [Rz,V1,ai]
  rw [h37,Option.bind_some,fX,Option.bind_some,hv]
  simp only [Bool.not_true,Bool.false_eq_true,if_false]
  unfold vl
  rcases hl with rfl | hl
  · rw [aQ (by rw [a8]; simp; omega),Option.bind_some,aZ (by omega),if_pos (by simp; omega)]
    exact ⟨_,by have := rS sz sh hsh (n := 0) (by omega); rw [Nat.zero_mul] at this; rw [show (0 : Int) = ((0 : Nat) : Int) from rfl,this]⟩
  · have hloop := xB b d g t m0 m1 m2 s0 s1 s2 sz l hl h4 (FR g l) [] 200000 rfl (by rw [c7]; omega)
    have hb := zo (l := FR g l) (by rw [c7]; omega)
    rw [aZ (by rw [a8]; omega)]
    have hloop' : cN 200000 200000 (0,0,(sz : Int),(sz : Int),B l,b,d,g,t,m0,m1,m2,s0,s1,s2) = some ((mB (FR g l) : Nat) : Int) := hloop
    rw [hloop',Option.bind_some,Option.bind_some,aZ (by omega),if_neg (by omega),rS sz sh hsh hb]
    exact ⟨_,rfl⟩
theorem Rv (h87 : N0 200000 (b,d,g,t,m0,m1,m2,s0,s1,s2) = some ((sz : Int),(sh : Int))) (h1 : 1 ≤ sz) (h4 : sz ≤ 4) (hsh : sh = 0 ∨ sh = 8 ∧ sz = 3) (l : List UInt8) (hl : l = [] ∨ l.length = sz) :
    ∃ e,Rw 200000 (b,d,g,t,m0,m1,m2,s0,s1,s2,B l) = some (((vl g sz sh l : Nat) : Int),e) := by
  simp only [Rw,V0,ai]
  rw [h87,Option.bind_some]
  simp only
  unfold vl
  rcases hl with rfl | hl
  · rw [aQ (by rw [a8]; simp; omega),Option.bind_some,aZ (by omega),if_pos (by simp; omega)]
    exact ⟨_,by have := rS sz sh hsh (n := 0) (by omega); rw [Nat.zero_mul] at this; rw [show (0 : Int) = ((0 : Nat) : Int) from rfl,this]⟩
  · have hb := zo (l := FR g l) (by rw [c7]; omega)
    have hx : (B l).extract 0 (Int.toNat (sz : Int)) = B l := by
      rw [Int.toNat_natCast,KX,List.drop_zero,List.take_of_length_le (by omega)]
    rw [aZ (by rw [a8]; omega),aQ (by rw [a8]; omega),hx]
    cases g with
    | true =>
      rw [if_pos rfl,G4 _ (by omega),Option.bind_some,Option.bind_some,aZ (by omega),if_neg (by omega)]
      have := rS sz sh hsh hb
      exact ⟨_,by rw [show FR true l = l from rfl] at *; rw [this]⟩
    | false =>
      rw [if_neg (by decide),aQ (by rw [a8]; omega),N7 _ (by omega),Option.bind_some,G4 _ (by rw [List.length_reverse]; omega),Option.bind_some,Option.bind_some,aZ (by omega),if_neg (by omega)]
      have := rS sz sh hsh hb
      exact ⟨_,by rw [show FR false l = l.reverse from rfl] at *; rw [this]⟩
def lR (l : List UInt8) (p : Nat) (e : Int) : Nat := vl g sz sh (aD l sz p e).1
theorem If (l : List UInt8) (n p : Nat) (e : Int) (hp : p ≤ l.length) (he : gE e) : (aD l n p e).1 = [] ∨ (aD l n p e).1.length = n := by
  rcases (bz l n p e hp he).2.2.2 with h | h
  · exact .inl h
  · exact .inr h.1
theorem uO (hv : qp b d t m0 m1 m2 s0 s1 s2 = true) (h37 : J8 200000 (b,d,g,t,m0,m1,m2,s0,s1,s2) = some ((sz : Int),(sh : Int))) (h1 : 1 ≤ sz) (h4 : sz ≤ 4) (hsh : sh = 0 ∨ sh = 8 ∧ sz = 3) (l : List UInt8) (p : Nat) (e : Int) (hp : p ≤ l.length) (he : gE e) (hl : l.length ≤ 100000) :
    Hf 200000 (b,d,g,t,m0,m1,m2,s0,s1,s2,(sz : Int),B l,(p : Int),e) = some (((lR g sz sh l p e : Nat) : Int),B l,(((aD l sz p e).2.1 : Nat) : Int),(aD l sz p e).2.2) := by
  obtain ⟨e',h⟩ := Ry b d g t m0 m1 m2 s0 s1 s2 sz sh hv h37 h1 h4 hsh (aD l sz p e).1 (If l sz p e hp he)
  simp only [Hf]
  rw [By l sz p e hp he hl,Option.bind_some]
  simp only
  rw [h,Option.bind_some]
  rfl
theorem uN (h87 : N0 200000 (b,d,g,t,m0,m1,m2,s0,s1,s2) = some ((sz : Int),(sh : Int))) (h1 : 1 ≤ sz) (h4 : sz ≤ 4) (hsh : sh = 0 ∨ sh = 8 ∧ sz = 3) (l : List UInt8) (p : Nat) (e : Int) (hp : p ≤ l.length) (he : gE e) (hl : l.length ≤ 100000) :
    Hc 200000 (b,d,g,t,m0,m1,m2,s0,s1,s2,(sz : Int),B l,(p : Int),e) = some (((lR g sz sh l p e : Nat) : Int),b,d,g,t,m0,m1,m2,s0,s1,s2,(sz : Int),B l,(((aD l sz p e).2.1 : Nat) : Int),(aD l sz p e).2.2) := by
  obtain ⟨e',h⟩ := Rv b d g t m0 m1 m2 s0 s1 s2 sz sh h87 h1 h4 hsh (aD l sz p e).1 (If l sz p e hp he)
  simp only [Hc]
  rw [Bu l sz p e hp he hl (by omega),Option.bind_some]
  simp only
  rw [h,Option.bind_some]
  rfl
end
end Go.Proofs.YtfcamlibbfnldaaGreat.Am
set_option maxRecDepth 100000
namespace Go.Proofs.YtfcamlibbfnldaaGreat.Am
open Go.Am
def nl (l : List Nat) : List Int := l.map fun (v : Nat) => ((v : Nat) : Int)
theorem ap (l : List Nat) : (nl l).length = l.length := by unfold nl; simp
theorem gH (l k : List Nat) : nl l ++ nl k = nl (l ++ k) := by unfold nl; simp
theorem gG (v : Nat) : [(v : Int)] = nl [v] := rfl
theorem eh {l : List Nat} {i : Nat} (h : i < l.length) : (nl l)[i]? = some ((l.getD i 0 : Nat) : Int) := by
  unfold nl
  rw [List.getElem?_map,List.getD,List.getElem?_eq_getElem h]
  rfl
section
variable (b d : Int) (g t : Bool) (m0 m1 m2 s0 s1 s2 : Int) (sz sh : Nat) (l : List UInt8)
def aL : Nat → Nat → Int → List Nat → Nat × Int × List Nat
  | 0,p,e,acc => (p,e,acc)
  | n + 1,p,e,acc => aL n (aD l sz p e).2.1 (aD l sz p e).2.2 (acc ++ [lR g sz sh l p e])
theorem dq (h4 : sz ≤ 4) (hsh : sh = 0 ∨ sh = 8 ∧ sz = 3) : ∀ (n p : Nat) (e : Int) (acc : List Nat),p ≤ l.length → gE e → (∀ v ∈ acc,v < 4294967296) →
    (aL g sz sh l n p e acc).1 ≤ l.length ∧ gE (aL g sz sh l n p e acc).2.1 ∧ (aL g sz sh l n p e acc).2.2.length = acc.length + n ∧ ∀ v ∈ (aL g sz sh l n p e acc).2.2,v < 4294967296
  | 0,p,e,acc,hp,he,ha => ⟨hp,he,rfl,ha⟩
  | n + 1,p,e,acc,hp,he,ha => by
    obtain ⟨h1,h2,_,_⟩ := bz l sz p e hp he
    have hv := OM g sz sh h4 hsh (aD l sz p e).1 (l8 l sz p e)
    obtain ⟨k1,k2,k3,k4⟩ := dq h4 hsh n (aD l sz p e).2.1 (aD l sz p e).2.2 (acc ++ [lR g sz sh l p e]) h1 h2 (by
      intro v hv2
      rcases List.mem_append.1 hv2 with h | h
      · exact ha v h
      · rw [List.mem_singleton] at h; rw [h]; exact hv)
    exact ⟨k1,k2,by unfold aL; rw [k3]; simp; omega,k4⟩
variable (hv : qp b d t m0 m1 m2 s0 s1 s2 = true) (h37 : J8 200000 (b,d,g,t,m0,m1,m2,s0,s1,s2) = some ((sz : Int),(sh : Int))) (h87 : N0 200000 (b,d,g,t,m0,m1,m2,s0,s1,s2) = some ((sz : Int),(sh : Int))) (h1 : 1 ≤ sz) (h4 : sz ≤ 4) (hsh : sh = 0 ∨ sh = 8 ∧ sz = 3) (hl : l.length ≤ 100000)
include hv h37 h87 h1 h4 hsh hl
theorem xN : ∀ (j i p k : Nat) (e : Int) (acc : List Nat),p ≤ l.length → gE e → j < k → i + j ≤ 100000 → acc.length + j ≤ 100000 →
    dO 200000 k ((i : Int),((i + j : Nat) : Int),B l,(p : Int),e,nl acc,b,d,g,t,m0,m1,m2,s0,s1,s2,(sz : Int)) = some (B l,(((aL g sz sh l j p e acc).1 : Nat) : Int),(aL g sz sh l j p e acc).2.1,nl (aL g sz sh l j p e acc).2.2)
  | 0,i,p,k + 1,e,acc,hp,he,hk,hi,ha => by
    show kE 200000 (dO 200000 k) _ = _
    simp only [kE,ai]
    rw [aZ (by omega)]
    rfl
  | j + 1,i,p,k + 1,e,acc,hp,he,hk,hi,ha => by
    obtain ⟨q1,q2,_,_⟩ := bz l sz p e hp he
    have ih := xN j (i + 1) (aD l sz p e).2.1 k (aD l sz p e).2.2 (acc ++ [lR g sz sh l p e]) q1 q2 (by omega) (by omega) (by rw [List.length_append]; simp; omega)
    show kE 200000 (dO 200000 k) _ = _
    generalize dO 200000 k = G at *
    simp only [kE,ai]
    rw [aQ (by omega),uO b d g t m0 m1 m2 s0 s1 s2 sz sh hv h37 h1 h4 hsh l p e hp he hl,Option.bind_some]
    simp only
    rw [aQ (by rw [ap]; simp; omega),gG,gH,ba (by omega) (by omega),show (i : Int) + 1 = ((i + 1 : Nat) : Int) by omega,show i + (j + 1) = i + 1 + j by omega,ih,Option.bind_some]
    rfl
theorem pj (n p : Nat) (e : Int) (hp : p ≤ l.length) (he : gE e) (hn : n ≤ 100000) :
    Hg 200000 (b,d,g,t,m0,m1,m2,s0,s1,s2,(sz : Int),(n : Int),B l,(p : Int),e) = some (B l,(((aL g sz sh l n p e []).1 : Nat) : Int),(aL g sz sh l n p e []).2.1,nl (aL g sz sh l n p e []).2.2) := by
  have h := xN b d g t m0 m1 m2 s0 s1 s2 sz sh l hv h37 h87 h1 h4 hsh hl n 0 p 200000 e [] hp he (by omega) (by omega) (by simp; omega)
  rw [Nat.zero_add] at h
  simp only [Hg]
  show Option.bind (dO 200000 200000 (((0 : Nat) : Int),(n : Int),B l,(p : Int),e,nl [],b,d,g,t,m0,m1,m2,s0,s1,s2,(sz : Int))) _ = _
  rw [h,Option.bind_some]
theorem xJ : ∀ (j i p k : Nat) (e : Int) (acc : List Nat),p ≤ l.length → gE e → j < k → i + j ≤ 100000 → acc.length + j ≤ 100000 →
    dN 200000 k ((i : Int),((i + j : Nat) : Int),b,d,g,t,m0,m1,m2,s0,s1,s2,(sz : Int),B l,(p : Int),e,nl acc) = some (b,d,g,t,m0,m1,m2,s0,s1,s2,(sz : Int),B l,(((aL g sz sh l j p e acc).1 : Nat) : Int),(aL g sz sh l j p e acc).2.1,nl (aL g sz sh l j p e acc).2.2)
  | 0,i,p,k + 1,e,acc,hp,he,hk,hi,ha => by
    show kD 200000 (dN 200000 k) _ = _
    simp only [kD,ai]
    rw [aZ (by omega)]
    rfl
  | j + 1,i,p,k + 1,e,acc,hp,he,hk,hi,ha => by
    obtain ⟨q1,q2,_,_⟩ := bz l sz p e hp he
    have ih := xJ j (i + 1) (aD l sz p e).2.1 k (aD l sz p e).2.2 (acc ++ [lR g sz sh l p e]) q1 q2 (by omega) (by omega) (by rw [List.length_append]; simp; omega)
    show kD 200000 (dN 200000 k) _ = _
    generalize dN 200000 k = G at *
    simp only [kD,ai]
    rw [aQ (by omega),uN b d g t m0 m1 m2 s0 s1 s2 sz sh h87 h1 h4 hsh l p e hp he hl,Option.bind_some]
    simp only
    rw [aQ (by rw [ap]; simp; omega),gG,gH,ba (by omega) (by omega),show (i : Int) + 1 = ((i + 1 : Nat) : Int) by omega,show i + (j + 1) = i + 1 + j by omega,ih,Option.bind_some]
    rfl
theorem pg (n p : Nat) (e : Int) (hp : p ≤ l.length) (he : gE e) (hn : n ≤ 100000) :
    Hd 200000 ((n : Int),b,d,g,t,m0,m1,m2,s0,s1,s2,(sz : Int),B l,(p : Int),e) = some (b,d,g,t,m0,m1,m2,s0,s1,s2,(sz : Int),B l,(((aL g sz sh l n p e []).1 : Nat) : Int),(aL g sz sh l n p e []).2.1,nl (aL g sz sh l n p e []).2.2) := by
  have h := xJ b d g t m0 m1 m2 s0 s1 s2 sz sh l hv h37 h87 h1 h4 hsh hl n 0 p 200000 e [] hp he (by omega) (by omega) (by simp; omega)
  rw [Nat.zero_add] at h
  simp only [Hd]
  show Option.bind (dN 200000 200000 (((0 : Nat) : Int),(n : Int),b,d,g,t,m0,m1,m2,s0,s1,s2,(sz : Int),B l,(p : Int),e,nl [])) _ = _
  rw [h,Option.bind_some]
end
section
variable (b d : Int) (g t : Bool) (m0 m1 m2 s0 s1 s2 : Int) (sz : Nat) (l : List UInt8)
def cT : Nat → Nat → Int → Nat → Nat × Nat × Int
  | 0,p,e,n => (n,p,e)
  | k + 1,p,e,n => if ar l p e = 255 then cT k (aD l 1 p e).2.1 (aD l 1 p e).2.2 (n + 255) else (n + ar l p e,(aD l 1 p e).2.1,(aD l 1 p e).2.2)
theorem yH (p : Nat) (e : Int) (h : ar l p e = 255) : (aD l 1 p e).2.1 = p + 1 ∧ p + 1 ≤ l.length := by
  unfold ar at h
  unfold aD at h ⊢
  split
  · rename_i h0
    rw [if_pos h0] at h
    split
    · rename_i h1
      exact ⟨rfl,h1⟩
    · rename_i h1
      rw [if_neg h1] at h
      exact absurd (show mB [] = 255 from h) (by decide)
  · rename_i h0
    rw [if_neg h0] at h
    exact absurd (show mB [] = 255 from h) (by decide)
theorem yO : ∀ (k p : Nat) (e : Int) (n : Nat),p ≤ l.length → gE e → 1 ≤ n → l.length - p < k → (cT l k p e n).2.1 ≤ l.length ∧ gE (cT l k p e n).2.2 ∧ n ≤ (cT l k p e n).1 ∧ p ≤ (cT l k p e n).2.1
  | k + 1,p,e,n,hp,he,hn,hk => by
    obtain ⟨q1,q2,q3,_⟩ := bz l 1 p e hp he
    unfold cT
    split
    · rename_i h
      obtain ⟨h1,h2⟩ := yH l p e h
      obtain ⟨r1,r2,r3,r4⟩ := yO k (aD l 1 p e).2.1 (aD l 1 p e).2.2 (n + 255) q1 q2 (by omega) (by omega)
      exact ⟨r1,r2,by omega,by omega⟩
    · exact ⟨q1,q2,by simp,q3⟩
theorem xA (hl : l.length ≤ 100000) : ∀ (j p k : Nat) (e : Int) (n : Nat),p ≤ l.length → gE e → l.length - p < j → j < k → n + 255 * j ≤ 100000000 →
    dn 200000 k (255,(n : Int),B l,(p : Int),e,b,d,g,t,m0,m1,m2,s0,s1,s2,(sz : Int)) = some (((cT l j p e n).1 : Int),B l,(((cT l j p e n).2.1 : Nat) : Int),(cT l j p e n).2.2)
  | j + 1,p,k + 1,e,n,hp,he,hj,hk,hn => by
    obtain ⟨q1,q2,_,_⟩ := bz l 1 p e hp he
    have hb := jV l p e
    have go : dn 200000 (k + 1) (255,(n : Int),B l,(p : Int),e,b,d,g,t,m0,m1,m2,s0,s1,s2,(sz : Int)) = dn 200000 k ((ar l p e : Int),((n + ar l p e : Nat) : Int),B l,(((aD l 1 p e).2.1 : Nat) : Int),(aD l 1 p e).2.2,b,d,g,t,m0,m1,m2,s0,s1,s2,(sz : Int)) := by
      show kA 200000 (dn 200000 k) _ = _
      generalize dn 200000 k = G at *
      simp only [kA,ai]
      rw [if_pos (by decide),ju l p e hp he hl,Option.bind_some]
      simp only
      rw [ba (by omega) (by omega),show (n : Int) + (ar l p e : Int) = ((n + ar l p e : Nat) : Int) by omega,Option.bind_fun_some]
    rw [go]
    unfold cT
    split
    · rename_i h
      obtain ⟨h1,h2⟩ := yH l p e h
      rw [h]
      exact xA hl j (aD l 1 p e).2.1 k (aD l 1 p e).2.2 (n + 255) q1 q2 (by omega) (by omega) (by omega)
    · rename_i h
      obtain ⟨k',rfl⟩ : ∃ k',k = k' + 1 := ⟨k - 1,by omega⟩
      show kA 200000 (dn 200000 k') _ = _
      simp only [kA,ai]
      rw [if_neg (by simp only [beq_iff_eq]; omega)]
theorem DV (hl : l.length ≤ 100000) (p : Nat) (e : Int) (hp : p ≤ l.length) (he : gE e) :
    Oa 200000 (b,d,g,t,m0,m1,m2,s0,s1,s2,(sz : Int),B l,(p : Int),e) = some (((cT l 100001 p e 1).1 : Int),B l,(((cT l 100001 p e 1).2.1 : Nat) : Int),(cT l 100001 p e 1).2.2) := by
  have h := xA b d g t m0 m1 m2 s0 s1 s2 sz l hl 100001 p 200000 e 1 hp he (by omega) (by omega) (by omega)
  simp only [Oa]
  rw [show ((1 : Nat) : Int) = 1 from rfl] at h
  rw [h,Option.bind_some]
theorem xC (hl : l.length ≤ 100000) : ∀ (j p k : Nat) (e : Int) (n : Nat),p ≤ l.length → gE e → l.length - p < j → j ≤ k → n + 255 * j ≤ 100000000 →
    kr 200000 k ((n : Int),b,d,g,t,m0,m1,m2,s0,s1,s2,(sz : Int),B l,(p : Int),e) = some (((cT l j p e n).1 : Int),b,d,g,t,m0,m1,m2,s0,s1,s2,(sz : Int),B l,(((cT l j p e n).2.1 : Nat) : Int),(cT l j p e n).2.2)
  | j + 1,p,k + 1,e,n,hp,he,hj,hk,hn => by
    obtain ⟨q1,q2,_,_⟩ := bz l 1 p e hp he
    have hb := jV l p e
    have ih := xC hl j
    show rC 200000 (kr 200000 k) _ = _
    simp only [rC,ai]
    rw [js l p e hp he hl,Option.bind_some]
    simp only
    rw [ba (by omega) (by omega),show (n : Int) + (ar l p e : Int) = ((n + ar l p e : Nat) : Int) by omega]
    unfold cT
    by_cases h : ar l p e = 255
    · obtain ⟨h1,h2⟩ := yH l p e h
      rw [if_pos h,if_neg (by rw [h]; decide),h,ih (aD l 1 p e).2.1 k (aD l 1 p e).2.2 (n + 255) q1 q2 (by omega) (by omega) (by omega),Option.bind_some]
    · rw [if_neg h,if_pos (by simp only [bne_iff_ne,ne_eq]; omega)]
theorem DX (hl : l.length ≤ 100000) (p : Nat) (e : Int) (hp : p ≤ l.length) (he : gE e) :
    Od 200000 (b,d,g,t,m0,m1,m2,s0,s1,s2,(sz : Int),B l,(p : Int),e) = some (((cT l 100001 p e 1).1 : Int),b,d,g,t,m0,m1,m2,s0,s1,s2,(sz : Int),B l,(((cT l 100001 p e 1).2.1 : Nat) : Int),(cT l 100001 p e 1).2.2) := by
  have h := xC b d g t m0 m1 m2 s0 s1 s2 sz l hl 100001 p 200000 e 1 hp he (by omega) (by omega) (by omega)
  simp only [Od]
  rw [show ((1 : Nat) : Int) = 1 from rfl] at h
  rw [h,Option.bind_some]
end
end Go.Proofs.YtfcamlibbfnldaaGreat.Am
set_option maxRecDepth 100000
namespace Go.Proofs.YtfcamlibbfnldaaGreat.Am
open Go.Am
section
variable (b d : Int) (g t : Bool) (m0 m1 m2 s0 s1 s2 : Int) (sz sh : Nat) (l : List UInt8)
def bU (pal : List Nat) (p : Nat) (e : Int) : Option (Nat × Nat × Nat × Int) :=
  if pal.length = 0 then some (lR g sz sh l p e,cT l 100001 (aD l sz p e).2.1 (aD l sz p e).2.2 1)
  else if ar l p e % 128 ≥ pal.length then none
  else if ar l p e ≥ 128 then some (pal.getD (ar l p e % 128) 0,cT l 100001 (aD l 1 p e).2.1 (aD l 1 p e).2.2 1)
  else some (pal.getD (ar l p e % 128) 0,1,(aD l 1 p e).2.1,(aD l 1 p e).2.2)
def ce (pal : List Nat) (all : Nat) : Nat → Nat → Int → List Nat → Option (Nat × Int × List Nat)
  | 0,_,_,_ => none
  | k + 1,p,e,out => if out.length < all then (match bU g sz sh l pal p e with
      | none => none
      | some (v,m,p',e') => if e' ≠ 0 then none else if m > all - out.length then none else ce pal all k p' e' (out ++ List.replicate m v))
    else some (p,e,out)
theorem rL (h4 : sz ≤ 4) (hsh : sh = 0 ∨ sh = 8 ∧ sz = 3) {pal : List Nat} {p : Nat} {e : Int} (hp : p ≤ l.length) (he : gE e) (hl : l.length ≤ 100000) (hpal : ∀ v ∈ pal,v < 4294967296) {v m p' : Nat} {e' : Int} (h : bU g sz sh l pal p e = some (v,m,p',e')) :
    p' ≤ l.length ∧ gE e' ∧ 1 ≤ m ∧ v < 4294967296 := by
  unfold bU at h
  obtain ⟨q1,q2,_,_⟩ := bz l sz p e hp he
  obtain ⟨r1,r2,_,_⟩ := bz l 1 p e hp he
  have hv := OM g sz sh h4 hsh (aD l sz p e).1 (l8 l sz p e)
  have hg : ∀ i,i < pal.length → pal.getD i 0 < 4294967296 := fun i hi => hpal _ (by rw [List.getD,List.getElem?_eq_getElem hi]; exact List.getElem_mem hi)
  split at h
  · have := yO l 100001 (aD l sz p e).2.1 (aD l sz p e).2.2 1 q1 q2 (by omega) (by omega)
    generalize cT l 100001 (aD l sz p e).2.1 (aD l sz p e).2.2 1 = r at *
    have h5 := Option.some.inj h
    have e1 : r = (m,p',e') := congrArg Prod.snd h5
    have e2 : lR g sz sh l p e = v := congrArg Prod.fst h5
    rw [e1] at this
    rw [← e2]
    exact ⟨this.1,this.2.1,this.2.2.1,hv⟩
  · split at h
    · cases h
    · rename_i h2
      split at h
      · have := yO l 100001 (aD l 1 p e).2.1 (aD l 1 p e).2.2 1 r1 r2 (by omega) (by omega)
        generalize cT l 100001 (aD l 1 p e).2.1 (aD l 1 p e).2.2 1 = r at *
        have h5 := Option.some.inj h
        have e1 : r = (m,p',e') := congrArg Prod.snd h5
        have e2 : pal.getD (ar l p e % 128) 0 = v := congrArg Prod.fst h5
        rw [e1] at this
        rw [← e2]
        exact ⟨this.1,this.2.1,this.2.2.1,hg _ (by omega)⟩
      · have h5 := Option.some.inj h
        simp only [Prod.mk.injEq] at h5
        obtain ⟨e2,e3,e4,e5⟩ := h5
        rw [← e2,← e3,← e4,← e5]
        exact ⟨r1,r2,by omega,hg _ (by omega)⟩
theorem Cg (h4 : sz ≤ 4) (hsh : sh = 0 ∨ sh = 8 ∧ sz = 3) (pal : List Nat) (all : Nat) (hl : l.length ≤ 100000) (hpal : ∀ v ∈ pal,v < 4294967296) : ∀ (k p : Nat) (e : Int) (out : List Nat),p ≤ l.length → gE e → out.length ≤ all → (∀ v ∈ out,v < 4294967296) → ∀ p' e' out',ce g sz sh l pal all k p e out = some (p',e',out') →
    p' ≤ l.length ∧ gE e' ∧ out'.length = all ∧ ∀ v ∈ out',v < 4294967296
  | k + 1,p,e,out,hp,he,ho,hov,p',e',out',h => by
    unfold ce at h
    split at h
    · cases hs : bU g sz sh l pal p e with
      | none => rw [hs] at h; cases h
      | some r =>
        obtain ⟨v,m,p1,e1⟩ := r
        rw [hs] at h
        simp only at h
        obtain ⟨a1,a2,a3,a4⟩ := rL g sz sh l h4 hsh hp he hl hpal hs
        split at h
        · cases h
        · split at h
          · cases h
          · refine Cg h4 hsh pal all hl hpal k p1 e1 (out ++ List.replicate m v) a1 a2 (by rw [List.length_append,List.length_replicate]; omega) ?_ p' e' out' h
            intro x hx
            rcases List.mem_append.1 hx with h5 | h5
            · exact hov x h5
            · rw [(List.mem_replicate.1 h5).2]; exact a4
    · cases h
      exact ⟨hp,he,by omega,hov⟩
variable (hv : qp b d t m0 m1 m2 s0 s1 s2 = true) (h37 : J8 200000 (b,d,g,t,m0,m1,m2,s0,s1,s2) = some ((sz : Int),(sh : Int))) (h87 : N0 200000 (b,d,g,t,m0,m1,m2,s0,s1,s2) = some ((sz : Int),(sh : Int))) (h1 : 1 ≤ sz) (h4 : sz ≤ 4) (hsh : sh = 0 ∨ sh = 8 ∧ sz = 3) (hl : l.length ≤ 100000)
theorem aa3 : ∀ n : Fin 256,n.val &&& 127 = n.val % 128 := by decide
theorem zq {n : Nat} (h : n < 256) : IntKind.wrap .i64 ((BitVec.toNat (BitVec.ofInt 64 (n : Int) &&& BitVec.ofInt 64 127) : Nat) : Int) = ((n % 128 : Nat) : Int) := by
  have := dI (a := n) (c := 127) (by omega) (by omega)
  have h2 := aa3 ⟨n,h⟩
  simp only at h2
  rw [h2] at this
  exact this
theorem xL (x2 : Int) (v : Nat) (p : Nat) (e : Int) (pal : List Int) : ∀ (j i k : Nat) (out : List Nat),j < k → i + j ≤ 100000 → out.length + j ≤ 200000 →
    bN 200000 k ((i : Int),((i + j : Nat) : Int),x2,(v : Int),B l,(p : Int),e,nl out,b,d,g,t,m0,m1,m2,s0,s1,s2,(sz : Int),pal) = some (x2,B l,(p : Int),e,pal,b,d,g,t,m0,m1,m2,s0,s1,s2,(sz : Int),nl (out ++ List.replicate j v))
  | 0,i,k + 1,out,hk,hi,ho => by
    show d0 200000 (bN 200000 k) _ = _
    simp only [d0,ai]
    rw [aZ (by omega),List.replicate_zero,List.append_nil]
  | j + 1,i,k + 1,out,hk,hi,ho => by
    have ih := xL x2 v p e pal j (i + 1) k (out ++ [v]) (by omega) (by omega) (by rw [List.length_append]; simp; omega)
    show d0 200000 (bN 200000 k) _ = _
    generalize bN 200000 k = G at *
    simp only [d0,ai]
    rw [aQ (by omega),aQ (by rw [ap]; simp; omega),gG,gH,ba (by omega) (by omega),show (i : Int) + 1 = ((i + 1 : Nat) : Int) by omega,show i + (j + 1) = i + 1 + j by omega,ih,Option.bind_some]
    rw [List.append_assoc,List.replicate_succ]
    rfl
theorem xG (x2 x3 : Int) (v : Nat) (p : Nat) (e : Int) (pal : List Int) : ∀ (j i k : Nat) (out : List Nat),j < k → i + j ≤ 100000 → out.length + j ≤ 200000 →
    a6 200000 k ((i : Int),((i + j : Nat) : Int),x2,x3,(v : Int),b,d,g,t,m0,m1,m2,s0,s1,s2,(sz : Int),B l,(p : Int),e,nl out,pal) = some (x3,x2,b,d,g,t,m0,m1,m2,s0,s1,s2,(sz : Int),B l,(p : Int),e,nl (out ++ List.replicate j v),pal)
  | 0,i,k + 1,out,hk,hi,ho => by
    show dk 200000 (a6 200000 k) _ = _
    simp only [dk,ai]
    rw [aZ (by omega),List.replicate_zero,List.append_nil]
  | j + 1,i,k + 1,out,hk,hi,ho => by
    have ih := xG x2 x3 v p e pal j (i + 1) k (out ++ [v]) (by omega) (by omega) (by rw [List.length_append]; simp; omega)
    show dk 200000 (a6 200000 k) _ = _
    generalize a6 200000 k = G at *
    simp only [dk,ai]
    rw [aQ (by omega),aQ (by rw [ap]; simp; omega),gG,gH,ba (by omega) (by omega),show (i : Int) + 1 = ((i + 1 : Nat) : Int) by omega,show i + (j + 1) = i + 1 + j by omega,ih,Option.bind_some]
    rw [List.append_assoc,List.replicate_succ]
    rfl
include hv h37 h87 h1 h4 hsh hl
theorem Rx (pal : List Nat) (hpl : pal.length ≤ 200) (p : Nat) (e : Int) (hp : p ≤ l.length) (he : gE e) : match bU g sz sh l pal p e with
    | some (v,m,p',e') => Bv 200000 (b,d,g,t,m0,m1,m2,s0,s1,s2,(sz : Int),nl pal,B l,(p : Int),e) = some ((v : Int),(m : Int),true,B l,(p' : Int),e')
    | none => ∃ q : Nat,∃ e',Bv 200000 (b,d,g,t,m0,m1,m2,s0,s1,s2,(sz : Int),nl pal,B l,(p : Int),e) = some (0,0,false,B l,(q : Int),e') := by
  obtain ⟨q1,q2,_,_⟩ := bz l sz p e hp he
  obtain ⟨r1,r2,_,_⟩ := bz l 1 p e hp he
  have hb := jV l p e
  by_cases hz : pal.length = 0
  · have hs : bU g sz sh l pal p e = some (lR g sz sh l p e,cT l 100001 (aD l sz p e).2.1 (aD l sz p e).2.2 1) := by unfold bU; rw [if_pos hz]
    rw [hs]
    simp only [Bv,ai,ap]
    rw [if_pos (by simp [hz]),uO b d g t m0 m1 m2 s0 s1 s2 sz sh hv h37 h1 h4 hsh l p e hp he hl,Option.bind_some]
    simp only
    rw [DV b d g t m0 m1 m2 s0 s1 s2 sz l hl _ _ q1 q2,Option.bind_some]
  · by_cases hg : ar l p e % 128 ≥ pal.length
    · have hs : bU g sz sh l pal p e = none := by unfold bU; rw [if_neg hz,if_pos hg]
      rw [hs]
      simp only [Bv,ai,ap]
      rw [if_neg (by simp only [beq_iff_eq]; omega),ju l p e hp he hl,Option.bind_some]
      simp only
      rw [zq hb,aQ (by omega)]
      exact ⟨_,_,rfl⟩
    · by_cases hb2 : ar l p e ≥ 128
      · have hs : bU g sz sh l pal p e = some (pal.getD (ar l p e % 128) 0,cT l 100001 (aD l 1 p e).2.1 (aD l 1 p e).2.2 1) := by unfold bU; rw [if_neg hz,if_neg hg,if_pos hb2]
        rw [hs]
        simp only [Bv,ai,ap]
        rw [if_neg (by simp only [beq_iff_eq]; omega),ju l p e hp he hl,Option.bind_some]
        simp only
        rw [zq hb,aZ (by omega),aQ (by omega),DV b d g t m0 m1 m2 s0 s1 s2 sz l hl _ _ r1 r2,Option.bind_some,if_pos (az (by omega)),Int.toNat_natCast,eh (by omega),Option.bind_some]
      · have hs : bU g sz sh l pal p e = some (pal.getD (ar l p e % 128) 0,1,(aD l 1 p e).2.1,(aD l 1 p e).2.2) := by unfold bU; rw [if_neg hz,if_neg hg,if_neg hb2]
        rw [hs]
        simp only [Bv,ai,ap]
        rw [if_neg (by simp only [beq_iff_eq]; omega),ju l p e hp he hl,Option.bind_some]
        simp only
        rw [zq hb,aZ (by omega),aZ (by omega),if_pos (az (by omega)),Int.toNat_natCast,eh (by omega),Option.bind_some]
        rfl
theorem xK (pal : List Nat) (hpl : pal.length ≤ 200) (hpal : ∀ v ∈ pal,v < 4294967296) (all : Nat) (hall : all ≤ 50000) : ∀ (j p k : Nat) (e : Int) (out : List Nat),p ≤ l.length → gE e → out.length ≤ all → all - out.length < j → j ≤ k →
    match ce g sz sh l pal all j p e out with
    | some (p',e',out') => ca 200000 k ((all : Int),B l,(p : Int),e,nl pal,b,d,g,t,m0,m1,m2,s0,s1,s2,(sz : Int),nl out) = some (.inr (B l,(p' : Int),e',nl out'))
    | none => ∃ q : Nat,∃ e',ca 200000 k ((all : Int),B l,(p : Int),e,nl pal,b,d,g,t,m0,m1,m2,s0,s1,s2,(sz : Int),nl out) = some (.inl (false,B l,(q : Int),e',[]))
  | j + 1,p,k + 1,e,out,hp,he,ho,hj,hk => by
    have ih := xK pal hpl hpal all hall j
    have hrun := Rx b d g t m0 m1 m2 s0 s1 s2 sz sh l hv h37 h87 h1 h4 hsh hl pal hpl p e hp he
    by_cases hlt : out.length < all
    · cases hs : bU g sz sh l pal p e with
      | none =>
        rw [hs] at hrun
        obtain ⟨q,e',hr⟩ := hrun
        unfold ce
        rw [if_pos hlt,hs]
        refine ⟨q,e',?_⟩
        show fc 200000 (ca 200000 k) _ = _
        simp only [fc,ai]
        rw [aQ (by rw [ap]; omega),hr]
        rfl
      | some r =>
        obtain ⟨v,m,p1,e1⟩ := r
        rw [hs] at hrun
        simp only at hrun
        obtain ⟨a1,a2,a3,a4⟩ := rL g sz sh l h4 hsh hp he hl hpal hs
        have hB : ca 200000 (k + 1) ((all : Int),B l,(p : Int),e,nl pal,b,d,g,t,m0,m1,m2,s0,s1,s2,(sz : Int),nl out) = (if (e1 != 0) = true then some (.inl (false,B l,(p1 : Int),e1,[])) else
            if decide ((m : Int) > IntKind.wrap .i64 ((all : Int) - ((nl out).length : Int))) = true then some (.inl (false,B l,(p1 : Int),e1,[])) else
            (bN 200000 200000 (0,(m : Int),(all : Int),(v : Int),B l,(p1 : Int),e1,nl out,b,d,g,t,m0,m1,m2,s0,s1,s2,(sz : Int),nl pal)).bind fun y => (ca 200000 k y).bind fun r => match r with | .inl y => some (.inl y) | .inr y => some (.inr y)) := by
          show fc 200000 (ca 200000 k) _ = _
          generalize ca 200000 k = G
          simp only [fc,ai]
          rw [aQ (by rw [ap]; omega),hrun,Option.bind_some]
          rfl
        rw [hB]
        unfold ce
        rw [if_pos hlt,hs]
        simp only [ap]
        by_cases he1 : e1 = 0
        · simp only [he1,bne_self_eq_false,Bool.false_eq_true,if_false,ne_eq,not_true_eq_false]
          rw [ba (n := (all : Int) - (out.length : Int)) (by omega) (by omega)]
          by_cases hm : m > all - out.length
          · rw [if_pos hm,aQ (by omega)]
            exact ⟨p1,0,rfl⟩
          · rw [if_neg hm,aZ (by omega)]
            have hfill := xL b d g t m0 m1 m2 s0 s1 s2 sz l (all : Int) v p1 0 (nl pal) m 0 200000 out (by omega) (by omega) (by omega)
            rw [Nat.zero_add] at hfill
            have hfill' : bN 200000 200000 (0,(m : Int),(all : Int),(v : Int),B l,(p1 : Int),0,nl out,b,d,g,t,m0,m1,m2,s0,s1,s2,(sz : Int),nl pal) = _ := hfill
            rw [hfill']
            have := ih p1 k 0 (out ++ List.replicate m v) a1 (.inl rfl) (by rw [List.length_append,List.length_replicate]; omega) (by rw [List.length_append,List.length_replicate]; omega) (by omega)
            simp only [Option.bind_some]
            cases hr : ce g sz sh l pal all j p1 0 (out ++ List.replicate m v) with
            | none =>
              rw [hr] at this
              obtain ⟨q,e',h⟩ := this
              exact ⟨q,e',by rw [h]; rfl⟩
            | some r =>
              rw [hr] at this
              simp only at this ⊢
              rw [this]; rfl
        · rw [if_pos he1,if_pos (by simpa using he1)]
          exact ⟨p1,e1,rfl⟩
    · unfold ce
      rw [if_neg hlt]
      show fc 200000 (ca 200000 k) _ = _
      simp only [fc,ai]
      rw [aZ (by rw [ap]; omega)]
theorem xF (pal : List Nat) (hpl : pal.length ≤ 200) (hpal : ∀ v ∈ pal,v < 4294967296) (all : Nat) (hall : all ≤ 50000) : ∀ (j p k : Nat) (e : Int) (out : List Nat),p ≤ l.length → gE e → out.length ≤ all → all - out.length < j → j ≤ k →
    match ce g sz sh l pal all j p e out with
    | some (p',e',out') => cO 200000 k (((pal.length : Nat) : Int),(all : Int),b,d,g,t,m0,m1,m2,s0,s1,s2,(sz : Int),B l,(p : Int),e,nl out,nl pal) = some (.inr (b,d,g,t,m0,m1,m2,s0,s1,s2,(sz : Int),B l,(p' : Int),e',nl out'))
    | none => ∃ q : Nat,∃ e',cO 200000 k (((pal.length : Nat) : Int),(all : Int),b,d,g,t,m0,m1,m2,s0,s1,s2,(sz : Int),B l,(p : Int),e,nl out,nl pal) = some (.inl (false,b,d,g,t,m0,m1,m2,s0,s1,s2,(sz : Int),B l,(q : Int),e',[]))
  | j + 1,p,k + 1,e,out,hp,he,ho,hj,hk => by
    have ih := xF pal hpl hpal all hall j
    obtain ⟨q1,q2,_,_⟩ := bz l sz p e hp he
    obtain ⟨r1,r2,_,_⟩ := bz l 1 p e hp he
    have hb := jV l p e
    have hF : ∀ r,cO 200000 (k + 1) (((pal.length : Nat) : Int),(all : Int),b,d,g,t,m0,m1,m2,s0,s1,s2,(sz : Int),B l,(p : Int),e,nl out,nl pal) = r ↔ fb 200000 (cO 200000 k) (((pal.length : Nat) : Int),(all : Int),b,d,g,t,m0,m1,m2,s0,s1,s2,(sz : Int),B l,(p : Int),e,nl out,nl pal) = r := fun _ => Iff.rfl
    simp only [hF]
    -- what is done with a run
    have fin : ∀ (v m p1 : Nat) (e1 : Int),bU g sz sh l pal p e = some (v,m,p1,e1) → ∀ R : Option qO,
        R = (if (e1 != 0) = true then some (.inl (false,b,d,g,t,m0,m1,m2,s0,s1,s2,(sz : Int),B l,(p1 : Int),e1,[])) else
          if decide ((m : Int) > IntKind.wrap .i64 ((all : Int) - ((nl out).length : Int))) = true then some (.inl (false,b,d,g,t,m0,m1,m2,s0,s1,s2,(sz : Int),B l,(p1 : Int),e1,[])) else
          (a6 200000 200000 (0,(m : Int),(all : Int),((pal.length : Nat) : Int),(v : Int),b,d,g,t,m0,m1,m2,s0,s1,s2,(sz : Int),B l,(p1 : Int),e1,nl out,nl pal)).bind fun y => (cO 200000 k y).bind fun r => match r with | .inl y => some (.inl y) | .inr y => some (.inr y)) →
        out.length < all →
        (match ce g sz sh l pal all (j + 1) p e out with
          | some (p',e',out') => R = some (.inr (b,d,g,t,m0,m1,m2,s0,s1,s2,(sz : Int),B l,(p' : Int),e',nl out'))
          | none => ∃ q : Nat,∃ e',R = some (.inl (false,b,d,g,t,m0,m1,m2,s0,s1,s2,(sz : Int),B l,(q : Int),e',[]))) := by
      intro v m p1 e1 hs R hR hlt
      subst hR
      obtain ⟨a1,a2,a3,a4⟩ := rL g sz sh l h4 hsh hp he hl hpal hs
      unfold ce
      rw [if_pos hlt,hs]
      simp only [ap]
      by_cases he1 : e1 = 0
      · simp only [he1,bne_self_eq_false,Bool.false_eq_true,if_false,ne_eq,not_true_eq_false]
        rw [ba (n := (all : Int) - (out.length : Int)) (by omega) (by omega)]
        by_cases hm : m > all - out.length
        · rw [if_pos hm,aQ (by omega)]
          exact ⟨p1,0,rfl⟩
        · rw [if_neg hm,aZ (by omega)]
          have hfill := xG b d g t m0 m1 m2 s0 s1 s2 sz l (all : Int) ((pal.length : Nat) : Int) v p1 0 (nl pal) m 0 200000 out (by omega) (by omega) (by omega)
          rw [Nat.zero_add] at hfill
          have hfill' : a6 200000 200000 (0,(m : Int),(all : Int),((pal.length : Nat) : Int),(v : Int),b,d,g,t,m0,m1,m2,s0,s1,s2,(sz : Int),B l,(p1 : Int),0,nl out,nl pal) = _ := hfill
          rw [hfill']
          have := ih p1 k 0 (out ++ List.replicate m v) a1 (.inl rfl) (by rw [List.length_append,List.length_replicate]; omega) (by rw [List.length_append,List.length_replicate]; omega) (by omega)
          simp only [Option.bind_some]
          cases hr : ce g sz sh l pal all j p1 0 (out ++ List.replicate m v) with
          | none =>
            rw [hr] at this
            obtain ⟨q,e',h⟩ := this
            exact ⟨q,e',by rw [h]; rfl⟩
          | some r =>
            rw [hr] at this
            simp only at this ⊢
            rw [this]; rfl
      · rw [if_pos he1,if_pos (by simpa using he1)]
        exact ⟨p1,e1,rfl⟩
    by_cases hlt : out.length < all
    · by_cases hz : pal.length = 0
      · have hs : bU g sz sh l pal p e = some (lR g sz sh l p e,cT l 100001 (aD l sz p e).2.1 (aD l sz p e).2.2 1) := by unfold bU; rw [if_pos hz]
        refine fin _ _ _ _ hs _ ?_ hlt
        simp only [fb,ai]
        rw [aQ (by rw [ap]; omega),aZ (by omega),uN b d g t m0 m1 m2 s0 s1 s2 sz sh h87 h1 h4 hsh l p e hp he hl,Option.bind_some]
        simp only
        rw [DX b d g t m0 m1 m2 s0 s1 s2 sz l hl _ _ q1 q2,Option.bind_some]
        rfl
      · by_cases hg : ar l p e % 128 ≥ pal.length
        · have hs : bU g sz sh l pal p e = none := by unfold bU; rw [if_neg hz,if_pos hg]
          unfold ce
          rw [if_pos hlt,hs]
          simp only [fb,ai]
          rw [aQ (by rw [ap]; omega),aQ (by omega),js l p e hp he hl,Option.bind_some]
          simp only
          rw [show Int.tmod (ar l p e : Int) 128 = ((ar l p e % 128 : Nat) : Int) from rfl,aQ (by omega)]
          exact ⟨_,_,rfl⟩
        · by_cases hb2 : ar l p e ≥ 128
          · have hs : bU g sz sh l pal p e = some (pal.getD (ar l p e % 128) 0,cT l 100001 (aD l 1 p e).2.1 (aD l 1 p e).2.2 1) := by unfold bU; rw [if_neg hz,if_neg hg,if_pos hb2]
            refine fin _ _ _ _ hs _ ?_ hlt
            simp only [fb,ai]
            rw [aQ (by rw [ap]; omega),aQ (by omega),js l p e hp he hl,Option.bind_some]
            simp only
            rw [show Int.tmod (ar l p e : Int) 128 = ((ar l p e % 128 : Nat) : Int) from rfl,aZ (by omega),if_pos (az (by rw [ap]; omega)),Int.toNat_natCast,eh (by omega),Option.bind_some,aQ (by omega),DX b d g t m0 m1 m2 s0 s1 s2 sz l hl _ _ r1 r2,Option.bind_some]
            rfl
          · have hs : bU g sz sh l pal p e = some (pal.getD (ar l p e % 128) 0,1,(aD l 1 p e).2.1,(aD l 1 p e).2.2) := by unfold bU; rw [if_neg hz,if_neg hg,if_neg hb2]
            refine fin _ _ _ _ hs _ ?_ hlt
            simp only [fb,ai]
            rw [aQ (by rw [ap]; omega),aQ (by omega),js l p e hp he hl,Option.bind_some]
            simp only
            rw [show Int.tmod (ar l p e : Int) 128 = ((ar l p e % 128 : Nat) : Int) from rfl,aZ (by omega),if_pos (az (by rw [ap]; omega)),Int.toNat_natCast,eh (by omega),Option.bind_some,aZ (by omega)]
            rfl
    · unfold ce
      rw [if_neg hlt]
      simp only [fb,ai]
      rw [aZ (by rw [ap]; omega)]
end
end Go.Proofs.YtfcamlibbfnldaaGreat.Am
set_option maxRecDepth 100000
namespace Go.Proofs.YtfcamlibbfnldaaGreat.Am
open Go.Am
def yy (n x : Nat) : Nat := 8 - n - x * n % 8
theorem Zu {n : Nat} (x : Nat) (hn : n = 1 ∨ n = 2 ∨ n = 4) : x * n % 8 ≤ 8 - n := by
  rcases hn with rfl | rfl | rfl <;> omega
theorem Pf {n x : Nat} (hn : n = 1 ∨ n = 2 ∨ n = 4) (hx : x ≤ 10000) : IntKind.wrap .i64 (IntKind.wrap .i64 ((8 : Int) - (n : Int)) - Int.tmod (IntKind.wrap .i64 ((x : Int) * (n : Int))) 8) = ((yy n x : Nat) : Int) := by
  have h := Zu x hn
  have hm : x * n ≤ 40000 := by rcases hn with rfl | rfl | rfl <;> omega
  have e : (x : Int) * (n : Int) = ((x * n : Nat) : Int) := by simp
  have hn4 : n ≤ 4 := by omega
  rw [e,ba (n := ((x * n : Nat) : Int)) (by omega) (by omega),show Int.tmod ((x * n : Nat) : Int) 8 = ((x * n % 8 : Nat) : Int) from rfl,ba (n := (8 : Int) - (n : Int)) (by omega) (by omega)]
  unfold yy
  generalize x * n % 8 = r at *
  rw [ba (by omega) (by omega)]
  omega
theorem at_eq {n x : Nat} (hn : n = 1 ∨ n = 2 ∨ n = 4) (hx : x ≤ 10000) : IntKind.wrap .i64 (Int.tdiv (IntKind.wrap .i64 ((x : Int) * (n : Int))) 8) = ((x * n / 8 : Nat) : Int) := by
  have hm : x * n ≤ 40000 := by rcases hn with rfl | rfl | rfl <;> omega
  have e : (x : Int) * (n : Int) = ((x * n : Nat) : Int) := by simp
  rw [e,ba (n := ((x * n : Nat) : Int)) (by omega) (by omega),show Int.tdiv ((x * n : Nat) : Int) 8 = ((x * n / 8 : Nat) : Int) from rfl,ba (by omega) (by omega)]
def Fu (c n x : Nat) : Nat := c / 2 ^ yy n x % 2 ^ n
theorem ZC {c n x : Nat} (hc : c < 256) (hn : n = 1 ∨ n = 2 ∨ n = 4) (hx : x ≤ 10000) :
    IntKind.wrap .i64 ((BitVec.toNat (BitVec.ofInt 64 (Int.fdiv (c : Int) ((2 : Int) ^ min (Int.toNat ((yy n x : Nat) : Int)) 64)) &&& BitVec.ofInt 64 (IntKind.wrap .i64 (IntKind.wrap .i64 ((1 : Int) * (2 : Int) ^ min (Int.toNat (n : Int)) 64) - 1))) : Nat) : Int) = ((Fu c n x : Nat) : Int) := by
  have hs : yy n x ≤ 8 := by unfold yy; omega
  have h0 : c / 2 ^ yy n x ≤ c := Nat.div_le_self _ _
  have e1 : Int.fdiv (c : Int) ((2 : Int) ^ min (Int.toNat ((yy n x : Nat) : Int)) 64) = ((c / 2 ^ yy n x : Nat) : Int) := by
    rw [Int.toNat_natCast,Nat.min_eq_left (by omega),show (2 : Int) ^ yy n x = ((2 ^ yy n x : Nat) : Int) by simp,CL]
  have e2 : IntKind.wrap .i64 (IntKind.wrap .i64 ((1 : Int) * (2 : Int) ^ min (Int.toNat (n : Int)) 64) - 1) = ((2 ^ n - 1 : Nat) : Int) := by rcases hn with rfl | rfl | rfl <;> decide
  have e3 : 2 ^ n - 1 < 4294967296 := by rcases hn with rfl | rfl | rfl <;> decide
  rw [e1,e2,dI (by omega) e3]
  unfold Fu
  rw [Nat.and_two_pow_sub_one_eq_mod]
noncomputable def ar6 (s : Nat) : Bool := match G9 200000 (s : Int) with
  | some v => decide (v = ((2 ^ s : Nat) : Int))
  | none => false
theorem SI : (List.range 9).all ar6 = true := by kernel_rfl
theorem DY {s : Nat} (h : s ≤ 8) : G9 200000 (s : Int) = some ((2 ^ s : Nat) : Int) := by
  have h := List.all_eq_true.1 SI s (List.mem_range.2 (by omega))
  unfold ar6 at h
  cases hf : G9 200000 (s : Int) with
  | none => rw [hf] at h; cases h
  | some v => rw [hf] at h; rw [of_decide_eq_true h]
theorem Zy {c n x : Nat} (hc : c < 256) : Int.tmod (IntKind.wrap .i64 (Int.tdiv (c : Int) ((2 ^ yy n x : Nat) : Int))) ((2 ^ n : Nat) : Int) = ((Fu c n x : Nat) : Int) := by
  have h0 : c / 2 ^ yy n x ≤ c := Nat.div_le_self _ _
  unfold Fu
  rw [show Int.tdiv (c : Int) ((2 ^ yy n x : Nat) : Int) = ((c / 2 ^ yy n x : Nat) : Int) from rfl]
  generalize c / 2 ^ yy n x = q at *
  rw [ba (by omega) (by omega)]
  rfl
def rX (row : List UInt8) (n : Nat) (pal : List Nat) : Nat → Nat → List Nat → Option (List Nat)
  | 0,_,out => some out
  | j + 1,x,out => if Fu (row.getD (x * n / 8) 0).toNat n x ≥ pal.length then none else rX row n pal j (x + 1) (out ++ [pal.getD (Fu (row.getD (x * n / 8) 0).toNat n x) 0])
theorem qA (row : List UInt8) (n : Nat) (pal : List Nat) (hpal : ∀ v ∈ pal,v < 4294967296) : ∀ (j x : Nat) (out out' : List Nat),(∀ v ∈ out,v < 4294967296) → rX row n pal j x out = some out' → out'.length = out.length + j ∧ ∀ v ∈ out',v < 4294967296
  | 0,x,out,out',ho,h => by cases h; exact ⟨rfl,ho⟩
  | j + 1,x,out,out',ho,h => by
    unfold rX at h
    split at h
    · cases h
    · rename_i hi
      obtain ⟨h1,h2⟩ := qA row n pal hpal j (x + 1) _ out' (by
        intro v hv
        rcases List.mem_append.1 hv with h5 | h5
        · exact ho v h5
        · rw [List.mem_singleton] at h5
          rw [h5,List.getD,List.getElem?_eq_getElem (by omega)]
          exact hpal _ (List.getElem_mem _)) h
      exact ⟨by rw [h1,List.length_append]; simp; omega,h2⟩
section
variable (b d : Int) (g t : Bool) (m0 m1 m2 s0 s1 s2 : Int) (sz sh : Nat) (l : List UInt8)
def wd (k : Nat) : Nat := if k ≤ 2 then 1 else if k ≤ 4 then 2 else 4
theorem We (k : Nat) : wd k = 1 ∨ wd k = 2 ∨ wd k = 4 := by unfold wd; split; exact .inl rfl; split; exact .inr (.inl rfl); exact .inr (.inr rfl)
theorem Bw (k : Nat) : Oe 200000 (k : Int) = some ((wd k : Nat) : Int) ∧ Ru 200000 (k : Int) = some ((wd k : Nat) : Int) := by
  simp only [Oe,Ru,ai]
  unfold wd
  by_cases h1 : k ≤ 2
  · rw [if_pos h1,aQ (by omega)]; exact ⟨rfl,rfl⟩
  · rw [if_neg h1,aZ (by omega)]
    by_cases h2 : k ≤ 4
    · rw [if_pos h2,aQ (by omega)]; exact ⟨rfl,rfl⟩
    · rw [if_neg h2,aZ (by omega)]; exact ⟨rfl,rfl⟩
theorem Ph {w n x : Nat} (hn : n = 1 ∨ n = 2 ∨ n = 4) (hx : x < w) : x * n / 8 < (w * n + 7) / 8 := by
  rcases hn with rfl | rfl | rfl <;> omega
theorem as3 {l : List UInt8} {i : Nat} (h : i < l.length) : l[i]? = some (l.getD i 0) := by rw [List.getD,List.getElem?_eq_getElem h]; rfl
theorem D7 (row : List UInt8) (n w : Nat) (pal : List Nat) (hn : n = 1 ∨ n = 2 ∨ n = 4) (hr : row.length = (w * n + 7) / 8) (hw : w ≤ 5000) (y h : Int) (p : Nat) (e : Int) : ∀ (j x k : Nat) (out : List Nat),x + j = w → j < k → out.length + j ≤ 200000 →
    match rX row n pal j x out with
    | some out' => aT 200000 k ((w : Int),(w : Int),h,y,B row,(n : Int),((pal.length : Nat) : Int),(x : Int),B l,(p : Int),e,b,d,g,t,m0,m1,m2,s0,s1,s2,(sz : Int),nl pal,nl out) = some (.inr (y,((pal.length : Nat) : Int),(n : Int),h,(w : Int),B l,(p : Int),e,nl out',nl pal,b,d,g,t,m0,m1,m2,s0,s1,s2,(sz : Int)))
    | none => aT 200000 k ((w : Int),(w : Int),h,y,B row,(n : Int),((pal.length : Nat) : Int),(x : Int),B l,(p : Int),e,b,d,g,t,m0,m1,m2,s0,s1,s2,(sz : Int),nl pal,nl out) = some (.inl (false,B l,(p : Int),e,[]))
  | 0,x,k + 1,out,hx,hk,ho => by
    show cG 200000 (aT 200000 k) _ = _
    simp only [cG,ai]
    rw [aZ (by omega)]
  | j + 1,x,k + 1,out,hx,hk,ho => by
    have hat := Ph (w := w) (x := x) hn (by omega)
    have hc := (row.getD (x * n / 8) 0).toNat_lt
    have ih := D7 row n w pal hn hr hw y h p e j (x + 1) k (out ++ [pal.getD (Fu (row.getD (x * n / 8) 0).toNat n x) 0]) (by omega) (by omega) (by rw [List.length_append]; simp; omega)
    have hn0 : ¬ ((n : Int) < 0) := by omega
    have go : aT 200000 (k + 1) ((w : Int),(w : Int),h,y,B row,(n : Int),((pal.length : Nat) : Int),(x : Int),B l,(p : Int),e,b,d,g,t,m0,m1,m2,s0,s1,s2,(sz : Int),nl pal,nl out) =
        if Fu (row.getD (x * n / 8) 0).toNat n x ≥ pal.length then some (.inl (false,B l,(p : Int),e,[])) else aT 200000 k ((w : Int),(w : Int),h,y,B row,(n : Int),((pal.length : Nat) : Int),((x + 1 : Nat) : Int),B l,(p : Int),e,b,d,g,t,m0,m1,m2,s0,s1,s2,(sz : Int),nl pal,nl (out ++ [pal.getD (Fu (row.getD (x * n / 8) 0).toNat n x) 0])) := by
      show cG 200000 (aT 200000 k) _ = _
      generalize aT 200000 k = G
      simp only [cG,ai,Pf hn (show x ≤ 10000 by omega),at_eq hn (show x ≤ 10000 by omega)]
      rw [aQ (by omega),aQ (by omega),Int.toNat_natCast,EY,as3 (by omega),Option.bind_some,aZ (by omega),aZ hn0,LA,ZC hc hn (by omega)]
      by_cases hi : Fu (row.getD (x * n / 8) 0).toNat n x ≥ pal.length
      · rw [if_pos hi,aQ (by omega)]
      · rw [if_neg hi,aZ (by omega),if_pos (az (by rw [ap]; omega)),Int.toNat_natCast,eh (by omega),Option.bind_some,aQ (by rw [ap]; simp; omega),gG,gH,ba (by omega) (by omega),show (x : Int) + 1 = ((x + 1 : Nat) : Int) by omega]
        generalize G _ = o
        cases o with
        | none => rfl
        | some r => cases r <;> rfl
    rw [go]
    unfold rX
    by_cases hi : Fu (row.getD (x * n / 8) 0).toNat n x ≥ pal.length
    · rw [if_pos hi,if_pos hi]
    · rw [if_neg hi,if_neg hi]
      exact ih
theorem D5 (row : List UInt8) (n w : Nat) (pal : List Nat) (hn : n = 1 ∨ n = 2 ∨ n = 4) (hr : row.length = (w * n + 7) / 8) (hw : w ≤ 5000) (y h : Int) (p : Nat) (e : Int) : ∀ (j x k : Nat) (out : List Nat),x + j = w → j < k → out.length + j ≤ 200000 →
    match rX row n pal j x out with
    | some out' => a7 200000 k ((w : Int),h,y,B row,(n : Int),((pal.length : Nat) : Int),(x : Int),b,d,g,t,m0,m1,m2,s0,s1,s2,(sz : Int),B l,(p : Int),e,nl pal,nl out) = some (.inr (y,((pal.length : Nat) : Int),(n : Int),h,(w : Int),b,d,g,t,m0,m1,m2,s0,s1,s2,(sz : Int),B l,(p : Int),e,nl out',nl pal))
    | none => a7 200000 k ((w : Int),h,y,B row,(n : Int),((pal.length : Nat) : Int),(x : Int),b,d,g,t,m0,m1,m2,s0,s1,s2,(sz : Int),B l,(p : Int),e,nl pal,nl out) = some (.inl (false,b,d,g,t,m0,m1,m2,s0,s1,s2,(sz : Int),B l,(p : Int),e,[]))
  | 0,x,k + 1,out,hx,hk,ho => by
    show dl 200000 (a7 200000 k) _ = _
    simp only [dl,ai]
    rw [aZ (by omega)]
  | j + 1,x,k + 1,out,hx,hk,ho => by
    have hat := Ph (w := w) (x := x) hn (by omega)
    have hc := (row.getD (x * n / 8) 0).toNat_lt
    have ih := D5 row n w pal hn hr hw y h p e j (x + 1) k (out ++ [pal.getD (Fu (row.getD (x * n / 8) 0).toNat n x) 0]) (by omega) (by omega) (by rw [List.length_append]; simp; omega)
    have hs8 : yy n x ≤ 8 := by unfold yy; omega
    have hp0 : 0 < 2 ^ yy n x := Nat.pow_pos (by decide)
    have hp1 : 0 < 2 ^ n := Nat.pow_pos (by decide)
    have go : a7 200000 (k + 1) ((w : Int),h,y,B row,(n : Int),((pal.length : Nat) : Int),(x : Int),b,d,g,t,m0,m1,m2,s0,s1,s2,(sz : Int),B l,(p : Int),e,nl pal,nl out) =
        if Fu (row.getD (x * n / 8) 0).toNat n x ≥ pal.length then some (.inl (false,b,d,g,t,m0,m1,m2,s0,s1,s2,(sz : Int),B l,(p : Int),e,[])) else a7 200000 k ((w : Int),h,y,B row,(n : Int),((pal.length : Nat) : Int),((x + 1 : Nat) : Int),b,d,g,t,m0,m1,m2,s0,s1,s2,(sz : Int),B l,(p : Int),e,nl pal,nl (out ++ [pal.getD (Fu (row.getD (x * n / 8) 0).toNat n x) 0])) := by
      show dl 200000 (a7 200000 k) _ = _
      generalize a7 200000 k = G
      simp only [dl,ai,Pf hn (show x ≤ 10000 by omega),at_eq hn (show x ≤ 10000 by omega)]
      rw [aQ (by omega),aQ (by omega),Int.toNat_natCast,EY,as3 (by omega),Option.bind_some,DY hs8,Option.bind_some,aZ (by omega),DY (by omega),Option.bind_some,aZ (by omega),LA,Zy hc]
      by_cases hi : Fu (row.getD (x * n / 8) 0).toNat n x ≥ pal.length
      · rw [if_pos hi,aQ (by omega)]
      · rw [if_neg hi,aZ (by omega),if_pos (az (by rw [ap]; omega)),Int.toNat_natCast,eh (by omega),Option.bind_some,aQ (by rw [ap]; simp; omega),gG,gH,ba (by omega) (by omega),show (x : Int) + 1 = ((x + 1 : Nat) : Int) by omega]
        generalize G _ = o
        cases o with
        | none => rfl
        | some r => cases r <;> rfl
    rw [go]
    unfold rX
    by_cases hi : Fu (row.getD (x * n / 8) 0).toNat n x ≥ pal.length
    · rw [if_pos hi,if_pos hi]
    · rw [if_neg hi,if_neg hi]
      exact ih
def ik (n w : Nat) (pal : List Nat) : Nat → Nat → Int → List Nat → Option (Nat × Int × List Nat)
  | 0,p,e,out => some (p,e,out)
  | j + 1,p,e,out => if (aD l ((w * n + 7) / 8) p e).2.2 ≠ 0 then none else match rX (aD l ((w * n + 7) / 8) p e).1 n pal w 0 out with
    | none => none
    | some out' => ik n w pal j (aD l ((w * n + 7) / 8) p e).2.1 0 out'
theorem Ie (n p : Nat) (e : Int) (h : (aD l n p e).2.2 = 0) : (aD l n p e).1.length = n := by
  unfold aD at h ⊢
  split
  · rename_i h0
    rw [if_pos h0] at h
    split
    · simp; omega
    · rename_i h1
      rw [if_neg h1] at h
      exact absurd (show (2 : Int) = 0 from h) (by decide)
  · rename_i h0
    rw [if_neg h0] at h
    exact absurd h h0
theorem Co (n w : Nat) (pal : List Nat) (hpal : ∀ v ∈ pal,v < 4294967296) : ∀ (j p : Nat) (e : Int) (out : List Nat),p ≤ l.length → gE e → (∀ v ∈ out,v < 4294967296) → ∀ p' e' out',ik l n w pal j p e out = some (p',e',out') → p' ≤ l.length ∧ gE e' ∧ out'.length = out.length + j * w ∧ ∀ v ∈ out',v < 4294967296
  | 0,p,e,out,hp,he,ho,p',e',out',h => by cases h; exact ⟨hp,he,by simp,ho⟩
  | j + 1,p,e,out,hp,he,ho,p',e',out',h => by
    obtain ⟨q1,q2,_,_⟩ := bz l ((w * n + 7) / 8) p e hp he
    unfold ik at h
    split at h
    · cases h
    · cases hr : rX (aD l ((w * n + 7) / 8) p e).1 n pal w 0 out with
      | none => rw [hr] at h; cases h
      | some o1 =>
        rw [hr] at h
        obtain ⟨h1,h2⟩ := qA _ n pal hpal w 0 out o1 ho hr
        obtain ⟨a1,a2,a3,a4⟩ := Co n w pal hpal j _ 0 o1 q1 (.inl rfl) h2 p' e' out' h
        exact ⟨a1,a2,by rw [a3,h1,Nat.add_mul]; omega,a4⟩
theorem Wx {n w : Nat} (hn : n = 1 ∨ n = 2 ∨ n = 4) (hw : w ≤ 5000) : IntKind.wrap .i64 (Int.tdiv (IntKind.wrap .i64 (IntKind.wrap .i64 ((w : Int) * (n : Int)) + 7)) 8) = (((w * n + 7) / 8 : Nat) : Int) := by
  have hm : w * n ≤ 40000 := by rcases hn with rfl | rfl | rfl <;> omega
  have e : (w : Int) * (n : Int) = ((w * n : Nat) : Int) := by simp
  rw [e,ba (n := ((w * n : Nat) : Int)) (by omega) (by omega),ba (n := ((w * n : Nat) : Int) + 7) (by omega) (by omega),show ((w * n : Nat) : Int) + 7 = ((w * n + 7 : Nat) : Int) by omega,show Int.tdiv ((w * n + 7 : Nat) : Int) 8 = (((w * n + 7) / 8 : Nat) : Int) from rfl,ba (by omega) (by omega)]
theorem xM (n w hh : Nat) (pal : List Nat) (hn : n = 1 ∨ n = 2 ∨ n = 4) (hw : w ≤ 64) (hhh : hh ≤ 64) (hl : l.length ≤ 100000) (hpal : ∀ v ∈ pal,v < 4294967296) : ∀ (j y p k : Nat) (e : Int) (out : List Nat),p ≤ l.length → gE e → y + j = hh → j < k → out.length = y * w → (∀ v ∈ out,v < 4294967296) →
    match ik l n w pal j p e out with
    | some (p',e',out') => bM 200000 k (((pal.length : Nat) : Int),(n : Int),(y : Int),(hh : Int),(w : Int),B l,(p : Int),e,nl out,nl pal,b,d,g,t,m0,m1,m2,s0,s1,s2,(sz : Int)) = some (.inr (B l,(p' : Int),e',nl out'))
    | none => ∃ q : Nat,∃ e',bM 200000 k (((pal.length : Nat) : Int),(n : Int),(y : Int),(hh : Int),(w : Int),B l,(p : Int),e,nl out,nl pal,b,d,g,t,m0,m1,m2,s0,s1,s2,(sz : Int)) = some (.inl (false,B l,(q : Int),e',[]))
  | 0,y,p,k + 1,e,out,hp,he,hy,hk,ho,hov => by
    show gu 200000 (bM 200000 k) _ = _
    simp only [gu,ai]
    rw [aZ (by omega)]
  | j + 1,y,p,k + 1,e,out,hp,he,hy,hk,ho,hov => by
    obtain ⟨q1,q2,_,_⟩ := bz l ((w * n + 7) / 8) p e hp he
    have hyw : y * w + w ≤ 5000 := by
      have : y * w ≤ 64 * 64 := Nat.mul_le_mul (by omega) hw
      omega
    have hB : bM 200000 (k + 1) (((pal.length : Nat) : Int),(n : Int),(y : Int),(hh : Int),(w : Int),B l,(p : Int),e,nl out,nl pal,b,d,g,t,m0,m1,m2,s0,s1,s2,(sz : Int)) =
        if ((aD l ((w * n + 7) / 8) p e).2.2 != 0) = true then some (.inl (false,B l,(((aD l ((w * n + 7) / 8) p e).2.1 : Nat) : Int),(aD l ((w * n + 7) / 8) p e).2.2,[])) else
          (aT 200000 200000 ((w : Int),(w : Int),(hh : Int),(y : Int),B (aD l ((w * n + 7) / 8) p e).1,(n : Int),((pal.length : Nat) : Int),0,B l,(((aD l ((w * n + 7) / 8) p e).2.1 : Nat) : Int),(aD l ((w * n + 7) / 8) p e).2.2,b,d,g,t,m0,m1,m2,s0,s1,s2,(sz : Int),nl pal,nl out)).bind fun r => match r with
            | .inl y3 => some (.inl (y3.1,y3.2.1,y3.2.2.1,y3.2.2.2.1,y3.2.2.2.2))
            | .inr (z0,z1,z2,z3,z4,z5,z6,z7,z8,z9,z10,z11,z12,z13,z14,z15,z16,z17,z18,z19,z20) => (bM 200000 k (z1,z2,IntKind.wrap .i64 (z0 + 1),z3,z4,z5,z6,z7,z8,z9,z10,z11,z12,z13,z14,z15,z16,z17,z18,z19,z20)).bind fun r => match r with | .inl y => some (.inl y) | .inr y => some (.inr y) := by
      show gu 200000 (bM 200000 k) _ = _
      generalize bM 200000 k = G
      simp only [gu,ai]
      rw [aQ (by omega),Wx hn (by omega),By l _ p e hp he hl,Option.bind_some]
      rfl
    rw [hB]
    unfold ik
    by_cases h0 : (aD l ((w * n + 7) / 8) p e).2.2 = 0
    · have hfull := Ie l _ p e h0
      rw [if_neg (by simpa using h0)]
      simp only [h0,bne_self_eq_false,Bool.false_eq_true,if_false]
      have hrow := D7 b d g t m0 m1 m2 s0 s1 s2 sz l (aD l ((w * n + 7) / 8) p e).1 n w pal hn hfull (by omega) (y : Int) (hh : Int) (aD l ((w * n + 7) / 8) p e).2.1 0 w 0 200000 out (by omega) (by omega) (by omega)
      rw [show ((0 : Nat) : Int) = 0 from rfl] at hrow
      cases hr : rX (aD l ((w * n + 7) / 8) p e).1 n pal w 0 out with
      | none =>
        rw [hr] at hrow
        simp only at hrow ⊢
        rw [hrow]
        exact ⟨_,_,rfl⟩
      | some o1 =>
        rw [hr] at hrow
        simp only at hrow ⊢
        rw [hrow]
        obtain ⟨o2,o3⟩ := qA _ n pal hpal w 0 out o1 hov hr
        have ih := xM n w hh pal hn hw hhh hl hpal j (y + 1) (aD l ((w * n + 7) / 8) p e).2.1 k 0 o1 q1 (.inl rfl) (by omega) (by omega) (by rw [o2,ho,Nat.add_mul]; omega) o3
        simp only [Option.bind_some]
        rw [ba (by omega) (by omega),show (y : Int) + 1 = ((y + 1 : Nat) : Int) by omega]
        cases hp2 : ik l n w pal j (aD l ((w * n + 7) / 8) p e).2.1 0 o1 with
        | none =>
          rw [hp2] at ih
          obtain ⟨q,e',h⟩ := ih
          exact ⟨q,e',by rw [h]; rfl⟩
        | some r =>
          rw [hp2] at ih
          simp only at ih ⊢
          rw [ih]; rfl
    · rw [if_pos h0,if_pos (by simpa using h0)]
      exact ⟨_,_,rfl⟩
theorem xH (n w hh : Nat) (pal : List Nat) (hn : n = 1 ∨ n = 2 ∨ n = 4) (hw : w ≤ 64) (hhh : hh ≤ 64) (hl : l.length ≤ 100000) (hpal : ∀ v ∈ pal,v < 4294967296) : ∀ (j y p k : Nat) (e : Int) (out : List Nat),p ≤ l.length → gE e → y + j = hh → j < k → out.length = y * w → (∀ v ∈ out,v < 4294967296) →
    match ik l n w pal j p e out with
    | some (p',e',out') => bD 200000 k (((pal.length : Nat) : Int),(n : Int),(y : Int),(hh : Int),(w : Int),b,d,g,t,m0,m1,m2,s0,s1,s2,(sz : Int),B l,(p : Int),e,nl out,nl pal) = some (.inr (b,d,g,t,m0,m1,m2,s0,s1,s2,(sz : Int),B l,(p' : Int),e',nl out'))
    | none => ∃ q : Nat,∃ e',bD 200000 k (((pal.length : Nat) : Int),(n : Int),(y : Int),(hh : Int),(w : Int),b,d,g,t,m0,m1,m2,s0,s1,s2,(sz : Int),B l,(p : Int),e,nl out,nl pal) = some (.inl (false,b,d,g,t,m0,m1,m2,s0,s1,s2,(sz : Int),B l,(q : Int),e',[]))
  | 0,y,p,k + 1,e,out,hp,he,hy,hk,ho,hov => by
    show gr 200000 (bD 200000 k) _ = _
    simp only [gr,ai]
    rw [aZ (by omega)]
  | j + 1,y,p,k + 1,e,out,hp,he,hy,hk,ho,hov => by
    obtain ⟨q1,q2,_,_⟩ := bz l ((w * n + 7) / 8) p e hp he
    have hyw : y * w + w ≤ 5000 := by
      have : y * w ≤ 64 * 64 := Nat.mul_le_mul (by omega) hw
      omega
    have hbw : (w * n + 7) / 8 ≤ 100000 := by rcases hn with rfl | rfl | rfl <;> omega
    have hB : bD 200000 (k + 1) (((pal.length : Nat) : Int),(n : Int),(y : Int),(hh : Int),(w : Int),b,d,g,t,m0,m1,m2,s0,s1,s2,(sz : Int),B l,(p : Int),e,nl out,nl pal) =
        if ((aD l ((w * n + 7) / 8) p e).2.2 != 0) = true then some (.inl (false,b,d,g,t,m0,m1,m2,s0,s1,s2,(sz : Int),B l,(((aD l ((w * n + 7) / 8) p e).2.1 : Nat) : Int),(aD l ((w * n + 7) / 8) p e).2.2,[])) else
          (a7 200000 200000 ((w : Int),(hh : Int),(y : Int),B (aD l ((w * n + 7) / 8) p e).1,(n : Int),((pal.length : Nat) : Int),0,b,d,g,t,m0,m1,m2,s0,s1,s2,(sz : Int),B l,(((aD l ((w * n + 7) / 8) p e).2.1 : Nat) : Int),(aD l ((w * n + 7) / 8) p e).2.2,nl pal,nl out)).bind fun r => match r with
            | .inl (z0,z1,z2,z3,z4,z5,z6,z7,z8,z9,z10,z11,z12,z13,z14,z15) => some (.inl (z0,z1,z2,z3,z4,z5,z6,z7,z8,z9,z10,z11,z12,z13,z14,z15))
            | .inr (z0,z1,z2,z3,z4,z5,z6,z7,z8,z9,z10,z11,z12,z13,z14,z15,z16,z17,z18,z19,z20) => (bD 200000 k (z1,z2,IntKind.wrap .i64 (z0 + 1),z3,z4,z5,z6,z7,z8,z9,z10,z11,z12,z13,z14,z15,z16,z17,z18,z19,z20)).bind fun r => match r with | .inl y => some (.inl y) | .inr y => some (.inr y) := by
      show gr 200000 (bD 200000 k) _ = _
      generalize bD 200000 k = G
      simp only [gr,ai]
      rw [aQ (by omega),Wx hn (by omega),Bu l _ p e hp he hl hbw,Option.bind_some]
      rfl
    rw [hB]
    unfold ik
    by_cases h0 : (aD l ((w * n + 7) / 8) p e).2.2 = 0
    · have hfull := Ie l _ p e h0
      rw [if_neg (by simpa using h0)]
      simp only [h0,bne_self_eq_false,Bool.false_eq_true,if_false]
      have hrow := D5 b d g t m0 m1 m2 s0 s1 s2 sz l (aD l ((w * n + 7) / 8) p e).1 n w pal hn hfull (by omega) (y : Int) (hh : Int) (aD l ((w * n + 7) / 8) p e).2.1 0 w 0 200000 out (by omega) (by omega) (by omega)
      rw [show ((0 : Nat) : Int) = 0 from rfl] at hrow
      cases hr : rX (aD l ((w * n + 7) / 8) p e).1 n pal w 0 out with
      | none =>
        rw [hr] at hrow
        simp only at hrow ⊢
        rw [hrow]
        exact ⟨_,_,rfl⟩
      | some o1 =>
        rw [hr] at hrow
        simp only at hrow ⊢
        rw [hrow]
        obtain ⟨o2,o3⟩ := qA _ n pal hpal w 0 out o1 hov hr
        have ih := xH n w hh pal hn hw hhh hl hpal j (y + 1) (aD l ((w * n + 7) / 8) p e).2.1 k 0 o1 q1 (.inl rfl) (by omega) (by omega) (by rw [o2,ho,Nat.add_mul]; omega) o3
        simp only [Option.bind_some]
        rw [ba (by omega) (by omega),show (y : Int) + 1 = ((y + 1 : Nat) : Int) by omega]
        cases hp2 : ik l n w pal j (aD l ((w * n + 7) / 8) p e).2.1 0 o1 with
        | none =>
          rw [hp2] at ih
          obtain ⟨q,e',h⟩ := ih
          exact ⟨q,e',by rw [h]; rfl⟩
        | some r =>
          rw [hp2] at ih
          simp only at ih ⊢
          rw [ih]; rfl
    · rw [if_pos h0,if_pos (by simpa using h0)]
      exact ⟨_,_,rfl⟩
end
end Go.Proofs.YtfcamlibbfnldaaGreat.Am
set_option maxRecDepth 100000
namespace Go.Proofs.YtfcamlibbfnldaaGreat.Am
open Go.Am
section
variable (b d : Int) (g t : Bool) (m0 m1 m2 s0 s1 s2 : Int) (sz sh : Nat) (l : List UInt8)
def lT (w h p : Nat) (e : Int) : Option (Nat × Int × List Nat) :=
  if (aD l 1 p e).2.2 ≠ 0 then none
  else if ar l p e = 0 then some (aL g sz sh l (w * h) (aD l 1 p e).2.1 0 [])
  else if ar l p e = 1 then some ((aD l sz (aD l 1 p e).2.1 0).2.1,(aD l sz (aD l 1 p e).2.1 0).2.2,List.replicate (w * h) (lR g sz sh l (aD l 1 p e).2.1 0))
  else if ar l p e ≤ 16 then ik l (wd (ar l p e)) w (aL g sz sh l (ar l p e) (aD l 1 p e).2.1 0 []).2.2 h (aL g sz sh l (ar l p e) (aD l 1 p e).2.1 0 []).1 (aL g sz sh l (ar l p e) (aD l 1 p e).2.1 0 []).2.1 []
  else if ar l p e = 128 ∨ 130 ≤ ar l p e then ce g sz sh l (aL g sz sh l (ar l p e - 128) (aD l 1 p e).2.1 0 []).2.2 (w * h) 200000 (aL g sz sh l (ar l p e - 128) (aD l 1 p e).2.1 0 []).1 (aL g sz sh l (ar l p e - 128) (aD l 1 p e).2.1 0 []).2.1 []
  else none
theorem BO (h4 : sz ≤ 4) (hsh : sh = 0 ∨ sh = 8 ∧ sz = 3) (hl : l.length ≤ 100000) (w h p : Nat) (e : Int) (hp : p ≤ l.length) (he : gE e) (p' : Nat) (e' : Int) (vs : List Nat) (hr : lT g sz sh l w h p e = some (p',e',vs)) :
    p' ≤ l.length ∧ gE e' ∧ vs.length = w * h ∧ ∀ v ∈ vs,v < 4294967296 := by
  obtain ⟨q1,q2,_,_⟩ := bz l 1 p e hp he
  have hnil : ∀ v ∈ ([] : List Nat),v < 4294967296 := fun v hv => by cases hv
  unfold lT at hr
  split at hr
  · cases hr
  · split at hr
    · obtain ⟨a1,a2,a3,a4⟩ := dq g sz sh l h4 hsh (w * h) (aD l 1 p e).2.1 0 [] q1 (.inl rfl) hnil
      have h5 := Option.some.inj hr
      rw [h5] at a1 a2 a3 a4
      exact ⟨a1,a2,by simpa using a3,a4⟩
    · split at hr
      · obtain ⟨a1,a2,_,_⟩ := bz l sz (aD l 1 p e).2.1 0 q1 (.inl rfl)
        have hv := OM g sz sh h4 hsh (aD l sz (aD l 1 p e).2.1 0).1 (l8 l sz (aD l 1 p e).2.1 0)
        have h5 := Option.some.inj hr
        simp only [Prod.mk.injEq] at h5
        obtain ⟨e1,e2,e3⟩ := h5
        rw [← e1,← e2,← e3]
        exact ⟨a1,a2,by simp,fun v hv2 => by rw [(List.mem_replicate.1 hv2).2]; exact hv⟩
      · split at hr
        · obtain ⟨a1,a2,a3,a4⟩ := dq g sz sh l h4 hsh (ar l p e) (aD l 1 p e).2.1 0 [] q1 (.inl rfl) hnil
          obtain ⟨c1,c2,c3,c4⟩ := Co l _ w _ a4 h _ _ [] a1 a2 hnil p' e' vs hr
          exact ⟨c1,c2,by rw [c3]; simp [Nat.mul_comm],c4⟩
        · split at hr
          · obtain ⟨a1,a2,a3,a4⟩ := dq g sz sh l h4 hsh (ar l p e - 128) (aD l 1 p e).2.1 0 [] q1 (.inl rfl) hnil
            exact Cg g sz sh l h4 hsh _ (w * h) hl a4 200000 _ _ [] a1 a2 (by simp) hnil p' e' vs hr
          · cases hr
theorem NL (v : Int) (i j : Nat) : (List.replicate i v ++ List.replicate (j + 1) 0).set i v = List.replicate (i + 1) v ++ List.replicate j (0 : Int) := by
  rw [List.set_append_right _ _ (by simp),List.length_replicate,Nat.sub_self,List.replicate_succ (n := j),List.set_cons_zero,List.replicate_succ' (n := i),List.append_assoc]
  rfl
theorem DN (v : Int) (p : Nat) (e : Int) : ∀ (j i k : Nat),j < k → i + j ≤ 100000 →
    cE 200000 k ((i : Int),((i + j : Nat) : Int),v,B l,(p : Int),e,List.replicate i v ++ List.replicate j 0) = some (B l,(p : Int),e,List.replicate (i + j) v)
  | 0,i,k + 1,hk,hi => by
    show dZ 200000 (cE 200000 k) _ = _
    simp only [dZ,ai]
    rw [aZ (by omega)]
    simp
  | j + 1,i,k + 1,hk,hi => by
    have ih := DN v p e j (i + 1) k (by omega) (by omega)
    show dZ 200000 (cE 200000 k) _ = _
    generalize cE 200000 k = G at *
    simp only [dZ,ai]
    rw [aQ (by omega),if_pos (az (by simp)),Int.toNat_natCast]
    rw [show (List.replicate i v ++ List.replicate (j + 1) (0 : Int))[i]? = some 0 by rw [List.getElem?_append_right (by simp)]; simp]
    rw [Option.bind_some,NL,ba (by omega) (by omega),show (i : Int) + 1 = ((i + 1 : Nat) : Int) by omega,show i + (j + 1) = i + 1 + j by omega,ih,Option.bind_some]
theorem DL (w h : Nat) (hw : w * h ≤ 10000) (v : Nat) (p : Nat) (e : Int) : ∀ (j i k : Nat),i + j = w * h → j < k →
    cM 200000 k ((i : Int),(w : Int),(h : Int),(v : Int),b,d,g,t,m0,m1,m2,s0,s1,s2,(sz : Int),B l,(p : Int),e,nl (List.replicate i v)) = some (b,d,g,t,m0,m1,m2,s0,s1,s2,(sz : Int),B l,(p : Int),e,nl (List.replicate (w * h) v))
  | 0,i,k + 1,hi,hk => by
    show gn 200000 (cM 200000 k) _ = _
    simp only [gn,ai]
    rw [show (w : Int) * (h : Int) = ((w * h : Nat) : Int) by simp,ba (by omega) (by omega),aZ (by omega),show i = w * h by omega]
  | j + 1,i,k + 1,hi,hk => by
    have ih := DL w h hw v p e j (i + 1) k (by omega) (by omega)
    show gn 200000 (cM 200000 k) _ = _
    generalize cM 200000 k = G at *
    simp only [gn,ai]
    rw [show (w : Int) * (h : Int) = ((w * h : Nat) : Int) by simp,ba (n := ((w * h : Nat) : Int)) (by omega) (by omega),aQ (by omega),aQ (by rw [ap]; simp; omega),gG,gH,ba (by omega) (by omega),show (i : Int) + 1 = ((i + 1 : Nat) : Int) by omega,← List.replicate_succ',ih,Option.bind_some]
variable (hv : qp b d t m0 m1 m2 s0 s1 s2 = true) (h37 : J8 200000 (b,d,g,t,m0,m1,m2,s0,s1,s2) = some ((sz : Int),(sh : Int))) (h87 : N0 200000 (b,d,g,t,m0,m1,m2,s0,s1,s2) = some ((sz : Int),(sh : Int))) (h1 : 1 ≤ sz) (h4 : sz ≤ 4) (hsh : sh = 0 ∨ sh = 8 ∧ sz = 3) (hl : l.length ≤ 100000)
include hv h37 h87 h1 h4 hsh hl
theorem Q5 (w h p : Nat) (e : Int) (hw : w ≤ 64) (hh : h ≤ 64) (hp : p ≤ l.length) (he : gE e) : match lT g sz sh l w h p e with
    | some (p',e',vs) => F83 200000 (b,d,g,t,m0,m1,m2,s0,s1,s2,(sz : Int),(w : Int),(h : Int),B l,(p : Int),e) = some (true,B l,(p' : Int),e',nl vs)
    | none => ∃ q : Nat,∃ e',F83 200000 (b,d,g,t,m0,m1,m2,s0,s1,s2,(sz : Int),(w : Int),(h : Int),B l,(p : Int),e) = some (false,B l,(q : Int),e',[]) := by
  obtain ⟨q1,q2,_,_⟩ := bz l 1 p e hp he
  have hb := jV l p e
  have hwh : w * h ≤ 4096 := Nat.mul_le_mul hw hh
  have hnil : ∀ v ∈ ([] : List Nat),v < 4294967296 := fun v hv => by cases hv
  have ew : IntKind.wrap .i64 ((w : Int) * (h : Int)) = ((w * h : Nat) : Int) := by rw [show (w : Int) * (h : Int) = ((w * h : Nat) : Int) by simp,ba (by omega) (by omega)]
  unfold lT
  simp only [F83,ai,ew]
  rw [ju l p e hp he hl]
  simp only [Option.bind_some]
  rw [show Sr 200000 (B l,(((aD l 1 p e).2.1 : Nat) : Int),(aD l 1 p e).2.2,()) = some (aD l 1 p e).2.2 from rfl]
  simp only [Option.bind_some]
  by_cases h0 : (aD l 1 p e).2.2 = 0
  · rw [if_neg (by simpa using h0)]
    simp only [h0,bne_self_eq_false,Bool.false_eq_true,if_false]
    by_cases c0 : ar l p e = 0
    · rw [if_pos c0]
      simp only [c0]
      rw [if_pos (by decide),pj b d g t m0 m1 m2 s0 s1 s2 sz sh l hv h37 h87 h1 h4 hsh hl (w * h) _ 0 q1 (.inl rfl) (by omega),Option.bind_some]
    · rw [if_neg c0]
      have n0 : ((ar l p e : Int) == 0) = false := by simp only [beq_eq_false_iff_ne,ne_eq]; omega
      rw [n0]
      simp only [Bool.false_eq_true,if_false]
      by_cases c1 : ar l p e = 1
      · rw [if_pos c1]
        have n1 : ((ar l p e : Int) == 1) = true := by simp [c1]
        rw [n1]
        simp only [if_true]
        rw [uO b d g t m0 m1 m2 s0 s1 s2 sz sh hv h37 h1 h4 hsh l _ 0 q1 (.inl rfl) hl,Option.bind_some]
        simp only
        rw [aQ (by omega),Int.toNat_natCast,List.length_replicate]
        have hf := DN l ((lR g sz sh l (aD l 1 p e).2.1 0 : Nat) : Int) (aD l sz (aD l 1 p e).2.1 0).2.1 (aD l sz (aD l 1 p e).2.1 0).2.2 (w * h) 0 200000 (by omega) (by omega)
        rw [Nat.zero_add,List.replicate_zero,List.nil_append] at hf
        rw [show (0 : Int) = ((0 : Nat) : Int) from rfl] at *
        rw [hf,Option.bind_some]
        simp [nl]
      · rw [if_neg c1]
        have n1 : ((ar l p e : Int) == 1) = false := by simp only [beq_eq_false_iff_ne,ne_eq]; omega
        rw [n1]
        simp only [Bool.false_eq_true,if_false]
        by_cases c16 : ar l p e ≤ 16
        · rw [if_pos c16,aQ (by omega)]
          obtain ⟨a1,a2,a3,a4⟩ := dq g sz sh l h4 hsh (ar l p e) (aD l 1 p e).2.1 0 [] q1 (.inl rfl) hnil
          have ev := pj b d g t m0 m1 m2 s0 s1 s2 sz sh l hv h37 h87 h1 h4 hsh hl (ar l p e) _ 0 q1 (.inl rfl) (by omega)
          generalize aL g sz sh l (ar l p e) (aD l 1 p e).2.1 0 [] = vr at *
          obtain ⟨p2,e2,pal⟩ := vr
          simp only at a1 a2 a3 a4 ev ⊢
          rw [List.length_nil,Nat.zero_add] at a3
          have hloop := xM b d g t m0 m1 m2 s0 s1 s2 sz l (wd (ar l p e)) w h pal (We _) hw hh hl a4 h 0 p2 200000 e2 [] a1 a2 (by omega) (by omega) (by simp) hnil
          rw [a3] at hloop
          have hF : RJ 200000 (b,d,g,t,m0,m1,m2,s0,s1,s2,(sz : Int),(ar l p e : Int),(w : Int),(h : Int),B l,(((aD l 1 p e).2.1 : Nat) : Int),0) = (bM 200000 200000 ((ar l p e : Int),((wd (ar l p e) : Nat) : Int),((0 : Nat) : Int),(h : Int),(w : Int),B l,(p2 : Int),e2,nl [],nl pal,b,d,g,t,m0,m1,m2,s0,s1,s2,(sz : Int))).bind fun r => match r with
              | .inl y3 => some (y3.1,y3.2.1,y3.2.2.1,y3.2.2.2.1,y3.2.2.2.2)
              | .inr y3 => some (true,y3.1,y3.2.1,y3.2.2.1,y3.2.2.2) := by
            simp only [RJ]
            rw [ev,Option.bind_some,(Bw _).1,Option.bind_some]
            rfl
          rw [hF]
          cases hpk : ik l (wd (ar l p e)) w pal h p2 e2 [] with
          | none =>
            rw [hpk] at hloop
            obtain ⟨q,e',hx⟩ := hloop
            exact ⟨q,e',by rw [hx]; rfl⟩
          | some r =>
            rw [hpk] at hloop
            simp only at hloop ⊢
            rw [hloop]; rfl
        · rw [if_neg c16,aZ (by omega)]
          have runs : ∀ k : Nat,k ≤ 200 → IntKind.wrap .i64 ((ar l p e : Int) - 128) = (k : Int) →
              match ce g sz sh l (aL g sz sh l k (aD l 1 p e).2.1 0 []).2.2 (w * h) 200000 (aL g sz sh l k (aD l 1 p e).2.1 0 []).1 (aL g sz sh l k (aD l 1 p e).2.1 0 []).2.1 [] with
              | some (p',e',vs) => (D6 200000 (b,d,g,t,m0,m1,m2,s0,s1,s2,(sz : Int),(k : Int),((w * h : Nat) : Int),B l,(((aD l 1 p e).2.1 : Nat) : Int),0)).bind (fun y6 => some (y6.1,y6.2.1,y6.2.2.1,y6.2.2.2.1,y6.2.2.2.2)) = some (true,B l,(p' : Int),e',nl vs)
              | none => ∃ q : Nat,∃ e',(D6 200000 (b,d,g,t,m0,m1,m2,s0,s1,s2,(sz : Int),(k : Int),((w * h : Nat) : Int),B l,(((aD l 1 p e).2.1 : Nat) : Int),0)).bind (fun y6 => some (y6.1,y6.2.1,y6.2.2.1,y6.2.2.2.1,y6.2.2.2.2)) = some (false,B l,(q : Int),e',[]) := by
            intro k hk _
            obtain ⟨a1,a2,a3,a4⟩ := dq g sz sh l h4 hsh k (aD l 1 p e).2.1 0 [] q1 (.inl rfl) hnil
            have ev := pj b d g t m0 m1 m2 s0 s1 s2 sz sh l hv h37 h87 h1 h4 hsh hl k _ 0 q1 (.inl rfl) (by omega)
            generalize aL g sz sh l k (aD l 1 p e).2.1 0 [] = vr at *
            obtain ⟨p2,e2,pal⟩ := vr
            simp only at a1 a2 a3 a4 ev ⊢
            rw [List.length_nil,Nat.zero_add] at a3
            have hloop := xK b d g t m0 m1 m2 s0 s1 s2 sz sh l hv h37 h87 h1 h4 hsh hl pal (by omega) a4 (w * h) (by omega) 200000 p2 200000 e2 [] a1 a2 (by simp) (by simp; omega) (by omega)
            have hF : D6 200000 (b,d,g,t,m0,m1,m2,s0,s1,s2,(sz : Int),(k : Int),((w * h : Nat) : Int),B l,(((aD l 1 p e).2.1 : Nat) : Int),0) = (ca 200000 200000 (((w * h : Nat) : Int),B l,(p2 : Int),e2,nl pal,b,d,g,t,m0,m1,m2,s0,s1,s2,(sz : Int),nl [])).bind fun r => match r with
                | .inl y3 => some (y3.1,y3.2.1,y3.2.2.1,y3.2.2.2.1,y3.2.2.2.2)
                | .inr y3 => some (true,y3.1,y3.2.1,y3.2.2.1,y3.2.2.2) := by
              simp only [D6]
              rw [ev,Option.bind_some]
              rfl
            rw [hF]
            cases hpk : ce g sz sh l pal (w * h) 200000 p2 e2 [] with
            | none =>
              rw [hpk] at hloop
              obtain ⟨q,e',hx⟩ := hloop
              exact ⟨q,e',by rw [hx]; rfl⟩
            | some r =>
              rw [hpk] at hloop
              simp only at hloop ⊢
              rw [hloop]; rfl
          by_cases c128 : ar l p e = 128
          · rw [if_pos (show ar l p e = 128 ∨ 130 ≤ ar l p e from .inl c128),if_pos (show ((ar l p e : Int) == 128) = true by simp [c128])]
            have ek : IntKind.wrap .i64 ((ar l p e : Int) - 128) = ((ar l p e - 128 : Nat) : Int) := by rw [ba (by omega) (by omega)]; omega
            rw [ek]
            exact runs (ar l p e - 128) (by omega) ek
          · rw [if_neg (show ¬ ((ar l p e : Int) == 128) = true by simp only [beq_iff_eq]; omega)]
            by_cases c130 : 130 ≤ ar l p e
            · rw [if_pos (show ar l p e = 128 ∨ 130 ≤ ar l p e from .inr c130),aQ (show (ar l p e : Int) ≥ 130 by omega)]
              have ek : IntKind.wrap .i64 ((ar l p e : Int) - 128) = ((ar l p e - 128 : Nat) : Int) := by rw [ba (by omega) (by omega)]; omega
              rw [ek]
              exact runs (ar l p e - 128) (by omega) ek
            · rw [if_neg (show ¬ (ar l p e = 128 ∨ 130 ≤ ar l p e) by omega),aZ (show ¬ (ar l p e : Int) ≥ 130 by omega)]
              exact ⟨_,_,rfl⟩
  · rw [if_pos h0,if_pos (by simpa using h0)]
    exact ⟨_,_,rfl⟩
theorem Q4 (w h p : Nat) (e : Int) (hw : w ≤ 64) (hh : h ≤ 64) (hp : p ≤ l.length) (he : gE e) : match lT g sz sh l w h p e with
    | some (p',e',vs) => F88 200000 ((w : Int),(h : Int),b,d,g,t,m0,m1,m2,s0,s1,s2,(sz : Int),B l,(p : Int),e) = some (true,b,d,g,t,m0,m1,m2,s0,s1,s2,(sz : Int),B l,(p' : Int),e',nl vs)
    | none => ∃ q : Nat,∃ e',F88 200000 ((w : Int),(h : Int),b,d,g,t,m0,m1,m2,s0,s1,s2,(sz : Int),B l,(p : Int),e) = some (false,b,d,g,t,m0,m1,m2,s0,s1,s2,(sz : Int),B l,(q : Int),e',[]) := by
  obtain ⟨q1,q2,_,_⟩ := bz l 1 p e hp he
  have hb := jV l p e
  have hwh : w * h ≤ 4096 := Nat.mul_le_mul hw hh
  have hnil : ∀ v ∈ ([] : List Nat),v < 4294967296 := fun v hv => by cases hv
  have ew : IntKind.wrap .i64 ((w : Int) * (h : Int)) = ((w * h : Nat) : Int) := by rw [show (w : Int) * (h : Int) = ((w * h : Nat) : Int) by simp,ba (by omega) (by omega)]
  unfold lT
  simp only [F88,ai,ew]
  rw [js l p e hp he hl]
  simp only [Option.bind_some]
  by_cases h0 : (aD l 1 p e).2.2 = 0
  · rw [if_neg (by simpa using h0)]
    simp only [h0,bne_self_eq_false,Bool.false_eq_true,if_false]
    by_cases c0 : ar l p e = 0
    · rw [if_pos c0]
      simp only [c0]
      rw [if_pos (by decide),pg b d g t m0 m1 m2 s0 s1 s2 sz sh l hv h37 h87 h1 h4 hsh hl (w * h) _ 0 q1 (.inl rfl) (by omega),Option.bind_some]
    · rw [if_neg c0]
      have n0 : ((ar l p e : Int) == 0) = false := by simp only [beq_eq_false_iff_ne,ne_eq]; omega
      rw [n0]
      simp only [Bool.false_eq_true,if_false]
      by_cases c1 : ar l p e = 1
      · rw [if_pos c1]
        have n1 : ((ar l p e : Int) == 1) = true := by simp [c1]
        rw [n1]
        simp only [if_true]
        rw [uN b d g t m0 m1 m2 s0 s1 s2 sz sh h87 h1 h4 hsh l _ 0 q1 (.inl rfl) hl,Option.bind_some]
        simp only
        have hf := DL b d g t m0 m1 m2 s0 s1 s2 sz l w h (by omega) (lR g sz sh l (aD l 1 p e).2.1 0) (aD l sz (aD l 1 p e).2.1 0).2.1 (aD l sz (aD l 1 p e).2.1 0).2.2 (w * h) 0 200000 (by omega) (by omega)
        rw [List.replicate_zero] at hf
        have hf' : cM 200000 200000 (0,(w : Int),(h : Int),((lR g sz sh l (aD l 1 p e).2.1 0 : Nat) : Int),b,d,g,t,m0,m1,m2,s0,s1,s2,(sz : Int),B l,(((aD l sz (aD l 1 p e).2.1 0).2.1 : Nat) : Int),(aD l sz (aD l 1 p e).2.1 0).2.2,[]) = _ := hf
        rw [hf',Option.bind_some]
      · rw [if_neg c1]
        have n1 : ((ar l p e : Int) == 1) = false := by simp only [beq_eq_false_iff_ne,ne_eq]; omega
        rw [n1]
        simp only [Bool.false_eq_true,if_false]
        by_cases c16 : ar l p e ≤ 16
        · rw [if_pos c16,aQ (by omega)]
          obtain ⟨a1,a2,a3,a4⟩ := dq g sz sh l h4 hsh (ar l p e) (aD l 1 p e).2.1 0 [] q1 (.inl rfl) hnil
          have ev := pg b d g t m0 m1 m2 s0 s1 s2 sz sh l hv h37 h87 h1 h4 hsh hl (ar l p e) _ 0 q1 (.inl rfl) (by omega)
          generalize aL g sz sh l (ar l p e) (aD l 1 p e).2.1 0 [] = vr at *
          obtain ⟨p2,e2,pal⟩ := vr
          simp only at a1 a2 a3 a4 ev ⊢
          rw [List.length_nil,Nat.zero_add] at a3
          have hloop := xH b d g t m0 m1 m2 s0 s1 s2 sz l (wd (ar l p e)) w h pal (We _) hw hh hl a4 h 0 p2 200000 e2 [] a1 a2 (by omega) (by omega) (by simp) hnil
          rw [a3] at hloop
          cases hpk : ik l (wd (ar l p e)) w pal h p2 e2 [] with
          | none =>
            rw [hpk] at hloop
            obtain ⟨q,e',hx⟩ := hloop
            refine ⟨q,e',?_⟩
            simp only [RI]
            rw [ev,Option.bind_some]
            simp only
            rw [(Bw _).2,Option.bind_some]
            have hx' : bD 200000 200000 ((ar l p e : Int),((wd (ar l p e) : Nat) : Int),0,(h : Int),(w : Int),b,d,g,t,m0,m1,m2,s0,s1,s2,(sz : Int),B l,(p2 : Int),e2,[],nl pal) = _ := hx
            rw [hx']
            rfl
          | some r =>
            rw [hpk] at hloop
            simp only at hloop ⊢
            simp only [RI]
            rw [ev,Option.bind_some]
            simp only
            rw [(Bw _).2,Option.bind_some]
            have hx' : bD 200000 200000 ((ar l p e : Int),((wd (ar l p e) : Nat) : Int),0,(h : Int),(w : Int),b,d,g,t,m0,m1,m2,s0,s1,s2,(sz : Int),B l,(p2 : Int),e2,[],nl pal) = _ := hloop
            rw [hx']
            rfl
        · rw [if_neg c16,aZ (by omega)]
          have runs : ∀ k : Nat,k ≤ 200 →
              match ce g sz sh l (aL g sz sh l k (aD l 1 p e).2.1 0 []).2.2 (w * h) 200000 (aL g sz sh l k (aD l 1 p e).2.1 0 []).1 (aL g sz sh l k (aD l 1 p e).2.1 0 []).2.1 [] with
              | some (p',e',vs) => D4 200000 ((k : Int),((w * h : Nat) : Int),b,d,g,t,m0,m1,m2,s0,s1,s2,(sz : Int),B l,(((aD l 1 p e).2.1 : Nat) : Int),0) = some (true,b,d,g,t,m0,m1,m2,s0,s1,s2,(sz : Int),B l,(p' : Int),e',nl vs)
              | none => ∃ q : Nat,∃ e',D4 200000 ((k : Int),((w * h : Nat) : Int),b,d,g,t,m0,m1,m2,s0,s1,s2,(sz : Int),B l,(((aD l 1 p e).2.1 : Nat) : Int),0) = some (false,b,d,g,t,m0,m1,m2,s0,s1,s2,(sz : Int),B l,(q : Int),e',[]) := by
            intro k hk
            obtain ⟨a1,a2,a3,a4⟩ := dq g sz sh l h4 hsh k (aD l 1 p e).2.1 0 [] q1 (.inl rfl) hnil
            have ev := pg b d g t m0 m1 m2 s0 s1 s2 sz sh l hv h37 h87 h1 h4 hsh hl k _ 0 q1 (.inl rfl) (by omega)
            generalize aL g sz sh l k (aD l 1 p e).2.1 0 [] = vr at *
            obtain ⟨p2,e2,pal⟩ := vr
            simp only at a1 a2 a3 a4 ev ⊢
            rw [List.length_nil,Nat.zero_add] at a3
            have hloop := xF b d g t m0 m1 m2 s0 s1 s2 sz sh l hv h37 h87 h1 h4 hsh hl pal (by omega) a4 (w * h) (by omega) 200000 p2 200000 e2 [] a1 a2 (by simp) (by simp; omega) (by omega)
            rw [a3] at hloop
            cases hpk : ce g sz sh l pal (w * h) 200000 p2 e2 [] with
            | none =>
              rw [hpk] at hloop
              obtain ⟨q,e',hx⟩ := hloop
              refine ⟨q,e',?_⟩
              simp only [D4]
              rw [ev,Option.bind_some]
              simp only
              have hx' : cO 200000 200000 ((k : Int),((w * h : Nat) : Int),b,d,g,t,m0,m1,m2,s0,s1,s2,(sz : Int),B l,(p2 : Int),e2,[],nl pal) = _ := hx
              rw [hx']
              rfl
            | some r =>
              rw [hpk] at hloop
              simp only at hloop ⊢
              simp only [D4]
              rw [ev,Option.bind_some]
              simp only
              have hx' : cO 200000 200000 ((k : Int),((w * h : Nat) : Int),b,d,g,t,m0,m1,m2,s0,s1,s2,(sz : Int),B l,(p2 : Int),e2,[],nl pal) = _ := hloop
              rw [hx']
              rfl
          have ek : 128 ≤ ar l p e → IntKind.wrap .i64 ((ar l p e : Int) - 128) = ((ar l p e - 128 : Nat) : Int) := fun hk => by rw [ba (by omega) (by omega)]; omega
          have hr := runs (ar l p e - 128) (by omega)
          by_cases c128 : ar l p e = 128
          · rw [if_pos (show ar l p e = 128 ∨ 130 ≤ ar l p e from .inl c128),if_pos (show ((ar l p e : Int) == 128) = true by simp [c128]),ek (by omega)]
            cases hpk : ce g sz sh l (aL g sz sh l (ar l p e - 128) (aD l 1 p e).2.1 0 []).2.2 (w * h) 200000 (aL g sz sh l (ar l p e - 128) (aD l 1 p e).2.1 0 []).1 (aL g sz sh l (ar l p e - 128) (aD l 1 p e).2.1 0 []).2.1 [] with
            | none =>
              rw [hpk] at hr
              obtain ⟨q,e',hx⟩ := hr
              exact ⟨q,e',by rw [hx]; rfl⟩
            | some r =>
              rw [hpk] at hr
              simp only at hr ⊢
              rw [hr]; rfl
          · rw [if_neg (show ¬ ((ar l p e : Int) == 128) = true by simp only [beq_iff_eq]; omega)]
            by_cases c130 : 130 ≤ ar l p e
            · rw [if_pos (show ar l p e = 128 ∨ 130 ≤ ar l p e from .inr c130),aQ (show (ar l p e : Int) ≥ 130 by omega),ek (by omega)]
              cases hpk : ce g sz sh l (aL g sz sh l (ar l p e - 128) (aD l 1 p e).2.1 0 []).2.2 (w * h) 200000 (aL g sz sh l (ar l p e - 128) (aD l 1 p e).2.1 0 []).1 (aL g sz sh l (ar l p e - 128) (aD l 1 p e).2.1 0 []).2.1 [] with
              | none =>
                rw [hpk] at hr
                obtain ⟨q,e',hx⟩ := hr
                exact ⟨q,e',by rw [hx]; rfl⟩
              | some r =>
                rw [hpk] at hr
                simp only at hr ⊢
                rw [hr]; rfl
            · rw [if_neg (show ¬ (ar l p e = 128 ∨ 130 ≤ ar l p e) by omega),aZ (show ¬ (ar l p e : Int) ≥ 130 by omega)]
              exact ⟨_,_,rfl⟩
  · rw [if_pos h0,if_pos (by simpa using h0)]
    exact ⟨_,_,rfl⟩
end
end Go.Proofs.YtfcamlibbfnldaaGreat.Am
set_option maxRecDepth 100000
namespace Go.Proofs.YtfcamlibbfnldaaGreat.Am
open Go.Am
abbrev fu := Nat × Nat × Nat × Nat
def rc (r : fu) : Int × Int × Int × Int × Unit := ((r.1 : Int),(r.2.1 : Int),(r.2.2.1 : Int),(r.2.2.2 : Int),())
def fi (w h y : Nat) : Nat → Nat → List fu → List fu
  | 0,_,acc => acc
  | k + 1,x,acc => if x < w then fi w h y k (x + 64) (acc ++ [(x,y,min (w - x) 64,min (h - y) 64)]) else acc
def qz (w h : Nat) : Nat → Nat → List fu → List fu
  | 0,_,acc => acc
  | k + 1,y,acc => if y < h then qz w h k (y + 64) (fi w h y 70 0 acc) else acc
def lU (w h : Nat) (r : fu) : Prop := 1 ≤ r.2.2.1 ∧ r.2.2.1 ≤ 64 ∧ 1 ≤ r.2.2.2 ∧ r.2.2.2 ≤ 64 ∧ r.1 + r.2.2.1 ≤ w ∧ r.2.1 + r.2.2.2 ≤ h
theorem H8 (w h y : Nat) (hy : y < h) : ∀ (k x : Nat) (acc : List fu),(∀ r ∈ acc,lU w h r) → (∀ r ∈ fi w h y k x acc,lU w h r) ∧ (fi w h y k x acc).length ≤ acc.length + k
  | 0,x,acc,ha => ⟨ha,by simp [fi]⟩
  | k + 1,x,acc,ha => by
    unfold fi
    split
    · rename_i hx
      obtain ⟨a1,a2⟩ := H8 w h y hy k (x + 64) (acc ++ [(x,y,min (w - x) 64,min (h - y) 64)]) (by
        intro r hr
        rcases List.mem_append.1 hr with h1 | h1
        · exact ha r h1
        · rw [List.mem_singleton] at h1
          rw [h1]
          exact ⟨by simp only; omega,by simp only; omega,by simp only; omega,by simp only; omega,by simp only; omega,by simp only; omega⟩)
      exact ⟨a1,by rw [List.length_append] at a2; simp at a2; omega⟩
    · exact ⟨ha,by omega⟩
theorem ID (w h : Nat) : ∀ (k y : Nat) (acc : List fu),(∀ r ∈ acc,lU w h r) → (∀ r ∈ qz w h k y acc,lU w h r) ∧ (qz w h k y acc).length ≤ acc.length + 70 * k
  | 0,y,acc,ha => ⟨ha,by simp [qz]⟩
  | k + 1,y,acc,ha => by
    unfold qz
    split
    · rename_i hy
      obtain ⟨b1,b2⟩ := H8 w h y hy 70 0 acc ha
      obtain ⟨a1,a2⟩ := ID w h k (y + 64) (fi w h y 70 0 acc) b1
      exact ⟨a1,by omega⟩
    · exact ⟨ha,by omega⟩
theorem Ir {w x : Nat} (hx : x < w) (hw : w ≤ 4096) : (if IntKind.wrap .i64 ((w : Int) - (x : Int)) < (64 : Int) then IntKind.wrap .i64 ((w : Int) - (x : Int)) else (64 : Int)) = ((min (w - x) 64 : Nat) : Int) := by
  rw [ba (by omega) (by omega)]
  split <;> omega
theorem Q6 (x y w' h' : Int) (acc : List (Int × Int × Int × Int × Unit)) (ha : acc.length ≤ 100000) : mH 200000 (x,y,w',h',acc) = some (acc ++ [(x,y,w',h',())]) := by
  simp only [mH,ai]
  rw [aQ (by simp; omega)]
theorem DZ (w h y : Nat) (hw : w ≤ 4096) (hh : h ≤ 4096) (hy : y < h) : ∀ (j x k : Nat) (acc : List fu),w ≤ x + 64 * j → x < w + 64 → j < k → acc.length + j ≤ 90000 →
    dz 200000 k ((y : Int),(x : Int),(h : Int),64,(w : Int),acc.map rc) = some ((y : Int),(h : Int),64,(w : Int),(fi w h y j x acc).map rc)
  | 0,x,k + 1,acc,hx,hx2,hk,ha => by
    show eI 200000 (dz 200000 k) _ = _
    simp only [eI,ai]
    rw [aZ (by omega)]
    rfl
  | j + 1,x,k + 1,acc,hx,hx2,hk,ha => by
    show eI 200000 (dz 200000 k) _ = _
    unfold fi
    by_cases h1 : x < w
    · have ih := DZ w h y hw hh hy j (x + 64) k (acc ++ [(x,y,min (w - x) 64,min (h - y) 64)]) (by omega) (by omega) (by omega) (by rw [List.length_append]; simp; omega)
      generalize dz 200000 k = G at *
      simp only [eI,ai]
      rw [if_pos h1,aQ (by omega),Ir h1 hw,Ir hy hh,Q6 _ _ _ _ _ (by rw [List.length_map]; omega),Option.bind_some,ba (by omega) (by omega),show (x : Int) + 64 = ((x + 64 : Nat) : Int) by omega]
      rw [show acc.map rc ++ [((x : Int),(y : Int),((min (w - x) 64 : Nat) : Int),((min (h - y) 64 : Nat) : Int),())] = (acc ++ [(x,y,min (w - x) 64,min (h - y) 64)]).map rc by simp [rc],ih,Option.bind_some]
    · simp only [eI,ai]
      rw [if_neg h1,aZ (by omega)]
theorem D1 (w h : Nat) (hw : w ≤ 4096) (hh : h ≤ 4096) : ∀ (j y k : Nat) (acc : List fu),h ≤ y + 64 * j → j < k → acc.length + 70 * j ≤ 80000 →
    hJ 200000 k ((y : Int),(h : Int),64,(w : Int),acc.map rc) = some ((h : Int),64,(w : Int),(qz w h j y acc).map rc)
  | 0,y,k + 1,acc,hx,hk,ha => by
    show lP 200000 (hJ 200000 k) _ = _
    simp only [lP,ai]
    rw [aZ (by omega)]
    rfl
  | j + 1,y,k + 1,acc,hx,hk,ha => by
    show lP 200000 (hJ 200000 k) _ = _
    unfold qz
    by_cases h1 : y < h
    · have hrow := DZ w h y hw hh h1 70 0 200000 acc (by omega) (by omega) (by omega) (by omega)
      have hlen : (fi w h y 70 0 acc).length ≤ acc.length + 70 := by
        have : ∀ (k x : Nat) (acc : List fu),(fi w h y k x acc).length ≤ acc.length + k := by
          intro k
          induction k with
          | zero => intro x acc; simp [fi]
          | succ k ih => intro x acc; unfold fi; split; exact Nat.le_trans (ih _ _) (by rw [List.length_append]; simp; omega); omega
        exact this 70 0 acc
      have ih := D1 w h hw hh j (y + 64) k (fi w h y 70 0 acc) (by omega) (by omega) (by omega)
      generalize hJ 200000 k = G at *
      simp only [lP,ai]
      rw [if_pos h1,aQ (by omega)]
      rw [show (0 : Int) = ((0 : Nat) : Int) from rfl,hrow,Option.bind_some]
      simp only
      rw [ba (by omega) (by omega),show (y : Int) + 64 = ((y + 64 : Nat) : Int) by omega,ih,Option.bind_some]
    · simp only [lP,ai]
      rw [if_neg h1,aZ (by omega)]
def bu (w h : Nat) : List fu := if w < 1 ∨ h < 1 then [] else qz w h 70 0 []
theorem LC (w h : Nat) : (∀ r ∈ bu w h,lU w h r) ∧ (bu w h).length ≤ 4900 := by
  unfold bu
  split
  · exact ⟨(fun r hr => nomatch hr),by simp⟩
  · have := ID w h 70 0 [] (fun r hr => by cases hr)
    exact ⟨this.1,by have := this.2; simp at this; omega⟩
theorem pd (w h : Nat) (hw : w ≤ 4096) (hh : h ≤ 4096) : F82 200000 ((w : Int),(h : Int),64) = some ((bu w h).map rc) := by
  have hc := D1 w h hw hh 70 0 200000 [] (by omega) (by omega) (by simp)
  simp only [F82,RN,Wa,ai]
  unfold bu
  by_cases h1 : 1 ≤ w
  · rw [aQ (show (1 : Int) ≤ (w : Int) by omega),Option.bind_some,decide_eq_true (show (w : Int) ≤ 4096 by omega)]
    simp only [Bool.not_true,Bool.false_eq_true,if_false]
    by_cases h2 : 1 ≤ h
    · rw [aQ (show (1 : Int) ≤ (h : Int) by omega),Option.bind_some,decide_eq_true (show (h : Int) ≤ 4096 by omega)]
      simp only [Bool.not_true,Bool.false_eq_true,if_false]
      rw [aZ (by omega),Option.bind_some,if_neg (show ¬ (w < 1 ∨ h < 1) by omega)]
      simp only
      rw [if_neg (show ¬ (4096 : Int) < 64 by decide)]
      simp only [qP,V5]
      have hc' : hJ 200000 200000 (0,(h : Int),64,(w : Int),[]) = some ((h : Int),64,(w : Int),(qz w h 70 0 []).map rc) := hc
      rw [hc']
      rfl
    · rw [aZ (show ¬ (1 : Int) ≤ (h : Int) by omega),Option.bind_some,if_pos (by decide),if_pos (show w < 1 ∨ h < 1 by omega)]
      rfl
  · rw [aZ (show ¬ (1 : Int) ≤ (w : Int) by omega),Option.bind_some,if_pos (by decide),if_pos (show w < 1 ∨ h < 1 by omega)]
    rfl
theorem J6 (w h y : Nat) (hw : w ≤ 4096) (hh : h ≤ 4096) (hy : y < h) : ∀ (j x k : Nat) (acc : List fu),w ≤ x + 64 * j → x < w + 64 → j < k → acc.length + j ≤ 90000 →
    dx 200000 k ((x : Int),(w : Int),(h : Int),(y : Int),64,acc.map rc) = some ((y : Int),(w : Int),(h : Int),64,(fi w h y j x acc).map rc)
  | 0,x,k + 1,acc,hx,hx2,hk,ha => by
    show eG 200000 (dx 200000 k) _ = _
    simp only [eG,ai]
    rw [aZ (by omega)]
    rfl
  | j + 1,x,k + 1,acc,hx,hx2,hk,ha => by
    show eG 200000 (dx 200000 k) _ = _
    unfold fi
    by_cases h1 : x < w
    · have ih := J6 w h y hw hh hy j (x + 64) k (acc ++ [(x,y,min (w - x) 64,min (h - y) 64)]) (by omega) (by omega) (by omega) (by rw [List.length_append]; simp; omega)
      generalize dx 200000 k = G at *
      simp only [eG,ai]
      rw [if_pos h1,aQ (by omega),Ir h1 hw,Ir hy hh,aQ (by simp; omega),if_neg (show ¬ (4096 : Int) < 64 by decide),ba (by omega) (by omega),show (x : Int) + 64 = ((x + 64 : Nat) : Int) by omega]
      rw [show acc.map rc ++ [((x : Int),(y : Int),((min (w - x) 64 : Nat) : Int),((min (h - y) 64 : Nat) : Int),())] = (acc ++ [(x,y,min (w - x) 64,min (h - y) 64)]).map rc by simp [rc],ih,Option.bind_some]
    · simp only [eG,ai]
      rw [if_neg h1,aZ (by omega)]
theorem J7 (w h : Nat) (hw : w ≤ 4096) (hh : h ≤ 4096) : ∀ (j y k : Nat) (acc : List fu),h ≤ y + 64 * j → j < k → acc.length + 70 * j ≤ 80000 →
    dK 200000 k ((w : Int),(h : Int),(y : Int),64,acc.map rc) = some ((qz w h j y acc).map rc)
  | 0,y,k + 1,acc,hx,hk,ha => by
    show ig 200000 (dK 200000 k) _ = _
    simp only [ig,ai]
    rw [aZ (by omega)]
    rfl
  | j + 1,y,k + 1,acc,hx,hk,ha => by
    show ig 200000 (dK 200000 k) _ = _
    unfold qz
    by_cases h1 : y < h
    · have hrow := J6 w h y hw hh h1 70 0 200000 acc (by omega) (by omega) (by omega) (by omega)
      have hlen : (fi w h y 70 0 acc).length ≤ acc.length + 70 := by
        have : ∀ (k x : Nat) (acc : List fu),(fi w h y k x acc).length ≤ acc.length + k := by
          intro k
          induction k with
          | zero => intro x acc; simp [fi]
          | succ k ih => intro x acc; unfold fi; split; exact Nat.le_trans (ih _ _) (by rw [List.length_append]; simp; omega); omega
        exact this 70 0 acc
      have ih := J7 w h hw hh j (y + 64) k (fi w h y 70 0 acc) (by omega) (by omega) (by omega)
      generalize dK 200000 k = G at *
      simp only [ig,ai]
      rw [if_pos h1,aQ (by omega)]
      rw [show (0 : Int) = ((0 : Nat) : Int) from rfl,hrow,Option.bind_some]
      simp only
      rw [if_neg (show ¬ (4096 : Int) < 64 by decide),ba (by omega) (by omega),show (y : Int) + 64 = ((y + 64 : Nat) : Int) by omega,ih,Option.bind_some]
    · simp only [ig,ai]
      rw [if_neg h1,aZ (by omega)]
theorem pe (w h : Nat) (hw : w ≤ 4096) (hh : h ≤ 4096) : F38 200000 ((w : Int),(h : Int),64) = some ((bu w h).map rc) := by
  have hc := J7 w h hw hh 70 0 200000 [] (by omega) (by omega) (by simp)
  simp only [F38,ai]
  unfold bu
  by_cases h1 : w < 1
  · rw [aQ (by omega),if_pos (.inl h1)]
    rfl
  · rw [aZ (by omega)]
    by_cases h2 : h < 1
    · rw [aQ (by omega),if_pos (.inr h2)]
      rfl
    · rw [aZ (by omega),aZ (by omega),aZ (by omega),aZ (by omega),if_neg (by omega)]
      have hc' : dK 200000 200000 ((w : Int),(h : Int),0,64,[]) = some ((qz w h 70 0 []).map rc) := hc
      rw [hc',Option.bind_some]
end Go.Proofs.YtfcamlibbfnldaaGreat.Am
set_option maxRecDepth 100000
namespace Go.Proofs.YtfcamlibbfnldaaGreat.Am
open Go.Am
def pos (w : Nat) (r : fu) (i : Nat) : Nat := (r.2.1 + i / r.2.2.1) * w + r.1 + i % r.2.2.1
def inT (w : Nat) (r : fu) (q : Nat) : Bool := decide (r.1 ≤ q % w) && (decide (q % w < r.1 + r.2.2.1) && (decide (r.2.1 ≤ q / w) && decide (q / w < r.2.1 + r.2.2.2)))
def NJ (w : Nat) (r : fu) (q : Nat) : Nat := (q / w - r.2.1) * r.2.2.1 + (q % w - r.1)
def eJ (w : Nat) (r : fu) (vals all : List Nat) (i : Nat) : List Nat := (List.range all.length).map fun q => if inT w r q = true ∧ NJ w r q < i then vals.getD (NJ w r q) 0 else all.getD q 0
theorem eP (w : Nat) (r : fu) (vals all : List Nat) (i : Nat) : (eJ w r vals all i).length = all.length := by unfold eJ; simp
theorem mn {w q : Nat} {r : fu} : inT w r q = true ↔ r.1 ≤ q % w ∧ q % w < r.1 + r.2.2.1 ∧ r.2.1 ≤ q / w ∧ q / w < r.2.1 + r.2.2.2 := by
  unfold inT
  simp only [Bool.and_eq_true,decide_eq_true_eq]
theorem PN {w q : Nat} {r : fu} (h : inT w r q = true) : NJ w r q < r.2.2.1 * r.2.2.2 := by
  obtain ⟨h1,h2,h3,h4⟩ := mn.1 h
  unfold NJ
  have h5 : q / w - r.2.1 ≤ r.2.2.2 - 1 := by omega
  have h6 : (q / w - r.2.1) * r.2.2.1 ≤ (r.2.2.2 - 1) * r.2.2.1 := Nat.mul_le_mul_right _ h5
  have h7 : (r.2.2.2 - 1) * r.2.2.1 + r.2.2.1 = r.2.2.1 * r.2.2.2 := by
    rw [Nat.mul_comm r.2.2.1,Nat.sub_mul,Nat.one_mul]
    have : r.2.2.1 ≤ r.2.2.2 * r.2.2.1 := Nat.le_mul_of_pos_left _ (by omega)
    omega
  omega
theorem qD {w h : Nat} {r : fu} (ht : lU w h r) {i : Nat} (hi : i < r.2.2.1 * r.2.2.2) : pos w r i / w = r.2.1 + i / r.2.2.1 ∧ pos w r i % w = r.1 + i % r.2.2.1 ∧ pos w r i < w * h := by
  obtain ⟨t1,t2,t3,t4,t5,t6⟩ := ht
  have hm : i % r.2.2.1 < r.2.2.1 := Nat.mod_lt _ (by omega)
  have hd : i / r.2.2.1 < r.2.2.2 := (Nat.div_lt_iff_lt_mul (by omega)).2 (by rw [Nat.mul_comm]; exact hi)
  have e : pos w r i = w * (r.2.1 + i / r.2.2.1) + (r.1 + i % r.2.2.1) := by unfold pos; rw [Nat.mul_comm w]; omega
  refine ⟨?_,?_,?_⟩
  · rw [e,Nat.mul_add_div (by omega),Nat.div_eq_of_lt (show r.1 + i % r.2.2.1 < w by omega),Nat.add_zero]
  · rw [e,Nat.mul_add_mod,Nat.mod_eq_of_lt (show r.1 + i % r.2.2.1 < w by omega)]
  · rw [e]
    have : w * (r.2.1 + i / r.2.2.1) + w ≤ w * h := by
      rw [← Nat.mul_succ]
      exact Nat.mul_le_mul_left _ (by omega)
    omega
theorem Ii {w h : Nat} {r : fu} (ht : lU w h r) {i q : Nat} (hi : i < r.2.2.1 * r.2.2.2) : (inT w r q = true ∧ NJ w r q = i) ↔ q = pos w r i := by
  obtain ⟨d1,d2,_⟩ := qD ht hi
  obtain ⟨t1,t2,t3,t4,t5,t6⟩ := ht
  have hm : i % r.2.2.1 < r.2.2.1 := Nat.mod_lt _ (by omega)
  have hd : i / r.2.2.1 < r.2.2.2 := (Nat.div_lt_iff_lt_mul (by omega)).2 (by rw [Nat.mul_comm]; exact hi)
  constructor
  · rintro ⟨h1,h2⟩
    obtain ⟨a1,a2,a3,a4⟩ := mn.1 h1
    unfold NJ at h2
    have e1 : i / r.2.2.1 = q / w - r.2.1 := by
      rw [← h2,Nat.mul_comm,Nat.mul_add_div (by omega),Nat.div_eq_of_lt (show q % w - r.1 < r.2.2.1 by omega),Nat.add_zero]
    have e2 : i % r.2.2.1 = q % w - r.1 := by
      rw [← h2,Nat.mul_comm,Nat.mul_add_mod,Nat.mod_eq_of_lt (show q % w - r.1 < r.2.2.1 by omega)]
    unfold pos
    rw [e1,e2,show r.2.1 + (q / w - r.2.1) = q / w by omega]
    have := Nat.div_add_mod q w
    rw [Nat.mul_comm] at this
    omega
  · intro hq
    subst hq
    refine ⟨mn.2 (by rw [d1,d2]; generalize i / r.2.2.1 = A at *; generalize i % r.2.2.1 = C at *; omega),?_⟩
    unfold NJ
    rw [d1,d2,Nat.add_sub_cancel_left,Nat.add_sub_cancel_left]
    have := Nat.div_add_mod i r.2.2.1
    rw [Nat.mul_comm] at this
    exact this
theorem ND (w : Nat) (r : fu) (vals all : List Nat) : eJ w r vals all 0 = all := by
  unfold eJ
  apply List.ext_getElem
  · simp
  · intro n h1 h2
    simp [List.getElem?_eq_getElem h2]
theorem NE {w h : Nat} {r : fu} (ht : lU w h r) (vals all : List Nat) (c : Nat → Nat) (hall : all.length = w * h) {i : Nat} (hi : i < r.2.2.1 * r.2.2.2) :
    (nl ((eJ w r vals all i).map c)).set (pos w r i) ((c (vals.getD i 0) : Nat) : Int) = nl ((eJ w r vals all (i + 1)).map c) := by
  obtain ⟨_,_,d3⟩ := qD ht hi
  apply List.ext_getElem
  · simp [nl,eJ]
  · intro q h1 h2
    have hq : q < all.length := by simp [nl,eJ] at h2; exact h2
    rw [List.getElem_set]
    simp only [nl,eJ,List.getElem_map,List.getElem_range]
    by_cases hp : pos w r i = q
    · rw [if_pos hp]
      obtain ⟨a1,a2⟩ := (Ii ht hi).2 hp.symm
      rw [if_pos ⟨a1,by omega⟩,a2]
    · rw [if_neg hp]
      by_cases hin : inT w r q = true
      · have hne : NJ w r q ≠ i := fun e => hp ((Ii ht hi).1 ⟨hin,e⟩).symm
        by_cases hlt : NJ w r q < i
        · rw [if_pos ⟨hin,hlt⟩,if_pos ⟨hin,by omega⟩]
        · rw [if_neg (fun x => hlt x.2),if_neg (fun x => by have := x.2; omega)]
      · rw [if_neg (fun x => hin x.1),if_neg (fun x => hin x.1)]
theorem Iu (w : Nat) (r : fu) (vals all : List Nat) (i : Nat) (hv : ∀ v ∈ vals,v < 4294967296) (ha : ∀ v ∈ all,v < 4294967296) : ∀ v ∈ eJ w r vals all i,v < 4294967296 := by
  have hg : ∀ (L : List Nat) (k : Nat),(∀ v ∈ L,v < 4294967296) → L.getD k 0 < 4294967296 := by
    intro L k hL
    by_cases hk : k < L.length
    · rw [List.getD,List.getElem?_eq_getElem hk]; exact hL _ (List.getElem_mem hk)
    · rw [List.getD,List.getElem?_eq_none (by omega)]; decide
  intro v hv2
  unfold eJ at hv2
  obtain ⟨q,_,rfl⟩ := List.mem_map.1 hv2
  split
  · exact hg _ _ hv
  · exact hg _ _ ha
section
variable (b d : Int) (g t : Bool) (m0 m1 m2 s0 s1 s2 : Int) (sz : Nat) (l : List UInt8)
theorem ZA {w h : Nat} {r : fu} (ht : lU w h r) (hw : w ≤ 4096) (hwh : w * h ≤ 5000) {i : Nat} (hi : i < r.2.2.1 * r.2.2.2) (hh : h ≤ 4096) :
    IntKind.wrap .i64 (IntKind.wrap .i64 (IntKind.wrap .i64 (IntKind.wrap .i64 ((r.2.1 : Int) + IntKind.wrap .i64 (Int.tdiv (i : Int) (r.2.2.1 : Int))) * (w : Int)) + (r.1 : Int)) + Int.tmod (i : Int) (r.2.2.1 : Int)) = ((pos w r i : Nat) : Int) := by
  obtain ⟨_,_,d3⟩ := qD ht hi
  obtain ⟨t1,t2,t3,t4,t5,t6⟩ := ht
  have hd : i / r.2.2.1 < r.2.2.2 := (Nat.div_lt_iff_lt_mul (by omega)).2 (by rw [Nat.mul_comm]; exact hi)
  have hm : i % r.2.2.1 < r.2.2.1 := Nat.mod_lt _ (by omega)
  unfold pos at d3 ⊢
  rw [show Int.tdiv (i : Int) (r.2.2.1 : Int) = ((i / r.2.2.1 : Nat) : Int) from rfl,show Int.tmod (i : Int) (r.2.2.1 : Int) = ((i % r.2.2.1 : Nat) : Int) from rfl]
  generalize i / r.2.2.1 = A at *
  generalize i % r.2.2.1 = C at *
  rw [ba (n := (A : Int)) (by omega) (by omega),ba (n := (r.2.1 : Int) + (A : Int)) (by omega) (by omega),show ((r.2.1 : Int) + (A : Int)) * (w : Int) = (((r.2.1 + A) * w : Nat) : Int) by simp]
  generalize (r.2.1 + A) * w = Q at *
  rw [ba (n := (Q : Int)) (by omega) (by omega),ba (n := (Q : Int) + (r.1 : Int)) (by omega) (by omega),ba (by omega) (by omega)]
  omega
theorem Ka (hv : qp b d t m0 m1 m2 s0 s1 s2 = true) (w h : Nat) (r : fu) (ht : lU w h r) (hw : w ≤ 4096) (hh : h ≤ 4096) (hwh : w * h ≤ 5000) (vals all : List Nat) (hall : all.length = w * h) (hvl : vals.length = r.2.2.1 * r.2.2.2) (hv32 : ∀ v ∈ vals,v < 4294967296) (x2 x3 : Int) (tl : List (Int × Int × Int × Int × Unit)) (p : Nat) (e : Int) : ∀ (j i k : Nat),i + j = vals.length → j < k →
    bw 200000 k ((i : Int),((vals.length : Nat) : Int),x2,x3,(w : Int),b,d,g,t,m0,m1,m2,s0,s1,s2,(sz : Int),tl,nl vals,nl ((eJ w r vals all i).map (dw m0 m1 m2 s0 s1 s2)),(r.1 : Int),(r.2.1 : Int),(r.2.2.1 : Int),(r.2.2.2 : Int),b,d,g,t,m0,m1,m2,s0,s1,s2,B l,(p : Int),e)
      = some (x3,(w : Int),x2,b,d,g,t,m0,m1,m2,s0,s1,s2,nl ((eJ w r vals all (r.2.2.1 * r.2.2.2)).map (dw m0 m1 m2 s0 s1 s2)),tl,b,d,g,t,m0,m1,m2,s0,s1,s2,(sz : Int),B l,(p : Int),e)
  | 0,i,k + 1,hi,hk => by
    show dj 200000 (bw 200000 k) _ = _
    simp only [dj,ai]
    rw [aZ (by omega),show i = r.2.2.1 * r.2.2.2 by omega]
  | j + 1,i,k + 1,hi,hk => by
    have hi2 : i < r.2.2.1 * r.2.2.2 := by omega
    have ih := Ka hv w h r ht hw hh hwh vals all hall hvl hv32 x2 x3 tl p e j (i + 1) k (by omega) (by omega)
    obtain ⟨_,_,d3⟩ := qD ht hi2
    have hvi : vals.getD i 0 < 4294967296 := by rw [List.getD,List.getElem?_eq_getElem (by omega)]; exact hv32 _ (List.getElem_mem _)
    have hW : ¬ ((r.2.2.1 : Int) = 0) := by have := ht.1; omega
    have hi5 : i ≤ 4096 := by have := Nat.mul_le_mul ht.2.1 ht.2.2.2.1; omega
    show dj 200000 (bw 200000 k) _ = _
    generalize bw 200000 k = G at *
    simp only [dj,ai,ZA ht hw hwh hi2 hh]
    rw [aQ (by omega),if_pos (az (by rw [ap]; omega)),Int.toNat_natCast,eh (by omega),Option.bind_some,aZ hW,aZ hW,G3 b d g t m0 m1 m2 s0 s1 s2 hv _ hvi,Option.bind_some,
      if_pos (az (by rw [ap,List.length_map,eP]; omega)),Int.toNat_natCast,eh (by rw [List.length_map,eP]; omega),Option.bind_some,NE ht vals all (dw m0 m1 m2 s0 s1 s2) hall hi2,ba (by omega) (by omega),show (i : Int) + 1 = ((i + 1 : Nat) : Int) by omega,ih,Option.bind_some]
def qs (w : Nat) (r : fu) (vals all : List Nat) (q : Nat) : Nat := if inT w r q = true then vals.getD (NJ w r q) 0 else all.getD q 0
theorem NF {w : Nat} {r : fu} {vals all : List Nat} : eJ w r vals all (r.2.2.1 * r.2.2.2) = (List.range all.length).map (qs w r vals all) := by
  unfold eJ
  apply List.map_congr_left
  intro q _
  unfold qs
  by_cases h : inT w r q = true
  · rw [if_pos ⟨h,PN h⟩,if_pos h]
  · rw [if_neg (fun x => h x.1),if_neg h]
theorem DK (w h : Nat) (hw1 : 1 ≤ w) (r : fu) (ht : lU w h r) (hw : w ≤ 4096) (hh : h ≤ 4096) (hwh : w * h ≤ 5000) (vals all : List Nat) (hall : all.length = w * h) (hvl : vals.length = r.2.2.1 * r.2.2.2) : ∀ (j q k : Nat),q + j = all.length → j < k →
    gT 200000 k ((q : Int),(w : Int),nl all,nl vals,nl ((List.range q).map (qs w r vals all)),(r.1 : Int),(r.2.1 : Int),(r.2.2.1 : Int),(r.2.2.2 : Int)) = some (nl ((List.range all.length).map (qs w r vals all)))
  | 0,q,k + 1,hq,hk => by
    show pz 200000 (gT 200000 k) _ = _
    simp only [pz,ai]
    rw [aZ (by rw [ap]; omega),show q = all.length by omega]
  | j + 1,q,k + 1,hq,hk => by
    have ih := DK w h hw1 r ht hw hh hwh vals all hall hvl j (q + 1) k (by omega) (by omega)
    have hW : ¬ ((w : Int) = 0) := by omega
    have hm : q % w < w := Nat.mod_lt _ (by omega)
    have hd : q / w ≤ q := Nat.div_le_self _ _
    obtain ⟨t1,t2,t3,t4,t5,t6⟩ := ht
    have hin : RH 200000 ((r.1 : Int),(r.2.1 : Int),(r.2.2.1 : Int),(r.2.2.2 : Int),Int.tmod (q : Int) (w : Int),IntKind.wrap .i64 (Int.tdiv (q : Int) (w : Int))) = some (inT w r q) := by
      rw [show Int.tmod (q : Int) (w : Int) = ((q % w : Nat) : Int) from rfl,show Int.tdiv (q : Int) (w : Int) = ((q / w : Nat) : Int) from rfl]
      simp only [RH,ai]
      unfold inT
      generalize q % w = a at *
      generalize q / w = c at *
      rw [ba (n := (c : Int)) (by omega) (by omega),ba (n := (r.1 : Int) + (r.2.2.1 : Int)) (by omega) (by omega),ba (n := (r.2.1 : Int) + (r.2.2.2 : Int)) (by omega) (by omega)]
      by_cases c1 : r.1 ≤ a
      · rw [aQ (show (a : Int) ≥ (r.1 : Int) by omega),decide_eq_true c1]
        by_cases c2 : a < r.1 + r.2.2.1
        · rw [aQ (show (a : Int) < (r.1 : Int) + (r.2.2.1 : Int) by omega),decide_eq_true c2]
          by_cases c3 : r.2.1 ≤ c
          · rw [aQ (show (c : Int) ≥ (r.2.1 : Int) by omega),decide_eq_true c3]
            by_cases c4 : c < r.2.1 + r.2.2.2
            · rw [decide_eq_true c4,decide_eq_true (show (c : Int) < (r.2.1 : Int) + (r.2.2.2 : Int) by omega)]; rfl
            · rw [decide_eq_false c4,decide_eq_false (show ¬ (c : Int) < (r.2.1 : Int) + (r.2.2.2 : Int) by omega)]; rfl
          · rw [aZ (show ¬ (c : Int) ≥ (r.2.1 : Int) by omega),decide_eq_false c3]; rfl
        · rw [aZ (show ¬ (a : Int) < (r.1 : Int) + (r.2.2.1 : Int) by omega),decide_eq_false c2]; rfl
      · rw [aZ (show ¬ (a : Int) ≥ (r.1 : Int) by omega),decide_eq_false c1]; rfl
    have hlen : (nl ((List.range q).map (qs w r vals all))).length = q := by rw [ap]; simp
    have happ : nl ((List.range q).map (qs w r vals all)) ++ [((qs w r vals all q : Nat) : Int)] = nl ((List.range (q + 1)).map (qs w r vals all)) := by
      rw [gG,gH,List.range_succ,List.map_append]; rfl
    show pz 200000 (gT 200000 k) _ = _
    generalize gT 200000 k = G at *
    simp only [pz,ai]
    rw [aQ (by rw [ap]; omega),aZ hW,aZ hW,if_pos (az (by rw [ap]; omega)),Int.toNat_natCast,eh (by omega),Option.bind_some,hin,Option.bind_some]
    rw [ba (n := (q : Int) + 1) (by omega) (by omega),show (q : Int) + 1 = ((q + 1 : Nat) : Int) by omega]
    cases hi : inT w r q with
    | true =>
      obtain ⟨a1,a2,a3,a4⟩ := mn.1 hi
      have hid := PN hi
      have ei : IntKind.wrap .i64 (IntKind.wrap .i64 (IntKind.wrap .i64 (IntKind.wrap .i64 (IntKind.wrap .i64 (Int.tdiv (q : Int) (w : Int)) - (r.2.1 : Int)) * (r.2.2.1 : Int)) + Int.tmod (q : Int) (w : Int)) - (r.1 : Int)) = ((NJ w r q : Nat) : Int) := by
        have hle : (q / w - r.2.1) * r.2.2.1 ≤ 4096 * 64 := Nat.mul_le_mul (by omega) t2
        rw [show Int.tmod (q : Int) (w : Int) = ((q % w : Nat) : Int) from rfl,show Int.tdiv (q : Int) (w : Int) = ((q / w : Nat) : Int) from rfl]
        unfold NJ
        generalize q % w = a at *
        generalize q / w = c at *
        rw [ba (n := (c : Int)) (by omega) (by omega),ba (n := (c : Int) - (r.2.1 : Int)) (by omega) (by omega),
          show (c : Int) - (r.2.1 : Int) = ((c - r.2.1 : Nat) : Int) by omega,show ((c - r.2.1 : Nat) : Int) * (r.2.2.1 : Int) = (((c - r.2.1) * r.2.2.1 : Nat) : Int) by simp]
        generalize (c - r.2.1) * r.2.2.1 = Q at *
        rw [ba (n := (Q : Int)) (by omega) (by omega),ba (n := (Q : Int) + (a : Int)) (by omega) (by omega),ba (by omega) (by omega)]
        omega
      have ep : qs w r vals all q = vals.getD (NJ w r q) 0 := by unfold qs; rw [if_pos hi]
      rw [if_pos rfl,ei,if_pos (az (by rw [ap]; omega)),Int.toNat_natCast,eh (by omega),Option.bind_some,aQ (by rw [hlen]; simp; omega),← ep,happ,ih,Option.bind_some]
    | false =>
      have ep : qs w r vals all q = all.getD q 0 := by unfold qs; rw [if_neg (by rw [hi]; decide)]
      rw [if_neg (by decide),aQ (by rw [hlen]; simp; omega),← ep,happ,ih,Option.bind_some]
theorem Vv (w h : Nat) (hw1 : 1 ≤ w) (r : fu) (ht : lU w h r) (hw : w ≤ 4096) (hh : h ≤ 4096) (hwh : w * h ≤ 5000) (vals all : List Nat) (hall : all.length = w * h) (hvl : vals.length = r.2.2.1 * r.2.2.2) :
    F89 200000 ((w : Int),nl all,(r.1 : Int),(r.2.1 : Int),(r.2.2.1 : Int),(r.2.2.2 : Int),nl vals) = some (nl (eJ w r vals all (r.2.2.1 * r.2.2.2))) := by
  have h := DK w h hw1 r ht hw hh hwh vals all hall hvl all.length 0 200000 (by omega) (by omega)
  have h' : gT 200000 200000 (0,(w : Int),nl all,nl vals,[],(r.1 : Int),(r.2.1 : Int),(r.2.2.1 : Int),(r.2.2.2 : Int)) = _ := h
  simp only [F89]
  rw [h',Option.bind_some,NF]
theorem DJ (hv : qp b d t m0 m1 m2 s0 s1 s2 = true) (all : List Nat) (hall : all.length ≤ 10000) (h32 : ∀ v ∈ all,v < 4294967296) : ∀ (j i k : Nat),i + j = all.length → j < k →
    gS 200000 k ((i : Int),nl all,nl ((all.take i).map (dw m0 m1 m2 s0 s1 s2)),b,d,g,t,m0,m1,m2,s0,s1,s2) = some (nl (all.map (dw m0 m1 m2 s0 s1 s2)))
  | 0,i,k + 1,hi,hk => by
    show py 200000 (gS 200000 k) _ = _
    simp only [py,ai]
    rw [aZ (by rw [ap]; omega),List.take_of_length_le (by omega)]
  | j + 1,i,k + 1,hi,hk => by
    have ih := DJ hv all hall h32 j (i + 1) k (by omega) (by omega)
    have hvi : all.getD i 0 < 4294967296 := by rw [List.getD,List.getElem?_eq_getElem (by omega)]; exact h32 _ (List.getElem_mem _)
    have happ : nl ((all.take i).map (dw m0 m1 m2 s0 s1 s2)) ++ [((dw m0 m1 m2 s0 s1 s2 (all.getD i 0) : Nat) : Int)] = nl ((all.take (i + 1)).map (dw m0 m1 m2 s0 s1 s2)) := by
      rw [gG,gH,List.take_add_one,List.map_append,List.getD,List.getElem?_eq_getElem (by omega)]; rfl
    show py 200000 (gS 200000 k) _ = _
    generalize gS 200000 k = G at *
    simp only [py,ai]
    rw [aQ (by rw [ap]; omega),if_pos (az (by rw [ap]; omega)),Int.toNat_natCast,eh (by omega),Option.bind_some,D3 b d g t m0 m1 m2 s0 s1 s2 hv _ hvi,Option.bind_some,aQ (by rw [ap]; simp; omega),happ,ba (by omega) (by omega),show (i : Int) + 1 = ((i + 1 : Nat) : Int) by omega,ih,Option.bind_some]
theorem Q3 (hv : qp b d t m0 m1 m2 s0 s1 s2 = true) (all : List Nat) (hall : all.length ≤ 10000) (h32 : ∀ v ∈ all,v < 4294967296) :
    F90 200000 (b,d,g,t,m0,m1,m2,s0,s1,s2,nl all) = some (nl (all.map (dw m0 m1 m2 s0 s1 s2))) := by
  have h := DJ b d g t m0 m1 m2 s0 s1 s2 hv all hall h32 all.length 0 200000 (by omega) (by omega)
  have h' : gS 200000 200000 (0,nl all,[],b,d,g,t,m0,m1,m2,s0,s1,s2) = _ := h
  simp only [F90]
  rw [h',Option.bind_some]
end
end Go.Proofs.YtfcamlibbfnldaaGreat.Am
set_option maxRecDepth 100000
namespace Go.Proofs.YtfcamlibbfnldaaGreat.Am
open Go.Am
theorem Rl (L : List Int) (hL : L.length ≤ 100000) : Rn 200000 (L,L) = some true := by
  have loop : ∀ (j i k : Nat),i + j = L.length → j < k → jo 200000 k (L,L,(i : Int)) = some (.inr ()) := by
    intro j
    induction j with
    | zero =>
      intro i k hi hk
      obtain ⟨k',rfl⟩ : ∃ k',k = k' + 1 := ⟨k - 1,by omega⟩
      show pB 200000 (jo 200000 k') _ = _
      simp only [pB,ai]
      rw [aZ (by omega)]
    | succ j ih =>
      intro i k hi hk
      obtain ⟨k',rfl⟩ : ∃ k',k = k' + 1 := ⟨k - 1,by omega⟩
      have ih := ih (i + 1) k' (by omega) (by omega)
      show pB 200000 (jo 200000 k') _ = _
      generalize jo 200000 k' = G at *
      simp only [pB,ai]
      rw [aQ (by omega),if_pos (az (by omega)),Int.toNat_natCast,S3 (by omega),Option.bind_some,if_pos (az (by omega)),Option.bind_some]
      simp only [bne_self_eq_false,Bool.false_eq_true,if_false]
      rw [ba (by omega) (by omega),show (i : Int) + 1 = ((i + 1 : Nat) : Int) by omega,ih,Option.bind_some]
  have h := loop L.length 0 200000 (by omega) (by omega)
  simp only [Rn,ai]
  simp only [bne_self_eq_false,Bool.false_eq_true,if_false]
  rw [show (0 : Int) = ((0 : Nat) : Int) from rfl,h,Option.bind_some]
theorem yq (T : List fu) (pre : List fu) (r : fu) (rest : List fu) (hT : T = pre ++ r :: rest) : (T.map rc)[pre.length]? = some (rc r) := by rw [hT]; simp
section
variable (b d : Int) (g t : Bool) (m0 m1 m2 s0 s1 s2 : Int) (sz sh : Nat) (l : List UInt8)
theorem DI (n : Int) : F93 200000 n = some (decide (0 ≤ n) && decide (n ≤ 4096)) := by
  simp only [F93,ai]
  cases decide (0 ≤ n) <;> rfl
def fits (w h : Int) : Bool := qp b d t m0 m1 m2 s0 s1 s2 && ((decide (0 ≤ w) && decide (w ≤ 4096)) && (decide (0 ≤ h) && decide (h ≤ 4096)))
theorem mS (w h : Int) : WM 200000 (b,d,g,t,m0,m1,m2,s0,s1,s2,w,h) = some (fits b d t m0 m1 m2 s0 s1 s2 w h) := by
  simp only [WM,ai]
  rw [fX,Option.bind_some,DI,DI]
  unfold fits
  cases qp b d t m0 m1 m2 s0 s1 s2 <;> cases (decide (0 ≤ w) && decide (w ≤ 4096)) <;> rfl
theorem jp (w h : Int) : F27 200000 (b,d,g,t,m0,m1,m2,s0,s1,s2,w,h) = some (fits b d t m0 m1 m2 s0 s1 s2 w h) := by
  simp only [F27,ai]
  rw [N1,Option.bind_some]
  unfold fits
  rw [show decide (w ≥ 0) = decide (0 ≤ w) from rfl,show decide (h ≥ 0) = decide (0 ≤ h) from rfl]
  cases qp b d t m0 m1 m2 s0 s1 s2 <;> cases decide (0 ≤ w) <;> cases decide (w ≤ 4096) <;> cases decide (0 ≤ h) <;> rfl
def vg (w : Nat) : List fu → Nat → Int → List Nat → Option (Nat × Int × List Nat)
  | [],p,e,all => some (p,e,all)
  | r :: rest,p,e,all => match lT g sz sh l r.2.2.1 r.2.2.2 p e with
    | none => none
    | some (p',e',vs) => if e' ≠ 0 then none else vg w rest p' e' (eJ w r vs all (r.2.2.1 * r.2.2.2))
variable (hv : qp b d t m0 m1 m2 s0 s1 s2 = true) (h37 : J8 200000 (b,d,g,t,m0,m1,m2,s0,s1,s2) = some ((sz : Int),(sh : Int))) (h87 : N0 200000 (b,d,g,t,m0,m1,m2,s0,s1,s2) = some ((sz : Int),(sh : Int))) (h1 : 1 ≤ sz) (h4 : sz ≤ 4) (hsh : sh = 0 ∨ sh = 8 ∧ sz = 3) (hl : l.length ≤ 100000)
include hv h37 h87 h1 h4 hsh hl
theorem DU (w h : Nat) (hw : w ≤ 4096) (hh : h ≤ 4096) (hwh : w * h ≤ 5000) (T : List fu) (hT : ∀ r ∈ T,lU w h r) (hTl : T.length ≤ 5000) : ∀ (suf pre : List fu) (p k : Nat) (e : Int) (all : List Nat),T = pre ++ suf → suf.length < k → p ≤ l.length → gE e → all.length = w * h → (∀ v ∈ all,v < 4294967296) →
    match vg g sz sh l w suf p e all with
    | some (p',e',all') => bS 200000 k ((w : Int),((pre.length : Nat) : Int),((T.length : Nat) : Int),b,d,g,t,m0,m1,m2,s0,s1,s2,nl (all.map (dw m0 m1 m2 s0 s1 s2)),T.map rc,b,d,g,t,m0,m1,m2,s0,s1,s2,(sz : Int),B l,(p : Int),e) = some (.inr (b,d,g,t,m0,m1,m2,s0,s1,s2,(sz : Int),nl (all'.map (dw m0 m1 m2 s0 s1 s2)),B l,(p' : Int),e')) ∧ p' ≤ l.length ∧ gE e' ∧ all'.length = w * h ∧ ∀ v ∈ all',v < 4294967296
    | none => bS 200000 k ((w : Int),((pre.length : Nat) : Int),((T.length : Nat) : Int),b,d,g,t,m0,m1,m2,s0,s1,s2,nl (all.map (dw m0 m1 m2 s0 s1 s2)),T.map rc,b,d,g,t,m0,m1,m2,s0,s1,s2,(sz : Int),B l,(p : Int),e) = some (.inl (180,[]))
  | [],pre,p,k + 1,e,all,hs,hk,hp,he,ha,ha32 => by
    have : T.length = pre.length := by rw [hs]; simp
    unfold vg
    refine ⟨?_,hp,he,ha,ha32⟩
    show ii 200000 (bS 200000 k) _ = _
    simp only [ii,ai]
    rw [aZ (by omega)]
  | r :: rest,pre,p,k + 1,e,all,hs,hk,hp,he,ha,ha32 => by
    have hn : T.length = pre.length + rest.length + 1 := by rw [hs]; simp; omega
    have ht := hT r (by rw [hs]; simp)
    have htile := Q5 b d g t m0 m1 m2 s0 s1 s2 sz sh l hv h37 h87 h1 h4 hsh hl r.2.2.1 r.2.2.2 p e ht.2.1 ht.2.2.2.1 hp he
    have hF : ∀ R,bS 200000 (k + 1) ((w : Int),((pre.length : Nat) : Int),((T.length : Nat) : Int),b,d,g,t,m0,m1,m2,s0,s1,s2,nl (all.map (dw m0 m1 m2 s0 s1 s2)),T.map rc,b,d,g,t,m0,m1,m2,s0,s1,s2,(sz : Int),B l,(p : Int),e) = R ↔ ii 200000 (bS 200000 k) ((w : Int),((pre.length : Nat) : Int),((T.length : Nat) : Int),b,d,g,t,m0,m1,m2,s0,s1,s2,nl (all.map (dw m0 m1 m2 s0 s1 s2)),T.map rc,b,d,g,t,m0,m1,m2,s0,s1,s2,(sz : Int),B l,(p : Int),e) = R := fun _ => Iff.rfl
    unfold vg
    cases hr : lT g sz sh l r.2.2.1 r.2.2.2 p e with
    | none =>
      rw [hr] at htile
      obtain ⟨q,e',hx⟩ := htile
      simp only
      rw [hF]
      simp only [ii,ai]
      rw [aQ (by omega),if_pos (az (by rw [List.length_map]; omega)),Int.toNat_natCast,yq T pre r rest hs,Option.bind_some]
      simp only [rc]
      rw [hx]
      rfl
    | some y =>
      obtain ⟨p',e',vs⟩ := y
      rw [hr] at htile
      simp only at htile ⊢
      obtain ⟨a1,a2,a3,a4⟩ := BO g sz sh l h4 hsh hl r.2.2.1 r.2.2.2 p e hp he p' e' vs hr
      have hB : bS 200000 (k + 1) ((w : Int),((pre.length : Nat) : Int),((T.length : Nat) : Int),b,d,g,t,m0,m1,m2,s0,s1,s2,nl (all.map (dw m0 m1 m2 s0 s1 s2)),T.map rc,b,d,g,t,m0,m1,m2,s0,s1,s2,(sz : Int),B l,(p : Int),e) =
          if (e' != 0) = true then some (.inl (180,[])) else
            (bw 200000 200000 (0,(((nl vs).length : Nat) : Int),((T.length : Nat) : Int),((pre.length : Nat) : Int),(w : Int),b,d,g,t,m0,m1,m2,s0,s1,s2,(sz : Int),T.map rc,nl vs,nl (all.map (dw m0 m1 m2 s0 s1 s2)),(r.1 : Int),(r.2.1 : Int),(r.2.2.1 : Int),(r.2.2.2 : Int),b,d,g,t,m0,m1,m2,s0,s1,s2,B l,(p' : Int),e')).bind fun (z0,z1,z2,z3,z4,z5,z6,z7,z8,z9,z10,z11,z12,z13,z14,z15,z16,z17,z18,z19,z20,z21,z22,z23,z24,z25,z26,z27,z28) =>
              (bS 200000 k (z1,IntKind.wrap .i64 (z0 + 1),z2,z3,z4,z5,z6,z7,z8,z9,z10,z11,z12,z13,z14,z15,z16,z17,z18,z19,z20,z21,z22,z23,z24,z25,z26,z27,z28)).bind fun r => match r with | .inl y => some (.inl y) | .inr y => some (.inr y) := by
        rw [hF]
        generalize bS 200000 k = G
        simp only [ii,ai]
        rw [aQ (by omega),if_pos (az (by rw [List.length_map]; omega)),Int.toNat_natCast,yq T pre r rest hs,Option.bind_some]
        simp only [rc]
        rw [htile]
        rfl
      rw [hB]
      by_cases he0 : e' = 0
      · rw [if_neg (by simpa using he0),if_neg (by simpa using he0)]
        have hlay := Ka b d g t m0 m1 m2 s0 s1 s2 sz l hv w h r ht hw hh hwh vs all ha a3 a4 ((T.length : Nat) : Int) ((pre.length : Nat) : Int) (T.map rc) p' e' vs.length 0 200000 (by omega) (by have := Nat.mul_le_mul ht.2.1 ht.2.2.2.1; omega)
        rw [ND] at hlay
        rw [ap]
        have hlay' : bw 200000 200000 (0,((vs.length : Nat) : Int),((T.length : Nat) : Int),((pre.length : Nat) : Int),(w : Int),b,d,g,t,m0,m1,m2,s0,s1,s2,(sz : Int),T.map rc,nl vs,nl (all.map (dw m0 m1 m2 s0 s1 s2)),(r.1 : Int),(r.2.1 : Int),(r.2.2.1 : Int),(r.2.2.2 : Int),b,d,g,t,m0,m1,m2,s0,s1,s2,B l,(p' : Int),e') = _ := hlay
        rw [hlay',Option.bind_some]
        simp only
        have ih := DU w h hw hh hwh T hT hTl rest (pre ++ [r]) p' k e' (eJ w r vs all (r.2.2.1 * r.2.2.2)) (by rw [hs]; simp) (by simp at hk; omega) a1 a2 (by rw [eP]; exact ha) (Iu w r vs all _ a4 ha32)
        rw [ba (by omega) (by omega),show ((pre.length : Nat) : Int) + 1 = (((pre ++ [r]).length : Nat) : Int) by simp]
        cases hu : vg g sz sh l w rest p' e' (eJ w r vs all (r.2.2.1 * r.2.2.2)) with
        | none =>
          rw [hu] at ih
          simp only at ih ⊢
          rw [ih]; rfl
        | some y =>
          rw [hu] at ih
          simp only at ih ⊢
          refine ⟨?_,ih.2⟩
          rw [ih.1]; rfl
      · rw [if_pos he0,if_pos (by simpa using he0)]
theorem DT (w h : Nat) (T : List fu) (hw1 : T ≠ [] → 1 ≤ w) (hw : w ≤ 4096) (hh : h ≤ 4096) (hwh : w * h ≤ 5000) (hT : ∀ r ∈ T,lU w h r) (hTl : T.length ≤ 5000) : ∀ (suf pre : List fu) (p k : Nat) (e : Int) (all : List Nat),T = pre ++ suf → suf.length < k → p ≤ l.length → gE e → all.length = w * h → (∀ v ∈ all,v < 4294967296) →
    match vg g sz sh l w suf p e all with
    | some (p',e',all') => bq 200000 k (B l,(w : Int),((pre.length : Nat) : Int),b,d,g,t,m0,m1,m2,s0,s1,s2,b,d,g,t,m0,m1,m2,s0,s1,s2,(sz : Int),T.map rc,nl all,B l,(p : Int),e) = some (.inr (B l,b,d,g,t,m0,m1,m2,s0,s1,s2,(sz : Int),nl all',b,d,g,t,m0,m1,m2,s0,s1,s2,B l,(p' : Int),e'))
    | none => bq 200000 k (B l,(w : Int),((pre.length : Nat) : Int),b,d,g,t,m0,m1,m2,s0,s1,s2,b,d,g,t,m0,m1,m2,s0,s1,s2,(sz : Int),T.map rc,nl all,B l,(p : Int),e) = some (.inl (180,[]))
  | [],pre,p,k + 1,e,all,hs,hk,hp,he,ha,ha32 => by
    have : T.length = pre.length := by rw [hs]; simp
    unfold vg
    show eH 200000 (bq 200000 k) _ = _
    simp only [eH,ai]
    rw [aZ (by rw [List.length_map]; omega)]
  | r :: rest,pre,p,k + 1,e,all,hs,hk,hp,he,ha,ha32 => by
    have hn : T.length = pre.length + rest.length + 1 := by rw [hs]; simp; omega
    have ht := hT r (by rw [hs]; simp)
    have hw0 := hw1 (by rw [hs]; simp)
    have htile := Q4 b d g t m0 m1 m2 s0 s1 s2 sz sh l hv h37 h87 h1 h4 hsh hl r.2.2.1 r.2.2.2 p e ht.2.1 ht.2.2.2.1 hp he
    have hF : ∀ R,bq 200000 (k + 1) (B l,(w : Int),((pre.length : Nat) : Int),b,d,g,t,m0,m1,m2,s0,s1,s2,b,d,g,t,m0,m1,m2,s0,s1,s2,(sz : Int),T.map rc,nl all,B l,(p : Int),e) = R ↔ eH 200000 (bq 200000 k) (B l,(w : Int),((pre.length : Nat) : Int),b,d,g,t,m0,m1,m2,s0,s1,s2,b,d,g,t,m0,m1,m2,s0,s1,s2,(sz : Int),T.map rc,nl all,B l,(p : Int),e) = R := fun _ => Iff.rfl
    unfold vg
    cases hr : lT g sz sh l r.2.2.1 r.2.2.2 p e with
    | none =>
      rw [hr] at htile
      obtain ⟨q,e',hx⟩ := htile
      simp only
      rw [hF]
      simp only [eH,ai]
      rw [aQ (by rw [List.length_map]; omega),if_pos (az (by rw [List.length_map]; omega)),Int.toNat_natCast,yq T pre r rest hs,Option.bind_some,if_pos (az (by rw [List.length_map]; omega)),Option.bind_some]
      simp only [rc]
      rw [hx]
      rfl
    | some y =>
      obtain ⟨p',e',vs⟩ := y
      rw [hr] at htile
      simp only at htile ⊢
      obtain ⟨a1,a2,a3,a4⟩ := BO g sz sh l h4 hsh hl r.2.2.1 r.2.2.2 p e hp he p' e' vs hr
      have hput := Vv w h hw0 r ht hw hh hwh vs all ha a3
      have hB : bq 200000 (k + 1) (B l,(w : Int),((pre.length : Nat) : Int),b,d,g,t,m0,m1,m2,s0,s1,s2,b,d,g,t,m0,m1,m2,s0,s1,s2,(sz : Int),T.map rc,nl all,B l,(p : Int),e) =
          if (e' != 0) = true then some (.inl (180,[])) else
            (bq 200000 k (B l,(w : Int),IntKind.wrap .i64 (((pre.length : Nat) : Int) + 1),b,d,g,t,m0,m1,m2,s0,s1,s2,b,d,g,t,m0,m1,m2,s0,s1,s2,(sz : Int),T.map rc,nl (eJ w r vs all (r.2.2.1 * r.2.2.2)),B l,(p' : Int),e')).bind fun r => match r with | .inl y => some (.inl y) | .inr y => some (.inr y) := by
        rw [hF]
        generalize bq 200000 k = G
        simp only [eH,ai]
        rw [aQ (by rw [List.length_map]; omega),if_pos (az (by rw [List.length_map]; omega)),Int.toNat_natCast,yq T pre r rest hs,Option.bind_some,if_pos (az (by rw [List.length_map]; omega)),Option.bind_some]
        simp only [rc]
        rw [htile]
        simp only [Option.bind_some,Bool.not_true,Bool.false_eq_true,if_false]
        rw [if_pos (az (by rw [List.length_map]; omega)),hput]
        rfl
      rw [hB]
      by_cases he0 : e' = 0
      · rw [if_neg (by simpa using he0),if_neg (by simpa using he0)]
        have ih := DT w h T hw1 hw hh hwh hT hTl rest (pre ++ [r]) p' k e' (eJ w r vs all (r.2.2.1 * r.2.2.2)) (by rw [hs]; simp) (by simp at hk; omega) a1 a2 (by rw [eP]; exact ha) (Iu w r vs all _ a4 ha32)
        rw [ba (by omega) (by omega),show ((pre.length : Nat) : Int) + 1 = (((pre ++ [r]).length : Nat) : Int) by simp]
        cases hu : vg g sz sh l w rest p' e' (eJ w r vs all (r.2.2.1 * r.2.2.2)) with
        | none =>
          rw [hu] at ih
          simp only at ih ⊢
          rw [ih]; rfl
        | some y =>
          rw [hu] at ih
          simp only at ih ⊢
          rw [ih]; rfl
      · rw [if_pos he0,if_pos (by simpa using he0)]
end
end Go.Proofs.YtfcamlibbfnldaaGreat.Am
set_option maxRecDepth 100000
namespace Go.Proofs.YtfcamlibbfnldaaGreat.Am
open Go.Am
section
variable (b d : Int) (g t : Bool) (m0 m1 m2 s0 s1 s2 : Int)
theorem SR (n : Nat) : nl ((List.replicate n 0).map (dw m0 m1 m2 s0 s1 s2)) = List.replicate n 0 := by
  rw [List.map_replicate,Qg]
  unfold nl
  rw [List.map_replicate]
  rfl
theorem Px (n : Nat) : nl (List.replicate n 0) = List.replicate n 0 := by
  unfold nl
  rw [List.map_replicate]
  rfl
theorem BL (hv : qp b d t m0 m1 m2 s0 s1 s2 = true) (w h : Nat) (hw : w ≤ 4096) (hh : h ≤ 4096) (hwh : w * h ≤ 5000) (l : List UInt8) (hl : l.length ≤ 3000) :
    ∃ r : Int × List Int,Oy 200000 (b,d,g,t,m0,m1,m2,s0,s1,s2,(w : Int),(h : Int),B l) = some r ∧ VU 200000 (b,d,g,t,m0,m1,m2,s0,s1,s2,(w : Int),(h : Int),B l) = some r ∧ r.2.length ≤ 5000 := by
  have h37 := qc b d g t m0 m1 m2 s0 s1 s2 hv
  have h87 := qb b d g t m0 m1 m2 s0 s1 s2 hv
  obtain ⟨c1,c2,c3⟩ := Qf b d (fw b d t m0 m1 m2 s0 s1 s2 hv).1 (ow m0 m1 m2 s0 s1 s2)
  generalize (IB b d (ow m0 m1 m2 s0 s1 s2)).1 = sz at *
  generalize (IB b d (ow m0 m1 m2 s0 s1 s2)).2 = sh at *
  have hf : fits b d t m0 m1 m2 s0 s1 s2 (w : Int) (h : Int) = true := by
    unfold fits
    rw [hv,decide_eq_true (show (0 : Int) ≤ (w : Int) by omega),decide_eq_true (show (w : Int) ≤ 4096 by omega),decide_eq_true (show (0 : Int) ≤ (h : Int) by omega),decide_eq_true (show (h : Int) ≤ 4096 by omega)]
    rfl
  have ew : IntKind.wrap .i64 ((w : Int) * (h : Int)) = ((w * h : Nat) : Int) := by rw [show (w : Int) * (h : Int) = ((w * h : Nat) : Int) by simp,ba (by omega) (by omega)]
  obtain ⟨hT,hTl⟩ := LC w h
  have hw1 : bu w h ≠ [] → 1 ≤ w := by
    intro hne
    rcases Nat.lt_or_ge w 1 with h0 | h0
    · exact absurd (show bu w h = [] by unfold bu; rw [if_pos (.inl h0)]) hne
    · exact h0
  have h0 : ∀ v ∈ List.replicate (w * h) 0,v < 4294967296 := fun v hv => by rw [(List.mem_replicate.1 hv).2]; decide
  have o := DU b d g t m0 m1 m2 s0 s1 s2 sz sh l hv h37 h87 c1 c2 c3 (by omega) w h hw hh hwh (bu w h) hT (by omega) (bu w h) [] 0 200000 0 (List.replicate (w * h) 0) rfl (by omega) (by omega) (.inl rfl) (by simp) h0
  have r := DT b d g t m0 m1 m2 s0 s1 s2 sz sh l hv h37 h87 c1 c2 c3 (by omega) w h (bu w h) hw1 hw hh hwh hT (by omega) (bu w h) [] 0 200000 0 (List.replicate (w * h) 0) rfl (by omega) (by omega) (.inl rfl) (by simp) h0
  rw [SR] at o
  rw [Px] at r
  cases hu : vg g sz sh l w (bu w h) 0 0 (List.replicate (w * h) 0) with
  | none =>
    rw [hu] at o r
    simp only at o r
    have o' : bS 200000 200000 ((w : Int),0,(((bu w h).length : Nat) : Int),b,d,g,t,m0,m1,m2,s0,s1,s2,List.replicate (w * h) 0,(bu w h).map rc,b,d,g,t,m0,m1,m2,s0,s1,s2,(sz : Int),B l,0,0) = _ := o
    have r' : bq 200000 200000 (B l,(w : Int),0,b,d,g,t,m0,m1,m2,s0,s1,s2,b,d,g,t,m0,m1,m2,s0,s1,s2,(sz : Int),(bu w h).map rc,List.replicate (w * h) 0,B l,0,0) = _ := r
    refine ⟨(180,[]),?_,?_,by simp⟩
    · simp only [Oy,F81,ai]
      rw [mS,Option.bind_some,hf]
      simp only [Bool.not_true,Bool.false_eq_true,if_false]
      rw [h37,Option.bind_some,Option.bind_some,ew]
      simp only
      rw [aQ (by omega),pd w h hw hh,Option.bind_some,List.length_map,Int.toNat_natCast,o',Option.bind_some]
    · simp only [VU,ai]
      rw [jp,Option.bind_some,hf]
      simp only [Bool.not_true,Bool.false_eq_true,if_false]
      rw [h87,Option.bind_some,pe w h hw hh,Option.bind_some,ew]
      simp only
      rw [aQ (by omega),Int.toNat_natCast,r',Option.bind_some]
  | some y =>
    obtain ⟨p',e',all'⟩ := y
    rw [hu] at o r
    simp only at o r
    obtain ⟨o1,hp',he',hlen,h32⟩ := o
    have o' : bS 200000 200000 ((w : Int),0,(((bu w h).length : Nat) : Int),b,d,g,t,m0,m1,m2,s0,s1,s2,List.replicate (w * h) 0,(bu w h).map rc,b,d,g,t,m0,m1,m2,s0,s1,s2,(sz : Int),B l,0,0) = _ := o1
    have r' : bq 200000 200000 (B l,(w : Int),0,b,d,g,t,m0,m1,m2,s0,s1,s2,b,d,g,t,m0,m1,m2,s0,s1,s2,(sz : Int),(bu w h).map rc,List.replicate (w * h) 0,B l,0,0) = _ := r
    have ho : Oy 200000 (b,d,g,t,m0,m1,m2,s0,s1,s2,(w : Int),(h : Int),B l) = if decide (IntKind.wrap .i64 (((B l).size : Int) - (p' : Int)) > 0) = true then some (3,[]) else some (0,nl (all'.map (dw m0 m1 m2 s0 s1 s2))) := by
      simp only [Oy,F81,ai]
      rw [mS,Option.bind_some,hf]
      simp only [Bool.not_true,Bool.false_eq_true,if_false]
      rw [h37,Option.bind_some,Option.bind_some,ew]
      simp only
      rw [aQ (by omega),pd w h hw hh,Option.bind_some,List.length_map,Int.toNat_natCast,o',Option.bind_some]
      rfl
    have hr : VU 200000 (b,d,g,t,m0,m1,m2,s0,s1,s2,(w : Int),(h : Int),B l) = if decide ((p' : Int) < ((B l).size : Int)) = true then some (3,[]) else some (0,nl (all'.map (dw m0 m1 m2 s0 s1 s2))) := by
      simp only [VU,ai]
      rw [jp,Option.bind_some,hf]
      simp only [Bool.not_true,Bool.false_eq_true,if_false]
      rw [h87,Option.bind_some,pe w h hw hh,Option.bind_some,ew]
      simp only
      rw [aQ (by omega),Int.toNat_natCast,r',Option.bind_some]
      simp only
      rw [Q3 b d g t m0 m1 m2 s0 s1 s2 hv all' (by omega) h32,Option.bind_some]
    rw [ho,hr,a8,ba (by omega) (by omega)]
    by_cases hlt : p' < l.length
    · rw [aQ (by omega),aQ (by omega)]
      exact ⟨_,rfl,rfl,by simp⟩
    · rw [aZ (by omega),aZ (by omega)]
      exact ⟨_,rfl,rfl,by rw [ap,List.length_map]; omega⟩
theorem NB (w h : Int) : ∃ r,F32 200000 (b,d,g,t,m0,m1,m2,s0,s1,s2,w,h) = some r ∧ F33 200000 (b,d,g,t,m0,m1,m2,s0,s1,s2,w,h) = some r := by
  simp only [F32,F33,ai]
  rw [mS,jp,Option.bind_some,Option.bind_some]
  cases hf : fits b d t m0 m1 m2 s0 s1 s2 w h with
  | false => exact ⟨0,rfl,rfl⟩
  | true =>
    unfold fits at hf
    simp only [Bool.and_eq_true,decide_eq_true_eq] at hf
    obtain ⟨hv,⟨w0,w1⟩,h0,h1⟩ := hf
    obtain ⟨w',rfl⟩ := nZ w0
    obtain ⟨h',rfl⟩ := nZ h0
    simp only [Bool.not_true,Bool.false_eq_true,if_false]
    rw [qc b d g t m0 m1 m2 s0 s1 s2 hv,qb b d g t m0 m1 m2 s0 s1 s2 hv,pd w' h' (by omega) (by omega),pe w' h' (by omega) (by omega)]
    exact ⟨_,rfl,rfl⟩
theorem Iv (w h : Int) (l : List UInt8) (hl : l.length ≤ 3000) (hc : fits b d t m0 m1 m2 s0 s1 s2 w h = true → ∃ w' h' : Nat,w = (w' : Int) ∧ h = (h' : Int) ∧ w' ≤ 4096 ∧ h' ≤ 4096 ∧ w' * h' ≤ 5000) :
    xx 200000 (B l,true,w,h,b,d,g,t,m0,m1,m2,s0,s1,s2) = some true := by
  obtain ⟨r,e1,e2⟩ := NB b d g t m0 m1 m2 s0 s1 s2 w h
  have key : ∃ y : Int × List Int,Oy 200000 (b,d,g,t,m0,m1,m2,s0,s1,s2,w,h,B l) = some y ∧ VU 200000 (b,d,g,t,m0,m1,m2,s0,s1,s2,w,h,B l) = some y ∧ y.2.length ≤ 5000 := by
    cases hf : fits b d t m0 m1 m2 s0 s1 s2 w h with
    | false =>
      refine ⟨(1,[]),?_,?_,by simp⟩
      · simp only [Oy,ai]
        rw [mS,Option.bind_some,hf]
        rfl
      · simp only [VU,ai]
        rw [jp,Option.bind_some,hf]
        rfl
    | true =>
      obtain ⟨w',h',rfl,rfl,hw,hh,hwh⟩ := hc hf
      have hv : qp b d t m0 m1 m2 s0 s1 s2 = true := by
        unfold fits at hf
        simp only [Bool.and_eq_true] at hf
        exact hf.1
      exact BL b d g t m0 m1 m2 s0 s1 s2 hv w' h' hw hh hwh l hl
  obtain ⟨y,k1,k2,k3⟩ := key
  simp only [xx,ai]
  rw [k1,Option.bind_some,k2,Option.bind_some,Rl _ (by omega),Option.bind_some]
  simp only [if_true,beq_self_eq_true]
  rw [e1,Option.bind_some,e2,Option.bind_some]
  simp
theorem aJ9 (wk : F26 200000 () = some true) (w h : Int) (s : ByteArray) : F7 200000 (b,d,g,t,m0,m1,m2,s0,s1,s2,w,h,s) = some true := by
  simp only [F7,ai]
  rw [wk,Option.bind_some]
  simp only [Bool.not_true,Bool.false_eq_true,if_false]
  by_cases hs : s.size ≤ 3000
  · rw [aZ (by omega),jp,Option.bind_some]
    rw [am0 s] at hs ⊢
    generalize s.data.toList = l at *
    rw [a8] at hs
    cases hf : fits b d t m0 m1 m2 s0 s1 s2 w h with
    | false =>
      simp only [Bool.false_eq_true,if_false]
      rw [Iv b d g t m0 m1 m2 s0 s1 s2 w h l hs (fun x => by rw [hf] at x; cases x),Option.bind_some]
    | true =>
      have hf' := hf
      unfold fits at hf'
      simp only [Bool.and_eq_true,decide_eq_true_eq] at hf'
      obtain ⟨hv,⟨w0,w1⟩,h0,h1⟩ := hf'
      obtain ⟨w',rfl⟩ := nZ w0
      obtain ⟨h',rfl⟩ := nZ h0
      have hm : w' * h' ≤ 4096 * 4096 := Nat.mul_le_mul (by omega) (by omega)
      have hsm : F28 200000 ((w' : Int),(h' : Int)) = some (decide (w' * h' ≤ 5000)) := by
        simp only [F28,ai]
        rw [aQ (by omega),aQ (by omega),aQ (by omega),aQ (by omega),show (w' : Int) * (h' : Int) = ((w' * h' : Nat) : Int) by simp,ba (by omega) (by omega)]
        by_cases hq : w' * h' ≤ 5000
        · rw [decide_eq_true hq,decide_eq_true (by omega)]
        · rw [decide_eq_false hq,decide_eq_false (by omega)]
      simp only [if_true]
      rw [hsm,Option.bind_some]
      by_cases hq : w' * h' ≤ 5000
      · rw [decide_eq_true hq]
        simp only [Bool.not_true,Bool.false_eq_true,if_false]
        rw [Iv b d g t m0 m1 m2 s0 s1 s2 _ _ l hs (fun _ => ⟨w',h',rfl,rfl,by omega,by omega,hq⟩),Option.bind_some]
      · rw [decide_eq_false hq]
        rfl
  · rw [aQ (by omega)]
end
end Go.Proofs.YtfcamlibbfnldaaGreat.Am
