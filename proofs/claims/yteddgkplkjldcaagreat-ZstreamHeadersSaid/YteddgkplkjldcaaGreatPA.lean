/- Bits, codes and searches: what the seat's functions compute, in plain lists. -/
import Derived.Test.YteddgkplkjldcaaGreatSC
import Derived.Test.YteddgkplkjldcaaGreatSB
import Derived.Test.YteddgkplkjldcaaGreatAmC
namespace Go.Proofs.YteddgkplkjldcaaGreat.Am
open Go.Am
theorem works34a : F37 200000 (ByteArray.mk #[97, 98, 99], false, ByteArray.mk #[]) = some (ByteArray.mk #[120, 156, 74, 76, 74, 6, 0, 0, 0, 255, 255], true, ByteArray.mk #[97, 98, 99]) := by kernel_rfl
theorem works34b : F42 200000 (ByteArray.mk #[120, 156, 74, 76, 74, 6, 0, 0, 0, 255, 255], 9, false, ByteArray.mk #[], 0) = some (ByteArray.mk #[97, 98, 99], 0, true, ByteArray.mk #[97, 98, 99], 0) := by kernel_rfl
theorem works34c : F37 200000 (ByteArray.mk #[97, 98, 99, 97, 98, 99], true, ByteArray.mk #[97, 98, 99]) = some (ByteArray.mk #[130, 32, 0, 0, 0, 0, 255, 255], true, ByteArray.mk #[97, 98, 99, 97, 98, 99, 97, 98, 99]) := by kernel_rfl
theorem works34d : F42 200000 (ByteArray.mk #[130, 32, 0, 0, 0, 0, 255, 255], 9, true, ByteArray.mk #[97, 98, 99], 0) = some (ByteArray.mk #[97, 98, 99, 97, 98, 99], 0, true, ByteArray.mk #[97, 98, 99, 97, 98, 99, 97, 98, 99], 0) := by kernel_rfl
theorem works34e : F39 200000 (ByteArray.mk #[97, 98, 99]) = some (ByteArray.mk #[120, 156, 75, 76, 74, 6, 0, 2, 77, 1, 39]) := by kernel_rfl
theorem works34f : F76 200000 (ByteArray.mk #[120, 156, 75, 76, 74, 6, 0, 2, 77, 1, 39, 120], 9) = some (ByteArray.mk #[97, 98, 99], 11, 0) := by kernel_rfl
theorem works34g : F35 200000 (ByteArray.mk #[120, 156]) = some 0 := by kernel_rfl
theorem works34h : F35 200000 (ByteArray.mk #[120, 157]) = some 100 := by kernel_rfl
theorem works34i : ByteArray.mk #[120, 156, 75, 76, 74, 6, 0, 2, 77, 1, 39] ++ ByteArray.mk #[120] = ByteArray.mk #[120, 156, 75, 76, 74, 6, 0, 2, 77, 1, 39, 120] := by kernel_rfl
theorem works34 : F34 200000 () = some true := by
  simp only [F34]
  rw [works34a, Option.bind_some, works34b, Option.bind_some, works34c, Option.bind_some]
  simp only
  rw [works34d, Option.bind_some, works34e, Option.bind_some]
  rw [works34i, works34f, Option.bind_some, works34g, Option.bind_some, works34h, Option.bind_some]
  kernel_rfl
def clampN (b : Int) : Nat := min b.toNat 32
theorem byte_at (s : ByteArray) (i : Nat) (h : i < s.size) : s[i]? = some (s.data.toList.getD i 0) := by
  have h' : i < s.data.toList.length := by simpa using h
  rw [getElem?_pos s i h]
  congr 1
  have h2 : i < s.data.size := h
  simp only [List.getD, ByteArray.getElem_eq_getElem_data, Array.getElem?_toList]
  rw [Array.getElem?_eq_getElem h2]; rfl
def allF (m : List Bool) : List Int := bytesF ((m.length + 7) / 8) m
def strF (m : List Bool) : ByteArray := stringOf (allF m)
def bitsOf (l : List UInt8) : List Bool := l.flatMap fun x => bitsN 8 x.toNat
def allB (s : ByteArray) : List Bool := bitsOf s.data.toList
theorem bitsOf_length : ∀ l : List UInt8, (bitsOf l).length = 8 * l.length
  | [] => rfl
  | x :: l => by
    unfold bitsOf
    rw [List.flatMap_cons, List.length_append, bitsN_length]
    have := bitsOf_length l
    unfold bitsOf at this
    rw [this, List.length_cons]; omega
theorem allB_length (s : ByteArray) : (allB s).length = 8 * s.size := by
  unfold allB; rw [bitsOf_length]; simp
theorem val_bits8 (x : UInt8) : val (bitsN 8 x.toNat) = x.toNat := by
  have := x.toNat_lt
  rw [val_bitsN, Nat.mod_eq_of_lt (by omega)]
theorem bytesF_bitsOf : ∀ l : List UInt8, bytesF l.length (bitsOf l) = l.map fun x => (x.toNat : Int)
  | [] => rfl
  | x :: l => by
    have e : bitsOf (x :: l) = bitsN 8 x.toNat ++ bitsOf l := by unfold bitsOf; rw [List.flatMap_cons]
    rw [List.length_cons, bytesF, e, List.take_left' (bitsN_length ..), List.drop_left' (bitsN_length ..), val_bits8, bytesF_bitsOf l]
    rfl
theorem toList_data (s : ByteArray) : s.toList = s.data.toList := by
  exact ByteArray.toList_eq s
theorem bytesOf_eq (s : ByteArray) : bytesOf s = s.data.toList.map fun x => (x.toNat : Int) := by
  unfold bytesOf; rw [toList_data]
abbrev Act := Int × (Int × (Int × (ByteArray × Unit)))
def first (lens : List Int) : Nat → Nat
  | 0 => 0
  | 1 => 0
  | l + 2 => 2 * (first lens (l + 1) + lens.count ((l + 1 : Nat) : Int))
def before (lens : List Int) : Nat → Nat
  | 0 => 0
  | 1 => 0
  | l + 2 => first lens (l + 1) + lens.count ((l + 1 : Nat) : Int)
def rd (L : List Bool) (p : Nat) (e n : Int) : Nat × Nat × Int :=
  if e = 0 then (if p + clampN n ≤ L.length then (val ((L.drop p).take (clampN n)), p + clampN n, 0) else (0, p, 2)) else (0, p, e)
end Go.Proofs.YteddgkplkjldcaaGreat.Am
