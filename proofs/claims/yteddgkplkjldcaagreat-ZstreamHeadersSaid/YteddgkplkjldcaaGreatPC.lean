/- Tokens written and read, and what they make: the Lean function that DeflateCoded comes to answers true at every input. -/
import Derived.Test.YteddgkplkjldcaaGreatSB
import Derived.Test.YteddgkplkjldcaaGreatAmC
import Derived.Test.YteddgkplkjldcaaGreatPA
import Derived.Test.YteddgkplkjldcaaGreatPB
namespace Go.Proofs.YteddgkplkjldcaaGreat.Am
open Go.Am
set_option linter.unusedSimpArgs false
set_option linter.unusedVariables false
def ofT (lb lx : List Int) (sym first : Int) : Int × Int := if sym < first ∨ sym - first ≥ lb.length then (0, 0) else (lb.getD (sym - first).toNat 0, lx.getD (sym - first).toNat 0)
abbrev Tok := Int × (Int × (Int × Unit))
def inT (n a b : Int) : Bool := decide (a ≤ n) && decide (n ≤ b)
def validT (b l d : Int) : Bool := if l = 0 then (decide (d = 0) && inT b 0 255) else (decide (b = 0) && (inT l 3 258 && inT d 1 32768))
structure CntAt (a : List Int) (n k : Nat) (S : Nat → Prop) : Prop where
  len : a.length = n
  nn : ∀ s, s < n → 0 ≤ a.getD s 0 ∧ a.getD s 0 ≤ (k : Int)
  iff : ∀ s, s < n → (0 < a.getD s 0 ↔ S s)
theorem CntAt.mono {a : List Int} {n k k' : Nat} {S S' : Nat → Prop} (h : CntAt a n k S) (hk : k ≤ k') (hS : ∀ s, s < n → (S s ↔ S' s)) : CntAt a n k' S' :=
  ⟨h.len, fun s hs => by have := h.nn s hs; omega, fun s hs => (h.iff s hs).trans (hS s hs)⟩
def validAll (l : List Tok) : Bool := l.all fun t => validT t.1 t.2.1 t.2.2.1
def madeT (t : Tok) : Nat := if t.2.1 = 0 then 1 else t.2.1.toNat
def made (l : List Tok) : Nat := (l.map madeT).sum
def copyN (D : Nat) : Nat → List Int → List Int
  | 0, o => o
  | k + 1, o => copyN D k (o ++ [o.getD (o.length - D) 0])
def expT (o : List Int) (t : Tok) : Option (List Int) :=
  if t.2.1 = 0 then some (o ++ [t.1]) else if (o.length : Int) < t.2.2.1 then none else some (copyN t.2.2.1.toNat t.2.1.toNat o)
def expL : List Int → List Tok → Option (List Int)
  | o, [] => some o
  | o, t :: l => match expT o t with
    | some p => expL p l
    | none => none
end Go.Proofs.YteddgkplkjldcaaGreat.Am
