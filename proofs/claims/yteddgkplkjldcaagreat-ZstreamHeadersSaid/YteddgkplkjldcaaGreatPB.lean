/- Best lengths; headers written and read: the Lean function that DeflateLengths comes to answers true at every input. -/
import Derived.Test.YteddgkplkjldcaaGreatAmA
import Derived.Test.YteddgkplkjldcaaGreatPA
import Derived.Test.YteddgkplkjldcaaGreatSB
import Derived.Test.YteddgkplkjldcaaGreatAmC
namespace Go.Am
set_option linter.unusedSimpArgs false
set_option linter.unusedVariables false
abbrev Bun := Int × (List Int × Unit)
def insB (x : Bun) : List Bun → List Bun
  | [] => [x]
  | y :: l => if x.1 ≤ y.1 then x :: y :: l else y :: insB x l
def isort : List Bun → List Bun
  | [] => []
  | x :: l => insB x (isort l)
def pairs : List Bun → List Bun
  | x :: y :: l => (x.1 + y.1, x.2.1 ++ y.2.1, ()) :: pairs l
  | _ => []
end Go.Am
namespace Go.Am
set_option linter.unusedSimpArgs false
set_option linter.unusedVariables false
end Go.Am
namespace Go.Am
set_option linter.unusedSimpArgs false
set_option linter.unusedVariables false
end Go.Am
namespace Go.Am
set_option linter.unusedSimpArgs false
set_option linter.unusedVariables false
end Go.Am
namespace Go.Am
set_option linter.unusedSimpArgs false
set_option linter.unusedVariables false
end Go.Am
namespace Go.Am
set_option linter.unusedSimpArgs false
set_option linter.unusedVariables false
end Go.Am
namespace Go.Proofs.YteddgkplkjldcaaGreat.Am
open Go.Am
set_option linter.unusedSimpArgs false
set_option linter.unusedVariables false
end Go.Proofs.YteddgkplkjldcaaGreat.Am
namespace Go.Proofs.YteddgkplkjldcaaGreat.Am
open Go.Am
set_option linter.unusedSimpArgs false
set_option linter.unusedVariables false
end Go.Proofs.YteddgkplkjldcaaGreat.Am
namespace Go.Proofs.YteddgkplkjldcaaGreat.Am
open Go.Am
set_option linter.unusedSimpArgs false
set_option linter.unusedVariables false
end Go.Proofs.YteddgkplkjldcaaGreat.Am
namespace Go.Proofs.YteddgkplkjldcaaGreat.Am
open Go.Am
set_option linter.unusedSimpArgs false
set_option linter.unusedVariables false
def blk (bs : Nat) : Nat → List Bun → List Bun
  | 0, _ => []
  | k + 1, L => isort (L.take bs) ++ blk bs k (L.drop bs)
end Go.Proofs.YteddgkplkjldcaaGreat.Am
namespace Go.Proofs.YteddgkplkjldcaaGreat.Am
open Go.Am
set_option linter.unusedSimpArgs false
set_option linter.unusedVariables false
end Go.Proofs.YteddgkplkjldcaaGreat.Am
namespace Go.Proofs.YteddgkplkjldcaaGreat.Am
open Go.Am
set_option linter.unusedSimpArgs false
set_option linter.unusedVariables false
end Go.Proofs.YteddgkplkjldcaaGreat.Am
namespace Go.Proofs.YteddgkplkjldcaaGreat.Am
open Go.Am
set_option linter.unusedSimpArgs false
set_option linter.unusedVariables false
end Go.Proofs.YteddgkplkjldcaaGreat.Am
namespace Go.Proofs.YteddgkplkjldcaaGreat.Am
open Go.Am
set_option linter.unusedSimpArgs false
set_option linter.unusedVariables false
abbrev Sym := Int × (Int × (Int × Unit))
def runTo (L : List Int) (i most : Nat) : Nat → Nat → Nat
  | 0, n => n
  | d + 1, n => if n < most ∧ i + n < L.length ∧ L.getD (i + n) 0 = L.getD i 0 then runTo L i most d (n + 1) else n
def runN (L : List Int) (i : Nat) : Nat := runTo L i 138 138 1
def pk1 (L : List Int) (i : Nat) : Sym × Nat :=
  if L.getD i 0 = 0 ∧ 10 < runN L i then ((18, 7, ((runN L i : Nat) : Int) - 11, ()), runN L i)
  else if L.getD i 0 = 0 ∧ 2 < runN L i then ((17, 3, ((runN L i : Nat) : Int) - 3, ()), runN L i)
  else if (0 < i ∧ L.getD i 0 = L.getD (i - 1) 0) ∧ 2 < runN L i then ((16, 2, ((min 6 (runN L i) : Nat) : Int) - 3, ()), min 6 (runN L i))
  else ((L.getD i 0, 0, 0, ()), 1)
end Go.Proofs.YteddgkplkjldcaaGreat.Am
namespace Go.Proofs.YteddgkplkjldcaaGreat.Am
open Go.Am
set_option linter.unusedSimpArgs false
set_option linter.unusedVariables false
theorem within_nat {i n : Nat} (h : i < n) : within (i : Int) n = true := by unfold within; simp only [decide_eq_true_eq]; omega
end Go.Proofs.YteddgkplkjldcaaGreat.Am
namespace Go.Proofs.YteddgkplkjldcaaGreat.Am
open Go.Am
set_option linter.unusedSimpArgs false
set_option linter.unusedVariables false
end Go.Proofs.YteddgkplkjldcaaGreat.Am
namespace Go.Proofs.YteddgkplkjldcaaGreat.Am
open Go.Am
set_option linter.unusedSimpArgs false
set_option linter.unusedVariables false
end Go.Proofs.YteddgkplkjldcaaGreat.Am
namespace Go.Proofs.YteddgkplkjldcaaGreat.Am
open Go.Am
set_option linter.unusedSimpArgs false
set_option linter.unusedVariables false
end Go.Proofs.YteddgkplkjldcaaGreat.Am
namespace Go.Proofs.YteddgkplkjldcaaGreat.Am
open Go.Am
set_option linter.unusedSimpArgs false
set_option linter.unusedVariables false
end Go.Proofs.YteddgkplkjldcaaGreat.Am
