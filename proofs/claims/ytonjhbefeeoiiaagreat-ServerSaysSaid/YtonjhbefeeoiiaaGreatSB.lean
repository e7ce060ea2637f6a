/- The seat's Go functions come to the Lean functions written here, wherever these give an answer (part B). -/
import Derived.Test.YtonjhbefeeoiiaaGreatSA
set_option linter.unusedSimpArgs false
set_option linter.unusedVariables false
set_option linter.unusedSectionVars false
set_option maxRecDepth 100000
namespace Go.Proofs.YtonjhbefeeoiiaaGreat.Am
open Go.Am
@[reducible] def s162 : SP := ⟨[.slp 0 .h .h, .int .i64, .int .i64, .int .i64], [.row (.int .i64) 3]⟩
@[reducible] def w162 : List SP := [⟨[.tup []], [.row (.int .i64) 3]⟩]
noncomputable def tab162 (N : Nat) (G : (Nat × Nat × Int × Int × Int × (List Int)) → Option ((List Int))) : List (Nat × (Pk → Tr Pk)) := [(162, tellS s162 w162 G), (172, T172 N), (173, T173 N), (174, T174 N), (175, T175 N), (176, T176 N), (177, T177 N), (178, T178 N), (179, T179 N), (180, T180 N)]
theorem tab162_ok (N : Nat) (G : (Nat × Nat × Int × Int × Int × (List Int)) → Option ((List Int))) (hG : FOK Tryz.prog 162 (tellS s162 w162 G)) : TabOK Tryz.prog (tab162 N G) := ⟨hG, T172_ok N, T173_ok N, T174_ok N, T175_ok N, T176_ok N, T177_ok N, T178_ok N, T179_ok N, T180_ok N, trivial⟩
@[reducible] def L162_14 : LD := ⟨14, [3, 8, 9, 0, 1, 2], [(.ret, [])], ⟨[.int .i64, .bool, .bool, .slp 0 .h .h, .int .i64, .int .i64], [.row (.int .i64) 3]⟩, [(.ret, ⟨[], [.row (.int .i64) 3]⟩)]⟩
abbrev P162_14 : Type := Int × Bool × Bool × Nat × Nat × Int × Int × (List Int)
abbrev R162_14 : Type := (List Int)
noncomputable def B162_14 (N : Nat) (G : (Nat × Nat × Int × Int × Int × (List Int)) → Option ((List Int))) (f : P162_14 → Option R162_14) : P162_14 → Option R162_14
  | (x0, x1, x2, x3, x4, x5, x6, x7) =>
  iteP (decide (IntKind.wrap IntKind.i64 (x6 - x5) ≤ (12 : Int))) (
    Option.bind (F172 N (x3, x4, x5, x6, x7)) fun y0 =>
    some (y0)) (
    iteP (x0 == (0 : Int)) (
      Option.bind (F173 N (x3, x4, x5, x6, x7)) fun y1 =>
      some (y1)) (
      iteP (!x1) (
        Option.bind (F174 N (x3, x4, x5, x6, x7)) fun y2 =>
        Option.bind (F175 N (List.take x4 (List.drop x3 y2), x5, x6)) fun y3 =>
        iteP (y3.2 == (2 : Int)) (
          Option.bind (F176 N (x3, x4, x5, x6, y2)) fun y4 =>
          iteP (x1) (
            iteP (x2) (
              Option.bind (F177 N (x3, x4, x5, x6, y4)) fun y5 =>
              iteP y5.1 (
                some y5.2) (
                iteP (decide (x5 > (0 : Int))) (
                  iteP (within (IntKind.wrap IntKind.i64 (x5 - (1 : Int))) x4) (
                    Option.bind (y5.2[x3 + Int.toNat (IntKind.wrap IntKind.i64 (x5 - (1 : Int)))]?) fun y6 =>
                    iteP (within (IntKind.wrap IntKind.i64 (IntKind.wrap IntKind.i64 (x6 - (1 : Int)) - IntKind.wrap IntKind.i64 (y3.1 - x5))) x4) (
                      Option.bind (y5.2[x3 + Int.toNat (IntKind.wrap IntKind.i64 (IntKind.wrap IntKind.i64 (x6 - (1 : Int)) - IntKind.wrap IntKind.i64 (y3.1 - x5)))]?) fun y7 =>
                      Option.bind (F178 N (y6, y7)) fun y8 =>
                      iteP (!y8) (
                        Option.bind (F179 N (x3, x4, x5, x6, IntKind.wrap IntKind.i64 (IntKind.wrap IntKind.i64 (x6 - (1 : Int)) - IntKind.wrap IntKind.i64 (y3.1 - x5)), y5.2)) fun y9 =>
                        Option.bind (f (IntKind.wrap IntKind.i64 (x0 - (1 : Int)), x1, x2, x3, x4, y9.1, x6, y9.2)) fun r => some r) (
                        Option.bind (F180 N (x3, x4, x5, x6, IntKind.wrap IntKind.i64 (IntKind.wrap IntKind.i64 (x6 - (1 : Int)) - IntKind.wrap IntKind.i64 (y3.1 - x5)), y5.2)) fun y10 =>
                        iteP (decide (IntKind.wrap IntKind.i64 (y10.1 - x5) < IntKind.wrap IntKind.i64 (x6 - y10.1))) (
                          Option.bind (G (x3, x4, x5, y10.1, IntKind.wrap IntKind.i64 (x0 - (1 : Int)), y10.2.2)) fun y11 =>
                          Option.bind (f (IntKind.wrap IntKind.i64 (x0 - (1 : Int)), decide (IntKind.wrap IntKind.i64 (y10.1 - x5) ≥ IntKind.wrap IntKind.i64 (Int.tdiv (IntKind.wrap IntKind.i64 (x6 - x5)) (8 : Int))), y10.2.1, x3, x4, IntKind.wrap IntKind.i64 (y10.1 + (1 : Int)), x6, y11)) fun r => some r) (
                          Option.bind (G (x3, x4, IntKind.wrap IntKind.i64 (y10.1 + (1 : Int)), x6, IntKind.wrap IntKind.i64 (x0 - (1 : Int)), y10.2.2)) fun y12 =>
                          Option.bind (f (IntKind.wrap IntKind.i64 (x0 - (1 : Int)), decide (IntKind.wrap IntKind.i64 (x6 - y10.1) ≥ IntKind.wrap IntKind.i64 (Int.tdiv (IntKind.wrap IntKind.i64 (x6 - x5)) (8 : Int))), y10.2.1, x3, x4, x5, y10.1, y12)) fun r => some r))) (
                      none )) (
                    none )) (
                  Option.bind (F180 N (x3, x4, x5, x6, IntKind.wrap IntKind.i64 (IntKind.wrap IntKind.i64 (x6 - (1 : Int)) - IntKind.wrap IntKind.i64 (y3.1 - x5)), y5.2)) fun y13 =>
                  iteP (decide (IntKind.wrap IntKind.i64 (y13.1 - x5) < IntKind.wrap IntKind.i64 (x6 - y13.1))) (
                    Option.bind (G (x3, x4, x5, y13.1, IntKind.wrap IntKind.i64 (x0 - (1 : Int)), y13.2.2)) fun y14 =>
                    Option.bind (f (IntKind.wrap IntKind.i64 (x0 - (1 : Int)), decide (IntKind.wrap IntKind.i64 (y13.1 - x5) ≥ IntKind.wrap IntKind.i64 (Int.tdiv (IntKind.wrap IntKind.i64 (x6 - x5)) (8 : Int))), y13.2.1, x3, x4, IntKind.wrap IntKind.i64 (y13.1 + (1 : Int)), x6, y14)) fun r => some r) (
                    Option.bind (G (x3, x4, IntKind.wrap IntKind.i64 (y13.1 + (1 : Int)), x6, IntKind.wrap IntKind.i64 (x0 - (1 : Int)), y13.2.2)) fun y15 =>
                    Option.bind (f (IntKind.wrap IntKind.i64 (x0 - (1 : Int)), decide (IntKind.wrap IntKind.i64 (x6 - y13.1) ≥ IntKind.wrap IntKind.i64 (Int.tdiv (IntKind.wrap IntKind.i64 (x6 - x5)) (8 : Int))), y13.2.1, x3, x4, x5, y13.1, y15)) fun r => some r)))) (
              iteP (decide (x5 > (0 : Int))) (
                iteP (within (IntKind.wrap IntKind.i64 (x5 - (1 : Int))) x4) (
                  Option.bind (y4[x3 + Int.toNat (IntKind.wrap IntKind.i64 (x5 - (1 : Int)))]?) fun y16 =>
                  iteP (within (IntKind.wrap IntKind.i64 (IntKind.wrap IntKind.i64 (x6 - (1 : Int)) - IntKind.wrap IntKind.i64 (y3.1 - x5))) x4) (
                    Option.bind (y4[x3 + Int.toNat (IntKind.wrap IntKind.i64 (IntKind.wrap IntKind.i64 (x6 - (1 : Int)) - IntKind.wrap IntKind.i64 (y3.1 - x5)))]?) fun y17 =>
                    Option.bind (F178 N (y16, y17)) fun y18 =>
                    iteP (!y18) (
                      Option.bind (F179 N (x3, x4, x5, x6, IntKind.wrap IntKind.i64 (IntKind.wrap IntKind.i64 (x6 - (1 : Int)) - IntKind.wrap IntKind.i64 (y3.1 - x5)), y4)) fun y19 =>
                      Option.bind (f (IntKind.wrap IntKind.i64 (x0 - (1 : Int)), x1, x2, x3, x4, y19.1, x6, y19.2)) fun r => some r) (
                      Option.bind (F180 N (x3, x4, x5, x6, IntKind.wrap IntKind.i64 (IntKind.wrap IntKind.i64 (x6 - (1 : Int)) - IntKind.wrap IntKind.i64 (y3.1 - x5)), y4)) fun y20 =>
                      iteP (decide (IntKind.wrap IntKind.i64 (y20.1 - x5) < IntKind.wrap IntKind.i64 (x6 - y20.1))) (
                        Option.bind (G (x3, x4, x5, y20.1, IntKind.wrap IntKind.i64 (x0 - (1 : Int)), y20.2.2)) fun y21 =>
                        Option.bind (f (IntKind.wrap IntKind.i64 (x0 - (1 : Int)), decide (IntKind.wrap IntKind.i64 (y20.1 - x5) ≥ IntKind.wrap IntKind.i64 (Int.tdiv (IntKind.wrap IntKind.i64 (x6 - x5)) (8 : Int))), y20.2.1, x3, x4, IntKind.wrap IntKind.i64 (y20.1 + (1 : Int)), x6, y21)) fun r => some r) (
                        Option.bind (G (x3, x4, IntKind.wrap IntKind.i64 (y20.1 + (1 : Int)), x6, IntKind.wrap IntKind.i64 (x0 - (1 : Int)), y20.2.2)) fun y22 =>
                        Option.bind (f (IntKind.wrap IntKind.i64 (x0 - (1 : Int)), decide (IntKind.wrap IntKind.i64 (x6 - y20.1) ≥ IntKind.wrap IntKind.i64 (Int.tdiv (IntKind.wrap IntKind.i64 (x6 - x5)) (8 : Int))), y20.2.1, x3, x4, x5, y20.1, y22)) fun r => some r))) (
                    none )) (
                  none )) (
                Option.bind (F180 N (x3, x4, x5, x6, IntKind.wrap IntKind.i64 (IntKind.wrap IntKind.i64 (x6 - (1 : Int)) - IntKind.wrap IntKind.i64 (y3.1 - x5)), y4)) fun y23 =>
                iteP (decide (IntKind.wrap IntKind.i64 (y23.1 - x5) < IntKind.wrap IntKind.i64 (x6 - y23.1))) (
                  Option.bind (G (x3, x4, x5, y23.1, IntKind.wrap IntKind.i64 (x0 - (1 : Int)), y23.2.2)) fun y24 =>
                  Option.bind (f (IntKind.wrap IntKind.i64 (x0 - (1 : Int)), decide (IntKind.wrap IntKind.i64 (y23.1 - x5) ≥ IntKind.wrap IntKind.i64 (Int.tdiv (IntKind.wrap IntKind.i64 (x6 - x5)) (8 : Int))), y23.2.1, x3, x4, IntKind.wrap IntKind.i64 (y23.1 + (1 : Int)), x6, y24)) fun r => some r) (
                  Option.bind (G (x3, x4, IntKind.wrap IntKind.i64 (y23.1 + (1 : Int)), x6, IntKind.wrap IntKind.i64 (x0 - (1 : Int)), y23.2.2)) fun y25 =>
                  Option.bind (f (IntKind.wrap IntKind.i64 (x0 - (1 : Int)), decide (IntKind.wrap IntKind.i64 (x6 - y23.1) ≥ IntKind.wrap IntKind.i64 (Int.tdiv (IntKind.wrap IntKind.i64 (x6 - x5)) (8 : Int))), y23.2.1, x3, x4, x5, y23.1, y25)) fun r => some r)))) (
            iteP (decide (x5 > (0 : Int))) (
              iteP (within (IntKind.wrap IntKind.i64 (x5 - (1 : Int))) x4) (
                Option.bind (y4[x3 + Int.toNat (IntKind.wrap IntKind.i64 (x5 - (1 : Int)))]?) fun y26 =>
                iteP (within (IntKind.wrap IntKind.i64 (IntKind.wrap IntKind.i64 (x6 - (1 : Int)) - IntKind.wrap IntKind.i64 (y3.1 - x5))) x4) (
                  Option.bind (y4[x3 + Int.toNat (IntKind.wrap IntKind.i64 (IntKind.wrap IntKind.i64 (x6 - (1 : Int)) - IntKind.wrap IntKind.i64 (y3.1 - x5)))]?) fun y27 =>
                  Option.bind (F178 N (y26, y27)) fun y28 =>
                  iteP (!y28) (
                    Option.bind (F179 N (x3, x4, x5, x6, IntKind.wrap IntKind.i64 (IntKind.wrap IntKind.i64 (x6 - (1 : Int)) - IntKind.wrap IntKind.i64 (y3.1 - x5)), y4)) fun y29 =>
                    Option.bind (f (IntKind.wrap IntKind.i64 (x0 - (1 : Int)), x1, x2, x3, x4, y29.1, x6, y29.2)) fun r => some r) (
                    Option.bind (F180 N (x3, x4, x5, x6, IntKind.wrap IntKind.i64 (IntKind.wrap IntKind.i64 (x6 - (1 : Int)) - IntKind.wrap IntKind.i64 (y3.1 - x5)), y4)) fun y30 =>
                    iteP (decide (IntKind.wrap IntKind.i64 (y30.1 - x5) < IntKind.wrap IntKind.i64 (x6 - y30.1))) (
                      Option.bind (G (x3, x4, x5, y30.1, IntKind.wrap IntKind.i64 (x0 - (1 : Int)), y30.2.2)) fun y31 =>
                      Option.bind (f (IntKind.wrap IntKind.i64 (x0 - (1 : Int)), decide (IntKind.wrap IntKind.i64 (y30.1 - x5) ≥ IntKind.wrap IntKind.i64 (Int.tdiv (IntKind.wrap IntKind.i64 (x6 - x5)) (8 : Int))), y30.2.1, x3, x4, IntKind.wrap IntKind.i64 (y30.1 + (1 : Int)), x6, y31)) fun r => some r) (
                      Option.bind (G (x3, x4, IntKind.wrap IntKind.i64 (y30.1 + (1 : Int)), x6, IntKind.wrap IntKind.i64 (x0 - (1 : Int)), y30.2.2)) fun y32 =>
                      Option.bind (f (IntKind.wrap IntKind.i64 (x0 - (1 : Int)), decide (IntKind.wrap IntKind.i64 (x6 - y30.1) ≥ IntKind.wrap IntKind.i64 (Int.tdiv (IntKind.wrap IntKind.i64 (x6 - x5)) (8 : Int))), y30.2.1, x3, x4, x5, y30.1, y32)) fun r => some r))) (
                  none )) (
                none )) (
              Option.bind (F180 N (x3, x4, x5, x6, IntKind.wrap IntKind.i64 (IntKind.wrap IntKind.i64 (x6 - (1 : Int)) - IntKind.wrap IntKind.i64 (y3.1 - x5)), y4)) fun y33 =>
              iteP (decide (IntKind.wrap IntKind.i64 (y33.1 - x5) < IntKind.wrap IntKind.i64 (x6 - y33.1))) (
                Option.bind (G (x3, x4, x5, y33.1, IntKind.wrap IntKind.i64 (x0 - (1 : Int)), y33.2.2)) fun y34 =>
                Option.bind (f (IntKind.wrap IntKind.i64 (x0 - (1 : Int)), decide (IntKind.wrap IntKind.i64 (y33.1 - x5) ≥ IntKind.wrap IntKind.i64 (Int.tdiv (IntKind.wrap IntKind.i64 (x6 - x5)) (8 : Int))), y33.2.1, x3, x4, IntKind.wrap IntKind.i64 (y33.1 + (1 : Int)), x6, y34)) fun r => some r) (
                Option.bind (G (x3, x4, IntKind.wrap IntKind.i64 (y33.1 + (1 : Int)), x6, IntKind.wrap IntKind.i64 (x0 - (1 : Int)), y33.2.2)) fun y35 =>
                Option.bind (f (IntKind.wrap IntKind.i64 (x0 - (1 : Int)), decide (IntKind.wrap IntKind.i64 (x6 - y33.1) ≥ IntKind.wrap IntKind.i64 (Int.tdiv (IntKind.wrap IntKind.i64 (x6 - x5)) (8 : Int))), y33.2.1, x3, x4, x5, y33.1, y35)) fun r => some r)))) (
          iteP (x1) (
            iteP (x2) (
              iteP (y3.2 == (1 : Int)) (
                Option.bind (F177 N (x3, x4, x5, x6, y2)) fun y36 =>
                iteP y36.1 (
                  some y36.2) (
                  iteP (decide (x5 > (0 : Int))) (
                    iteP (within (IntKind.wrap IntKind.i64 (x5 - (1 : Int))) x4) (
                      Option.bind (y36.2[x3 + Int.toNat (IntKind.wrap IntKind.i64 (x5 - (1 : Int)))]?) fun y37 =>
                      iteP (within y3.1 x4) (
                        Option.bind (y36.2[x3 + Int.toNat y3.1]?) fun y38 =>
                        Option.bind (F178 N (y37, y38)) fun y39 =>
                        iteP (!y39) (
                          Option.bind (F179 N (x3, x4, x5, x6, y3.1, y36.2)) fun y40 =>
                          Option.bind (f (IntKind.wrap IntKind.i64 (x0 - (1 : Int)), x1, x2, x3, x4, y40.1, x6, y40.2)) fun r => some r) (
                          Option.bind (F180 N (x3, x4, x5, x6, y3.1, y36.2)) fun y41 =>
                          iteP (decide (IntKind.wrap IntKind.i64 (y41.1 - x5) < IntKind.wrap IntKind.i64 (x6 - y41.1))) (
                            Option.bind (G (x3, x4, x5, y41.1, IntKind.wrap IntKind.i64 (x0 - (1 : Int)), y41.2.2)) fun y42 =>
                            Option.bind (f (IntKind.wrap IntKind.i64 (x0 - (1 : Int)), decide (IntKind.wrap IntKind.i64 (y41.1 - x5) ≥ IntKind.wrap IntKind.i64 (Int.tdiv (IntKind.wrap IntKind.i64 (x6 - x5)) (8 : Int))), y41.2.1, x3, x4, IntKind.wrap IntKind.i64 (y41.1 + (1 : Int)), x6, y42)) fun r => some r) (
                            Option.bind (G (x3, x4, IntKind.wrap IntKind.i64 (y41.1 + (1 : Int)), x6, IntKind.wrap IntKind.i64 (x0 - (1 : Int)), y41.2.2)) fun y43 =>
                            Option.bind (f (IntKind.wrap IntKind.i64 (x0 - (1 : Int)), decide (IntKind.wrap IntKind.i64 (x6 - y41.1) ≥ IntKind.wrap IntKind.i64 (Int.tdiv (IntKind.wrap IntKind.i64 (x6 - x5)) (8 : Int))), y41.2.1, x3, x4, x5, y41.1, y43)) fun r => some r))) (
                        none )) (
                      none )) (
                    Option.bind (F180 N (x3, x4, x5, x6, y3.1, y36.2)) fun y44 =>
                    iteP (decide (IntKind.wrap IntKind.i64 (y44.1 - x5) < IntKind.wrap IntKind.i64 (x6 - y44.1))) (
                      Option.bind (G (x3, x4, x5, y44.1, IntKind.wrap IntKind.i64 (x0 - (1 : Int)), y44.2.2)) fun y45 =>
                      Option.bind (f (IntKind.wrap IntKind.i64 (x0 - (1 : Int)), decide (IntKind.wrap IntKind.i64 (y44.1 - x5) ≥ IntKind.wrap IntKind.i64 (Int.tdiv (IntKind.wrap IntKind.i64 (x6 - x5)) (8 : Int))), y44.2.1, x3, x4, IntKind.wrap IntKind.i64 (y44.1 + (1 : Int)), x6, y45)) fun r => some r) (
                      Option.bind (G (x3, x4, IntKind.wrap IntKind.i64 (y44.1 + (1 : Int)), x6, IntKind.wrap IntKind.i64 (x0 - (1 : Int)), y44.2.2)) fun y46 =>
                      Option.bind (f (IntKind.wrap IntKind.i64 (x0 - (1 : Int)), decide (IntKind.wrap IntKind.i64 (x6 - y44.1) ≥ IntKind.wrap IntKind.i64 (Int.tdiv (IntKind.wrap IntKind.i64 (x6 - x5)) (8 : Int))), y44.2.1, x3, x4, x5, y44.1, y46)) fun r => some r)))) (
                iteP (decide (x5 > (0 : Int))) (
                  iteP (within (IntKind.wrap IntKind.i64 (x5 - (1 : Int))) x4) (
                    Option.bind (y2[x3 + Int.toNat (IntKind.wrap IntKind.i64 (x5 - (1 : Int)))]?) fun y47 =>
                    iteP (within y3.1 x4) (
                      Option.bind (y2[x3 + Int.toNat y3.1]?) fun y48 =>
                      Option.bind (F178 N (y47, y48)) fun y49 =>
                      iteP (!y49) (
                        Option.bind (F179 N (x3, x4, x5, x6, y3.1, y2)) fun y50 =>
                        Option.bind (f (IntKind.wrap IntKind.i64 (x0 - (1 : Int)), x1, x2, x3, x4, y50.1, x6, y50.2)) fun r => some r) (
                        Option.bind (F180 N (x3, x4, x5, x6, y3.1, y2)) fun y51 =>
                        iteP (decide (IntKind.wrap IntKind.i64 (y51.1 - x5) < IntKind.wrap IntKind.i64 (x6 - y51.1))) (
                          Option.bind (G (x3, x4, x5, y51.1, IntKind.wrap IntKind.i64 (x0 - (1 : Int)), y51.2.2)) fun y52 =>
                          Option.bind (f (IntKind.wrap IntKind.i64 (x0 - (1 : Int)), decide (IntKind.wrap IntKind.i64 (y51.1 - x5) ≥ IntKind.wrap IntKind.i64 (Int.tdiv (IntKind.wrap IntKind.i64 (x6 - x5)) (8 : Int))), y51.2.1, x3, x4, IntKind.wrap IntKind.i64 (y51.1 + (1 : Int)), x6, y52)) fun r => some r) (
                          Option.bind (G (x3, x4, IntKind.wrap IntKind.i64 (y51.1 + (1 : Int)), x6, IntKind.wrap IntKind.i64 (x0 - (1 : Int)), y51.2.2)) fun y53 =>
                          Option.bind (f (IntKind.wrap IntKind.i64 (x0 - (1 : Int)), decide (IntKind.wrap IntKind.i64 (x6 - y51.1) ≥ IntKind.wrap IntKind.i64 (Int.tdiv (IntKind.wrap IntKind.i64 (x6 - x5)) (8 : Int))), y51.2.1, x3, x4, x5, y51.1, y53)) fun r => some r))) (
                      none )) (
                    none )) (
                  Option.bind (F180 N (x3, x4, x5, x6, y3.1, y2)) fun y54 =>
                  iteP (decide (IntKind.wrap IntKind.i64 (y54.1 - x5) < IntKind.wrap IntKind.i64 (x6 - y54.1))) (
                    Option.bind (G (x3, x4, x5, y54.1, IntKind.wrap IntKind.i64 (x0 - (1 : Int)), y54.2.2)) fun y55 =>
                    Option.bind (f (IntKind.wrap IntKind.i64 (x0 - (1 : Int)), decide (IntKind.wrap IntKind.i64 (y54.1 - x5) ≥ IntKind.wrap IntKind.i64 (Int.tdiv (IntKind.wrap IntKind.i64 (x6 - x5)) (8 : Int))), y54.2.1, x3, x4, IntKind.wrap IntKind.i64 (y54.1 + (1 : Int)), x6, y55)) fun r => some r) (
                    Option.bind (G (x3, x4, IntKind.wrap IntKind.i64 (y54.1 + (1 : Int)), x6, IntKind.wrap IntKind.i64 (x0 - (1 : Int)), y54.2.2)) fun y56 =>
                    Option.bind (f (IntKind.wrap IntKind.i64 (x0 - (1 : Int)), decide (IntKind.wrap IntKind.i64 (x6 - y54.1) ≥ IntKind.wrap IntKind.i64 (Int.tdiv (IntKind.wrap IntKind.i64 (x6 - x5)) (8 : Int))), y54.2.1, x3, x4, x5, y54.1, y56)) fun r => some r)))) (
              iteP (decide (x5 > (0 : Int))) (
                iteP (within (IntKind.wrap IntKind.i64 (x5 - (1 : Int))) x4) (
                  Option.bind (y2[x3 + Int.toNat (IntKind.wrap IntKind.i64 (x5 - (1 : Int)))]?) fun y57 =>
                  iteP (within y3.1 x4) (
                    Option.bind (y2[x3 + Int.toNat y3.1]?) fun y58 =>
                    Option.bind (F178 N (y57, y58)) fun y59 =>
                    iteP (!y59) (
                      Option.bind (F179 N (x3, x4, x5, x6, y3.1, y2)) fun y60 =>
                      Option.bind (f (IntKind.wrap IntKind.i64 (x0 - (1 : Int)), x1, x2, x3, x4, y60.1, x6, y60.2)) fun r => some r) (
                      Option.bind (F180 N (x3, x4, x5, x6, y3.1, y2)) fun y61 =>
                      iteP (decide (IntKind.wrap IntKind.i64 (y61.1 - x5) < IntKind.wrap IntKind.i64 (x6 - y61.1))) (
                        Option.bind (G (x3, x4, x5, y61.1, IntKind.wrap IntKind.i64 (x0 - (1 : Int)), y61.2.2)) fun y62 =>
                        Option.bind (f (IntKind.wrap IntKind.i64 (x0 - (1 : Int)), decide (IntKind.wrap IntKind.i64 (y61.1 - x5) ≥ IntKind.wrap IntKind.i64 (Int.tdiv (IntKind.wrap IntKind.i64 (x6 - x5)) (8 : Int))), y61.2.1, x3, x4, IntKind.wrap IntKind.i64 (y61.1 + (1 : Int)), x6, y62)) fun r => some r) (
                        Option.bind (G (x3, x4, IntKind.wrap IntKind.i64 (y61.1 + (1 : Int)), x6, IntKind.wrap IntKind.i64 (x0 - (1 : Int)), y61.2.2)) fun y63 =>
                        Option.bind (f (IntKind.wrap IntKind.i64 (x0 - (1 : Int)), decide (IntKind.wrap IntKind.i64 (x6 - y61.1) ≥ IntKind.wrap IntKind.i64 (Int.tdiv (IntKind.wrap IntKind.i64 (x6 - x5)) (8 : Int))), y61.2.1, x3, x4, x5, y61.1, y63)) fun r => some r))) (
                    none )) (
                  none )) (
                Option.bind (F180 N (x3, x4, x5, x6, y3.1, y2)) fun y64 =>
                iteP (decide (IntKind.wrap IntKind.i64 (y64.1 - x5) < IntKind.wrap IntKind.i64 (x6 - y64.1))) (
                  Option.bind (G (x3, x4, x5, y64.1, IntKind.wrap IntKind.i64 (x0 - (1 : Int)), y64.2.2)) fun y65 =>
                  Option.bind (f (IntKind.wrap IntKind.i64 (x0 - (1 : Int)), decide (IntKind.wrap IntKind.i64 (y64.1 - x5) ≥ IntKind.wrap IntKind.i64 (Int.tdiv (IntKind.wrap IntKind.i64 (x6 - x5)) (8 : Int))), y64.2.1, x3, x4, IntKind.wrap IntKind.i64 (y64.1 + (1 : Int)), x6, y65)) fun r => some r) (
                  Option.bind (G (x3, x4, IntKind.wrap IntKind.i64 (y64.1 + (1 : Int)), x6, IntKind.wrap IntKind.i64 (x0 - (1 : Int)), y64.2.2)) fun y66 =>
                  Option.bind (f (IntKind.wrap IntKind.i64 (x0 - (1 : Int)), decide (IntKind.wrap IntKind.i64 (x6 - y64.1) ≥ IntKind.wrap IntKind.i64 (Int.tdiv (IntKind.wrap IntKind.i64 (x6 - x5)) (8 : Int))), y64.2.1, x3, x4, x5, y64.1, y66)) fun r => some r)))) (
            iteP (decide (x5 > (0 : Int))) (
              iteP (within (IntKind.wrap IntKind.i64 (x5 - (1 : Int))) x4) (
                Option.bind (y2[x3 + Int.toNat (IntKind.wrap IntKind.i64 (x5 - (1 : Int)))]?) fun y67 =>
                iteP (within y3.1 x4) (
                  Option.bind (y2[x3 + Int.toNat y3.1]?) fun y68 =>
                  Option.bind (F178 N (y67, y68)) fun y69 =>
                  iteP (!y69) (
                    Option.bind (F179 N (x3, x4, x5, x6, y3.1, y2)) fun y70 =>
                    Option.bind (f (IntKind.wrap IntKind.i64 (x0 - (1 : Int)), x1, x2, x3, x4, y70.1, x6, y70.2)) fun r => some r) (
                    Option.bind (F180 N (x3, x4, x5, x6, y3.1, y2)) fun y71 =>
                    iteP (decide (IntKind.wrap IntKind.i64 (y71.1 - x5) < IntKind.wrap IntKind.i64 (x6 - y71.1))) (
                      Option.bind (G (x3, x4, x5, y71.1, IntKind.wrap IntKind.i64 (x0 - (1 : Int)), y71.2.2)) fun y72 =>
                      Option.bind (f (IntKind.wrap IntKind.i64 (x0 - (1 : Int)), decide (IntKind.wrap IntKind.i64 (y71.1 - x5) ≥ IntKind.wrap IntKind.i64 (Int.tdiv (IntKind.wrap IntKind.i64 (x6 - x5)) (8 : Int))), y71.2.1, x3, x4, IntKind.wrap IntKind.i64 (y71.1 + (1 : Int)), x6, y72)) fun r => some r) (
                      Option.bind (G (x3, x4, IntKind.wrap IntKind.i64 (y71.1 + (1 : Int)), x6, IntKind.wrap IntKind.i64 (x0 - (1 : Int)), y71.2.2)) fun y73 =>
                      Option.bind (f (IntKind.wrap IntKind.i64 (x0 - (1 : Int)), decide (IntKind.wrap IntKind.i64 (x6 - y71.1) ≥ IntKind.wrap IntKind.i64 (Int.tdiv (IntKind.wrap IntKind.i64 (x6 - x5)) (8 : Int))), y71.2.1, x3, x4, x5, y71.1, y73)) fun r => some r))) (
                  none )) (
                none )) (
              Option.bind (F180 N (x3, x4, x5, x6, y3.1, y2)) fun y74 =>
              iteP (decide (IntKind.wrap IntKind.i64 (y74.1 - x5) < IntKind.wrap IntKind.i64 (x6 - y74.1))) (
                Option.bind (G (x3, x4, x5, y74.1, IntKind.wrap IntKind.i64 (x0 - (1 : Int)), y74.2.2)) fun y75 =>
                Option.bind (f (IntKind.wrap IntKind.i64 (x0 - (1 : Int)), decide (IntKind.wrap IntKind.i64 (y74.1 - x5) ≥ IntKind.wrap IntKind.i64 (Int.tdiv (IntKind.wrap IntKind.i64 (x6 - x5)) (8 : Int))), y74.2.1, x3, x4, IntKind.wrap IntKind.i64 (y74.1 + (1 : Int)), x6, y75)) fun r => some r) (
                Option.bind (G (x3, x4, IntKind.wrap IntKind.i64 (y74.1 + (1 : Int)), x6, IntKind.wrap IntKind.i64 (x0 - (1 : Int)), y74.2.2)) fun y76 =>
                Option.bind (f (IntKind.wrap IntKind.i64 (x0 - (1 : Int)), decide (IntKind.wrap IntKind.i64 (x6 - y74.1) ≥ IntKind.wrap IntKind.i64 (Int.tdiv (IntKind.wrap IntKind.i64 (x6 - x5)) (8 : Int))), y74.2.1, x3, x4, x5, y74.1, y76)) fun r => some r))))) (
        Option.bind (F175 N (List.take x4 (List.drop x3 x7), x5, x6)) fun y77 =>
        iteP (y77.2 == (2 : Int)) (
          Option.bind (F176 N (x3, x4, x5, x6, x7)) fun y78 =>
          iteP (x1) (
            iteP (x2) (
              Option.bind (F177 N (x3, x4, x5, x6, y78)) fun y79 =>
              iteP y79.1 (
                some y79.2) (
                iteP (decide (x5 > (0 : Int))) (
                  iteP (within (IntKind.wrap IntKind.i64 (x5 - (1 : Int))) x4) (
                    Option.bind (y79.2[x3 + Int.toNat (IntKind.wrap IntKind.i64 (x5 - (1 : Int)))]?) fun y80 =>
                    iteP (within (IntKind.wrap IntKind.i64 (IntKind.wrap IntKind.i64 (x6 - (1 : Int)) - IntKind.wrap IntKind.i64 (y77.1 - x5))) x4) (
                      Option.bind (y79.2[x3 + Int.toNat (IntKind.wrap IntKind.i64 (IntKind.wrap IntKind.i64 (x6 - (1 : Int)) - IntKind.wrap IntKind.i64 (y77.1 - x5)))]?) fun y81 =>
                      Option.bind (F178 N (y80, y81)) fun y82 =>
                      iteP (!y82) (
                        Option.bind (F179 N (x3, x4, x5, x6, IntKind.wrap IntKind.i64 (IntKind.wrap IntKind.i64 (x6 - (1 : Int)) - IntKind.wrap IntKind.i64 (y77.1 - x5)), y79.2)) fun y83 =>
                        Option.bind (f (x0, x1, x2, x3, x4, y83.1, x6, y83.2)) fun r => some r) (
                        Option.bind (F180 N (x3, x4, x5, x6, IntKind.wrap IntKind.i64 (IntKind.wrap IntKind.i64 (x6 - (1 : Int)) - IntKind.wrap IntKind.i64 (y77.1 - x5)), y79.2)) fun y84 =>
                        iteP (decide (IntKind.wrap IntKind.i64 (y84.1 - x5) < IntKind.wrap IntKind.i64 (x6 - y84.1))) (
                          Option.bind (G (x3, x4, x5, y84.1, x0, y84.2.2)) fun y85 =>
                          Option.bind (f (x0, decide (IntKind.wrap IntKind.i64 (y84.1 - x5) ≥ IntKind.wrap IntKind.i64 (Int.tdiv (IntKind.wrap IntKind.i64 (x6 - x5)) (8 : Int))), y84.2.1, x3, x4, IntKind.wrap IntKind.i64 (y84.1 + (1 : Int)), x6, y85)) fun r => some r) (
                          Option.bind (G (x3, x4, IntKind.wrap IntKind.i64 (y84.1 + (1 : Int)), x6, x0, y84.2.2)) fun y86 =>
                          Option.bind (f (x0, decide (IntKind.wrap IntKind.i64 (x6 - y84.1) ≥ IntKind.wrap IntKind.i64 (Int.tdiv (IntKind.wrap IntKind.i64 (x6 - x5)) (8 : Int))), y84.2.1, x3, x4, x5, y84.1, y86)) fun r => some r))) (
                      none )) (
                    none )) (
                  Option.bind (F180 N (x3, x4, x5, x6, IntKind.wrap IntKind.i64 (IntKind.wrap IntKind.i64 (x6 - (1 : Int)) - IntKind.wrap IntKind.i64 (y77.1 - x5)), y79.2)) fun y87 =>
                  iteP (decide (IntKind.wrap IntKind.i64 (y87.1 - x5) < IntKind.wrap IntKind.i64 (x6 - y87.1))) (
                    Option.bind (G (x3, x4, x5, y87.1, x0, y87.2.2)) fun y88 =>
                    Option.bind (f (x0, decide (IntKind.wrap IntKind.i64 (y87.1 - x5) ≥ IntKind.wrap IntKind.i64 (Int.tdiv (IntKind.wrap IntKind.i64 (x6 - x5)) (8 : Int))), y87.2.1, x3, x4, IntKind.wrap IntKind.i64 (y87.1 + (1 : Int)), x6, y88)) fun r => some r) (
                    Option.bind (G (x3, x4, IntKind.wrap IntKind.i64 (y87.1 + (1 : Int)), x6, x0, y87.2.2)) fun y89 =>
                    Option.bind (f (x0, decide (IntKind.wrap IntKind.i64 (x6 - y87.1) ≥ IntKind.wrap IntKind.i64 (Int.tdiv (IntKind.wrap IntKind.i64 (x6 - x5)) (8 : Int))), y87.2.1, x3, x4, x5, y87.1, y89)) fun r => some r)))) (
              iteP (decide (x5 > (0 : Int))) (
                iteP (within (IntKind.wrap IntKind.i64 (x5 - (1 : Int))) x4) (
                  Option.bind (y78[x3 + Int.toNat (IntKind.wrap IntKind.i64 (x5 - (1 : Int)))]?) fun y90 =>
                  iteP (within (IntKind.wrap IntKind.i64 (IntKind.wrap IntKind.i64 (x6 - (1 : Int)) - IntKind.wrap IntKind.i64 (y77.1 - x5))) x4) (
                    Option.bind (y78[x3 + Int.toNat (IntKind.wrap IntKind.i64 (IntKind.wrap IntKind.i64 (x6 - (1 : Int)) - IntKind.wrap IntKind.i64 (y77.1 - x5)))]?) fun y91 =>
                    Option.bind (F178 N (y90, y91)) fun y92 =>
                    iteP (!y92) (
                      Option.bind (F179 N (x3, x4, x5, x6, IntKind.wrap IntKind.i64 (IntKind.wrap IntKind.i64 (x6 - (1 : Int)) - IntKind.wrap IntKind.i64 (y77.1 - x5)), y78)) fun y93 =>
                      Option.bind (f (x0, x1, x2, x3, x4, y93.1, x6, y93.2)) fun r => some r) (
                      Option.bind (F180 N (x3, x4, x5, x6, IntKind.wrap IntKind.i64 (IntKind.wrap IntKind.i64 (x6 - (1 : Int)) - IntKind.wrap IntKind.i64 (y77.1 - x5)), y78)) fun y94 =>
                      iteP (decide (IntKind.wrap IntKind.i64 (y94.1 - x5) < IntKind.wrap IntKind.i64 (x6 - y94.1))) (
                        Option.bind (G (x3, x4, x5, y94.1, x0, y94.2.2)) fun y95 =>
                        Option.bind (f (x0, decide (IntKind.wrap IntKind.i64 (y94.1 - x5) ≥ IntKind.wrap IntKind.i64 (Int.tdiv (IntKind.wrap IntKind.i64 (x6 - x5)) (8 : Int))), y94.2.1, x3, x4, IntKind.wrap IntKind.i64 (y94.1 + (1 : Int)), x6, y95)) fun r => some r) (
                        Option.bind (G (x3, x4, IntKind.wrap IntKind.i64 (y94.1 + (1 : Int)), x6, x0, y94.2.2)) fun y96 =>
                        Option.bind (f (x0, decide (IntKind.wrap IntKind.i64 (x6 - y94.1) ≥ IntKind.wrap IntKind.i64 (Int.tdiv (IntKind.wrap IntKind.i64 (x6 - x5)) (8 : Int))), y94.2.1, x3, x4, x5, y94.1, y96)) fun r => some r))) (
                    none )) (
                  none )) (
                Option.bind (F180 N (x3, x4, x5, x6, IntKind.wrap IntKind.i64 (IntKind.wrap IntKind.i64 (x6 - (1 : Int)) - IntKind.wrap IntKind.i64 (y77.1 - x5)), y78)) fun y97 =>
                iteP (decide (IntKind.wrap IntKind.i64 (y97.1 - x5) < IntKind.wrap IntKind.i64 (x6 - y97.1))) (
                  Option.bind (G (x3, x4, x5, y97.1, x0, y97.2.2)) fun y98 =>
                  Option.bind (f (x0, decide (IntKind.wrap IntKind.i64 (y97.1 - x5) ≥ IntKind.wrap IntKind.i64 (Int.tdiv (IntKind.wrap IntKind.i64 (x6 - x5)) (8 : Int))), y97.2.1, x3, x4, IntKind.wrap IntKind.i64 (y97.1 + (1 : Int)), x6, y98)) fun r => some r) (
                  Option.bind (G (x3, x4, IntKind.wrap IntKind.i64 (y97.1 + (1 : Int)), x6, x0, y97.2.2)) fun y99 =>
                  Option.bind (f (x0, decide (IntKind.wrap IntKind.i64 (x6 - y97.1) ≥ IntKind.wrap IntKind.i64 (Int.tdiv (IntKind.wrap IntKind.i64 (x6 - x5)) (8 : Int))), y97.2.1, x3, x4, x5, y97.1, y99)) fun r => some r)))) (
            iteP (decide (x5 > (0 : Int))) (
              iteP (within (IntKind.wrap IntKind.i64 (x5 - (1 : Int))) x4) (
                Option.bind (y78[x3 + Int.toNat (IntKind.wrap IntKind.i64 (x5 - (1 : Int)))]?) fun y100 =>
                iteP (within (IntKind.wrap IntKind.i64 (IntKind.wrap IntKind.i64 (x6 - (1 : Int)) - IntKind.wrap IntKind.i64 (y77.1 - x5))) x4) (
                  Option.bind (y78[x3 + Int.toNat (IntKind.wrap IntKind.i64 (IntKind.wrap IntKind.i64 (x6 - (1 : Int)) - IntKind.wrap IntKind.i64 (y77.1 - x5)))]?) fun y101 =>
                  Option.bind (F178 N (y100, y101)) fun y102 =>
                  iteP (!y102) (
                    Option.bind (F179 N (x3, x4, x5, x6, IntKind.wrap IntKind.i64 (IntKind.wrap IntKind.i64 (x6 - (1 : Int)) - IntKind.wrap IntKind.i64 (y77.1 - x5)), y78)) fun y103 =>
                    Option.bind (f (x0, x1, x2, x3, x4, y103.1, x6, y103.2)) fun r => some r) (
                    Option.bind (F180 N (x3, x4, x5, x6, IntKind.wrap IntKind.i64 (IntKind.wrap IntKind.i64 (x6 - (1 : Int)) - IntKind.wrap IntKind.i64 (y77.1 - x5)), y78)) fun y104 =>
                    iteP (decide (IntKind.wrap IntKind.i64 (y104.1 - x5) < IntKind.wrap IntKind.i64 (x6 - y104.1))) (
                      Option.bind (G (x3, x4, x5, y104.1, x0, y104.2.2)) fun y105 =>
                      Option.bind (f (x0, decide (IntKind.wrap IntKind.i64 (y104.1 - x5) ≥ IntKind.wrap IntKind.i64 (Int.tdiv (IntKind.wrap IntKind.i64 (x6 - x5)) (8 : Int))), y104.2.1, x3, x4, IntKind.wrap IntKind.i64 (y104.1 + (1 : Int)), x6, y105)) fun r => some r) (
                      Option.bind (G (x3, x4, IntKind.wrap IntKind.i64 (y104.1 + (1 : Int)), x6, x0, y104.2.2)) fun y106 =>
                      Option.bind (f (x0, decide (IntKind.wrap IntKind.i64 (x6 - y104.1) ≥ IntKind.wrap IntKind.i64 (Int.tdiv (IntKind.wrap IntKind.i64 (x6 - x5)) (8 : Int))), y104.2.1, x3, x4, x5, y104.1, y106)) fun r => some r))) (
                  none )) (
                none )) (
              Option.bind (F180 N (x3, x4, x5, x6, IntKind.wrap IntKind.i64 (IntKind.wrap IntKind.i64 (x6 - (1 : Int)) - IntKind.wrap IntKind.i64 (y77.1 - x5)), y78)) fun y107 =>
              iteP (decide (IntKind.wrap IntKind.i64 (y107.1 - x5) < IntKind.wrap IntKind.i64 (x6 - y107.1))) (
                Option.bind (G (x3, x4, x5, y107.1, x0, y107.2.2)) fun y108 =>
                Option.bind (f (x0, decide (IntKind.wrap IntKind.i64 (y107.1 - x5) ≥ IntKind.wrap IntKind.i64 (Int.tdiv (IntKind.wrap IntKind.i64 (x6 - x5)) (8 : Int))), y107.2.1, x3, x4, IntKind.wrap IntKind.i64 (y107.1 + (1 : Int)), x6, y108)) fun r => some r) (
                Option.bind (G (x3, x4, IntKind.wrap IntKind.i64 (y107.1 + (1 : Int)), x6, x0, y107.2.2)) fun y109 =>
                Option.bind (f (x0, decide (IntKind.wrap IntKind.i64 (x6 - y107.1) ≥ IntKind.wrap IntKind.i64 (Int.tdiv (IntKind.wrap IntKind.i64 (x6 - x5)) (8 : Int))), y107.2.1, x3, x4, x5, y107.1, y109)) fun r => some r)))) (
          iteP (x1) (
            iteP (x2) (
              iteP (y77.2 == (1 : Int)) (
                Option.bind (F177 N (x3, x4, x5, x6, x7)) fun y110 =>
                iteP y110.1 (
                  some y110.2) (
                  iteP (decide (x5 > (0 : Int))) (
                    iteP (within (IntKind.wrap IntKind.i64 (x5 - (1 : Int))) x4) (
                      Option.bind (y110.2[x3 + Int.toNat (IntKind.wrap IntKind.i64 (x5 - (1 : Int)))]?) fun y111 =>
                      iteP (within y77.1 x4) (
                        Option.bind (y110.2[x3 + Int.toNat y77.1]?) fun y112 =>
                        Option.bind (F178 N (y111, y112)) fun y113 =>
                        iteP (!y113) (
                          Option.bind (F179 N (x3, x4, x5, x6, y77.1, y110.2)) fun y114 =>
                          Option.bind (f (x0, x1, x2, x3, x4, y114.1, x6, y114.2)) fun r => some r) (
                          Option.bind (F180 N (x3, x4, x5, x6, y77.1, y110.2)) fun y115 =>
                          iteP (decide (IntKind.wrap IntKind.i64 (y115.1 - x5) < IntKind.wrap IntKind.i64 (x6 - y115.1))) (
                            Option.bind (G (x3, x4, x5, y115.1, x0, y115.2.2)) fun y116 =>
                            Option.bind (f (x0, decide (IntKind.wrap IntKind.i64 (y115.1 - x5) ≥ IntKind.wrap IntKind.i64 (Int.tdiv (IntKind.wrap IntKind.i64 (x6 - x5)) (8 : Int))), y115.2.1, x3, x4, IntKind.wrap IntKind.i64 (y115.1 + (1 : Int)), x6, y116)) fun r => some r) (
                            Option.bind (G (x3, x4, IntKind.wrap IntKind.i64 (y115.1 + (1 : Int)), x6, x0, y115.2.2)) fun y117 =>
                            Option.bind (f (x0, decide (IntKind.wrap IntKind.i64 (x6 - y115.1) ≥ IntKind.wrap IntKind.i64 (Int.tdiv (IntKind.wrap IntKind.i64 (x6 - x5)) (8 : Int))), y115.2.1, x3, x4, x5, y115.1, y117)) fun r => some r))) (
                        none )) (
                      none )) (
                    Option.bind (F180 N (x3, x4, x5, x6, y77.1, y110.2)) fun y118 =>
                    iteP (decide (IntKind.wrap IntKind.i64 (y118.1 - x5) < IntKind.wrap IntKind.i64 (x6 - y118.1))) (
                      Option.bind (G (x3, x4, x5, y118.1, x0, y118.2.2)) fun y119 =>
                      Option.bind (f (x0, decide (IntKind.wrap IntKind.i64 (y118.1 - x5) ≥ IntKind.wrap IntKind.i64 (Int.tdiv (IntKind.wrap IntKind.i64 (x6 - x5)) (8 : Int))), y118.2.1, x3, x4, IntKind.wrap IntKind.i64 (y118.1 + (1 : Int)), x6, y119)) fun r => some r) (
                      Option.bind (G (x3, x4, IntKind.wrap IntKind.i64 (y118.1 + (1 : Int)), x6, x0, y118.2.2)) fun y120 =>
                      Option.bind (f (x0, decide (IntKind.wrap IntKind.i64 (x6 - y118.1) ≥ IntKind.wrap IntKind.i64 (Int.tdiv (IntKind.wrap IntKind.i64 (x6 - x5)) (8 : Int))), y118.2.1, x3, x4, x5, y118.1, y120)) fun r => some r)))) (
                iteP (decide (x5 > (0 : Int))) (
                  iteP (within (IntKind.wrap IntKind.i64 (x5 - (1 : Int))) x4) (
                    Option.bind (x7[x3 + Int.toNat (IntKind.wrap IntKind.i64 (x5 - (1 : Int)))]?) fun y121 =>
                    iteP (within y77.1 x4) (
                      Option.bind (x7[x3 + Int.toNat y77.1]?) fun y122 =>
                      Option.bind (F178 N (y121, y122)) fun y123 =>
                      iteP (!y123) (
                        Option.bind (F179 N (x3, x4, x5, x6, y77.1, x7)) fun y124 =>
                        Option.bind (f (x0, x1, x2, x3, x4, y124.1, x6, y124.2)) fun r => some r) (
                        Option.bind (F180 N (x3, x4, x5, x6, y77.1, x7)) fun y125 =>
                        iteP (decide (IntKind.wrap IntKind.i64 (y125.1 - x5) < IntKind.wrap IntKind.i64 (x6 - y125.1))) (
                          Option.bind (G (x3, x4, x5, y125.1, x0, y125.2.2)) fun y126 =>
                          Option.bind (f (x0, decide (IntKind.wrap IntKind.i64 (y125.1 - x5) ≥ IntKind.wrap IntKind.i64 (Int.tdiv (IntKind.wrap IntKind.i64 (x6 - x5)) (8 : Int))), y125.2.1, x3, x4, IntKind.wrap IntKind.i64 (y125.1 + (1 : Int)), x6, y126)) fun r => some r) (
                          Option.bind (G (x3, x4, IntKind.wrap IntKind.i64 (y125.1 + (1 : Int)), x6, x0, y125.2.2)) fun y127 =>
                          Option.bind (f (x0, decide (IntKind.wrap IntKind.i64 (x6 - y125.1) ≥ IntKind.wrap IntKind.i64 (Int.tdiv (IntKind.wrap IntKind.i64 (x6 - x5)) (8 : Int))), y125.2.1, x3, x4, x5, y125.1, y127)) fun r => some r))) (
                      none )) (
                    none )) (
                  Option.bind (F180 N (x3, x4, x5, x6, y77.1, x7)) fun y128 =>
                  iteP (decide (IntKind.wrap IntKind.i64 (y128.1 - x5) < IntKind.wrap IntKind.i64 (x6 - y128.1))) (
                    Option.bind (G (x3, x4, x5, y128.1, x0, y128.2.2)) fun y129 =>
                    Option.bind (f (x0, decide (IntKind.wrap IntKind.i64 (y128.1 - x5) ≥ IntKind.wrap IntKind.i64 (Int.tdiv (IntKind.wrap IntKind.i64 (x6 - x5)) (8 : Int))), y128.2.1, x3, x4, IntKind.wrap IntKind.i64 (y128.1 + (1 : Int)), x6, y129)) fun r => some r) (
                    Option.bind (G (x3, x4, IntKind.wrap IntKind.i64 (y128.1 + (1 : Int)), x6, x0, y128.2.2)) fun y130 =>
                    Option.bind (f (x0, decide (IntKind.wrap IntKind.i64 (x6 - y128.1) ≥ IntKind.wrap IntKind.i64 (Int.tdiv (IntKind.wrap IntKind.i64 (x6 - x5)) (8 : Int))), y128.2.1, x3, x4, x5, y128.1, y130)) fun r => some r)))) (
              iteP (decide (x5 > (0 : Int))) (
                iteP (within (IntKind.wrap IntKind.i64 (x5 - (1 : Int))) x4) (
                  Option.bind (x7[x3 + Int.toNat (IntKind.wrap IntKind.i64 (x5 - (1 : Int)))]?) fun y131 =>
                  iteP (within y77.1 x4) (
                    Option.bind (x7[x3 + Int.toNat y77.1]?) fun y132 =>
                    Option.bind (F178 N (y131, y132)) fun y133 =>
                    iteP (!y133) (
                      Option.bind (F179 N (x3, x4, x5, x6, y77.1, x7)) fun y134 =>
                      Option.bind (f (x0, x1, x2, x3, x4, y134.1, x6, y134.2)) fun r => some r) (
                      Option.bind (F180 N (x3, x4, x5, x6, y77.1, x7)) fun y135 =>
                      iteP (decide (IntKind.wrap IntKind.i64 (y135.1 - x5) < IntKind.wrap IntKind.i64 (x6 - y135.1))) (
                        Option.bind (G (x3, x4, x5, y135.1, x0, y135.2.2)) fun y136 =>
                        Option.bind (f (x0, decide (IntKind.wrap IntKind.i64 (y135.1 - x5) ≥ IntKind.wrap IntKind.i64 (Int.tdiv (IntKind.wrap IntKind.i64 (x6 - x5)) (8 : Int))), y135.2.1, x3, x4, IntKind.wrap IntKind.i64 (y135.1 + (1 : Int)), x6, y136)) fun r => some r) (
                        Option.bind (G (x3, x4, IntKind.wrap IntKind.i64 (y135.1 + (1 : Int)), x6, x0, y135.2.2)) fun y137 =>
                        Option.bind (f (x0, decide (IntKind.wrap IntKind.i64 (x6 - y135.1) ≥ IntKind.wrap IntKind.i64 (Int.tdiv (IntKind.wrap IntKind.i64 (x6 - x5)) (8 : Int))), y135.2.1, x3, x4, x5, y135.1, y137)) fun r => some r))) (
                    none )) (
                  none )) (
                Option.bind (F180 N (x3, x4, x5, x6, y77.1, x7)) fun y138 =>
                iteP (decide (IntKind.wrap IntKind.i64 (y138.1 - x5) < IntKind.wrap IntKind.i64 (x6 - y138.1))) (
                  Option.bind (G (x3, x4, x5, y138.1, x0, y138.2.2)) fun y139 =>
                  Option.bind (f (x0, decide (IntKind.wrap IntKind.i64 (y138.1 - x5) ≥ IntKind.wrap IntKind.i64 (Int.tdiv (IntKind.wrap IntKind.i64 (x6 - x5)) (8 : Int))), y138.2.1, x3, x4, IntKind.wrap IntKind.i64 (y138.1 + (1 : Int)), x6, y139)) fun r => some r) (
                  Option.bind (G (x3, x4, IntKind.wrap IntKind.i64 (y138.1 + (1 : Int)), x6, x0, y138.2.2)) fun y140 =>
                  Option.bind (f (x0, decide (IntKind.wrap IntKind.i64 (x6 - y138.1) ≥ IntKind.wrap IntKind.i64 (Int.tdiv (IntKind.wrap IntKind.i64 (x6 - x5)) (8 : Int))), y138.2.1, x3, x4, x5, y138.1, y140)) fun r => some r)))) (
            iteP (decide (x5 > (0 : Int))) (
              iteP (within (IntKind.wrap IntKind.i64 (x5 - (1 : Int))) x4) (
                Option.bind (x7[x3 + Int.toNat (IntKind.wrap IntKind.i64 (x5 - (1 : Int)))]?) fun y141 =>
                iteP (within y77.1 x4) (
                  Option.bind (x7[x3 + Int.toNat y77.1]?) fun y142 =>
                  Option.bind (F178 N (y141, y142)) fun y143 =>
                  iteP (!y143) (
                    Option.bind (F179 N (x3, x4, x5, x6, y77.1, x7)) fun y144 =>
                    Option.bind (f (x0, x1, x2, x3, x4, y144.1, x6, y144.2)) fun r => some r) (
                    Option.bind (F180 N (x3, x4, x5, x6, y77.1, x7)) fun y145 =>
                    iteP (decide (IntKind.wrap IntKind.i64 (y145.1 - x5) < IntKind.wrap IntKind.i64 (x6 - y145.1))) (
                      Option.bind (G (x3, x4, x5, y145.1, x0, y145.2.2)) fun y146 =>
                      Option.bind (f (x0, decide (IntKind.wrap IntKind.i64 (y145.1 - x5) ≥ IntKind.wrap IntKind.i64 (Int.tdiv (IntKind.wrap IntKind.i64 (x6 - x5)) (8 : Int))), y145.2.1, x3, x4, IntKind.wrap IntKind.i64 (y145.1 + (1 : Int)), x6, y146)) fun r => some r) (
                      Option.bind (G (x3, x4, IntKind.wrap IntKind.i64 (y145.1 + (1 : Int)), x6, x0, y145.2.2)) fun y147 =>
                      Option.bind (f (x0, decide (IntKind.wrap IntKind.i64 (x6 - y145.1) ≥ IntKind.wrap IntKind.i64 (Int.tdiv (IntKind.wrap IntKind.i64 (x6 - x5)) (8 : Int))), y145.2.1, x3, x4, x5, y145.1, y147)) fun r => some r))) (
                  none )) (
                none )) (
              Option.bind (F180 N (x3, x4, x5, x6, y77.1, x7)) fun y148 =>
              iteP (decide (IntKind.wrap IntKind.i64 (y148.1 - x5) < IntKind.wrap IntKind.i64 (x6 - y148.1))) (
                Option.bind (G (x3, x4, x5, y148.1, x0, y148.2.2)) fun y149 =>
                Option.bind (f (x0, decide (IntKind.wrap IntKind.i64 (y148.1 - x5) ≥ IntKind.wrap IntKind.i64 (Int.tdiv (IntKind.wrap IntKind.i64 (x6 - x5)) (8 : Int))), y148.2.1, x3, x4, IntKind.wrap IntKind.i64 (y148.1 + (1 : Int)), x6, y149)) fun r => some r) (
                Option.bind (G (x3, x4, IntKind.wrap IntKind.i64 (y148.1 + (1 : Int)), x6, x0, y148.2.2)) fun y150 =>
                Option.bind (f (x0, decide (IntKind.wrap IntKind.i64 (x6 - y148.1) ≥ IntKind.wrap IntKind.i64 (Int.tdiv (IntKind.wrap IntKind.i64 (x6 - x5)) (8 : Int))), y148.2.1, x3, x4, x5, y148.1, y150)) fun r => some r)))))))
noncomputable def F162_14 (N : Nat) (G : (Nat × Nat × Int × Int × Int × (List Int)) → Option ((List Int))) : Nat → P162_14 → Option R162_14
  | 0, _ => none
  | k + 1, x => B162_14 N G (F162_14 N G k) x
noncomputable def C162_14 (N : Nat) (G : (Nat × Nat × Int × Int × Int × (List Int)) → Option ((List Int))) (k : Nat) : Cut := L162_14.cut (F162_14 N G k)
theorem C162_14_ok (N : Nat) (G : (Nat × Nat × Int × Int × Int × (List Int)) → Option ((List Int))) (hG : FOK Tryz.prog 162 (tellS s162 w162 G)) (k : Nat) : CutAt Tryz.prog false Tryz.f162 [0] 14 (C162_14 N G k) :=
  L162_14.loopT ownT mix (tab162_ok N G hG) Tryz.f162 [0] (cuts := []) trivial (by decide +kernel) (by kernel_rfl) (B162_14 N G) (F162_14 N G) (fun _ => rfl) (fun _ _ => rfl) (fun f x => by kernel_rfl) k
noncomputable def F162g (N : Nat) (G : (Nat × Nat × Int × Int × Int × (List Int)) → Option ((List Int))) : (Nat × Nat × Int × Int × Int × (List Int)) → Option ((List Int))
  | (x0, x1, x2, x3, x4, x5) =>
  Option.bind (F162_14 N G N (x4, true, true, x0, x1, x2, x3, x5)) fun y0 =>
  some (y0)
noncomputable def F162k (N : Nat) : Nat → (Nat × Nat × Int × Int × Int × (List Int)) → Option ((List Int))
  | 0, _ => none
  | k + 1, x => F162g N (F162k N k) x
noncomputable def F162 (N : Nat) : (Nat × Nat × Int × Int × Int × (List Int)) → Option ((List Int)) := F162k N N
noncomputable def T162 (N : Nat) : Pk → Tr Pk := tellS s162 w162 (F162 N)
theorem T162_rec (N : Nat) : ∀ k, FOK Tryz.prog 162 (tellS s162 w162 (F162k N k))
  | 0 => tell_none fun _ => rfl
  | k + 1 => fn_ok2 ownT mix (tab162_ok N (F162k N k) (T162_rec N k)) Tryz.func162 s162 w162 [0] (cuts := [(14, C162_14 N (F162k N k) N)]) ⟨C162_14_ok N (F162k N k) (T162_rec N k) N, trivial⟩ (fun _ => by kernel_rfl) (by decide +kernel) (F162k N (k + 1)) (fun x => by kernel_rfl)
theorem T162_ok (N : Nat) : FOK Tryz.prog (162) (T162 N) :=
  (T162_rec N N)
@[reducible] def s147 : SP := ⟨[.slp 0 .h .h], [.row (.int .i64) 3]⟩
noncomputable def tab147 (N : Nat) : List (Nat × (Pk → Tr Pk)) := [(151, T151 N), (162, T162 N)]
theorem tab147_ok (N : Nat) : TabOK Tryz.prog (tab147 N) := ⟨T151_ok N, T162_ok N, trivial⟩
@[reducible] def w147 : List SP := [⟨[.tup []], [.row (.int .i64) 3]⟩]
noncomputable def F147 (N : Nat) : (Nat × Nat × (List Int)) → Option ((List Int))
  | (x0, x1, x2) =>
  Option.bind (F151 N (IntKind.wrap IntKind.u64 (↑x1 : Int))) fun y0 =>
  Option.bind (F162 N (x0, x1, (0 : Int), (↑x1 : Int), y0, x2)) fun y1 =>
  some (y1)
noncomputable def T147 (N : Nat) : Pk → Tr Pk := tellS s147 w147 (F147 N)
theorem T147_ok (N : Nat) : FOK Tryz.prog (147) (T147 N) :=
  (fn_ok2 ownT mix (tab147_ok N) Tryz.func147 s147 w147 [0] (cuts := []) trivial (fun _ => by kernel_rfl) (by decide +kernel) (F147 N) (fun x => by kernel_rfl))
@[reducible] def s148 : SP := ⟨[.sl 0], [.row (.int .i64) 3]⟩
noncomputable def tab148 (N : Nat) : List (Nat × (Pk → Tr Pk)) := []
theorem tab148_ok (N : Nat) : TabOK Tryz.prog (tab148 N) := trivial
@[reducible] def L148_59690 : LD := ⟨59690, [3, 5, 0, 4], [(.ret, [2]), (.exit 2, [0, 3]), (.exit 1, [3, 0]), (.exit 0, [0])], ⟨[.int .i64, .int .i64, .sl 0, .slp 0 .h .h], [.row (.int .i64) 3]⟩, [(.exit 2, ⟨[.sl 0, .int .i64], [.row (.int .i64) 3]⟩)]⟩
abbrev P148_59690 : Type := Int × Int × Nat × Nat × (List Int)
abbrev R148_59690 : Type := Int × (List Int)
noncomputable def B148_59690 (N : Nat) (f : P148_59690 → Option R148_59690) : P148_59690 → Option R148_59690
  | (x0, x1, x2, x3, x4) =>
  iteP (decide (x1 < (↑x3 : Int))) (
    iteP (within x1 x3) (
      Option.bind (x4[x2 + Int.toNat x1]?) fun y0 =>
      iteP (within (IntKind.wrap IntKind.i64 (x1 - (1 : Int))) x3) (
        Option.bind (x4[x2 + Int.toNat (IntKind.wrap IntKind.i64 (x1 - (1 : Int)))]?) fun y1 =>
        iteP (y0 != y1) (
          iteP (within x1 x3) (
            Option.bind (x4[x2 + Int.toNat x1]?) fun y2 =>
            iteP (within x0 (List.length x4)) (
              Option.bind (x4[Int.toNat x0]?) fun y3 =>
              Option.bind (f (IntKind.wrap IntKind.i64 (x0 + (1 : Int)), IntKind.wrap IntKind.i64 (x1 + (1 : Int)), x2, x3, List.set x4 (Int.toNat x0) y2)) fun r => some r) (
              none )) (
            none )) (
          Option.bind (f (x0, IntKind.wrap IntKind.i64 (x1 + (1 : Int)), x2, x3, x4)) fun r => some r)) (
        none )) (
      none )) (
    some ((x0, x4)))
noncomputable def F148_59690 (N : Nat) : Nat → P148_59690 → Option R148_59690
  | 0, _ => none
  | k + 1, x => B148_59690 N (F148_59690 N k) x
noncomputable def C148_59690 (N : Nat) (k : Nat) : Cut := L148_59690.cut (F148_59690 N k)
theorem C148_59690_ok (N : Nat) (k : Nat) : CutAt Tryz.prog false Tryz.f148 [] 59690 (C148_59690 N k) :=
  L148_59690.loopT ownT mix (tab148_ok N) Tryz.f148 [] (cuts := []) trivial (by decide +kernel) (by kernel_rfl) (B148_59690 N) (F148_59690 N) (fun _ => rfl) (fun _ _ => rfl) (fun f x => by kernel_rfl) k
@[reducible] def L148_58 : LD := ⟨58, [3, 0], [(.ret, [2]), (.exit 0, [0])], ⟨[.int .i64, .sl 0], [.row (.int .i64) 3]⟩, [(.exit 0, ⟨[.sl 0], [.row (.int .i64) 3]⟩)]⟩
abbrev P148_58 : Type := Int × (List Int)
abbrev R148_58 : Type := (List Int)
noncomputable def B148_58 (N : Nat) (f : P148_58 → Option R148_58) : P148_58 → Option R148_58
  | (x0, x1) =>
  iteP (decide (x0 < (↑(List.length x1) : Int))) (
    iteP (within x0 (List.length x1)) (
      Option.bind (x1[Int.toNat x0]?) fun y0 =>
      iteP (within (IntKind.wrap IntKind.i64 (x0 - (1 : Int))) (List.length x1)) (
        Option.bind (x1[Int.toNat (IntKind.wrap IntKind.i64 (x0 - (1 : Int)))]?) fun y1 =>
        iteP (y0 == y1) (
          iteP (decide ((0 : Int) ≤ x0 ∧ x0 ≤ (↑(List.length x1) : Int))) (
            Option.bind (F148_59690 N N (x0, (1 : Int), Int.toNat x0, List.length x1 - Int.toNat x0, x1)) fun y2 =>
            iteP (decide ((0 : Int) ≤ y2.1 ∧ y2.1 ≤ (↑(List.length y2.2) : Int))) (
              none ) (
              none )) (
            none )) (
          Option.bind (f (IntKind.wrap IntKind.i64 (x0 + (1 : Int)), x1)) fun r => some r)) (
        none )) (
      none )) (
    some (x1))
noncomputable def F148_58 (N : Nat) : Nat → P148_58 → Option R148_58
  | 0, _ => none
  | k + 1, x => B148_58 N (F148_58 N k) x
noncomputable def C148_58 (N : Nat) (k : Nat) : Cut := L148_58.cut (F148_58 N k)
theorem C148_58_ok (N : Nat) (k : Nat) : CutAt Tryz.prog false Tryz.f148 [] 58 (C148_58 N k) :=
  L148_58.loopT ownT mix (tab148_ok N) Tryz.f148 [] (cuts := [(59690, C148_59690 N N)]) ⟨C148_59690_ok N N, trivial⟩ (by decide +kernel) (by kernel_rfl) (B148_58 N) (F148_58 N) (fun _ => rfl) (fun _ _ => rfl) (fun f x => by kernel_rfl) k
@[reducible] def w148 : List SP := [⟨[.sl 0], [.row (.int .i64) 3]⟩]
noncomputable def F148 (N : Nat) : ((List Int)) → Option ((List Int))
  | x0 =>
  iteP (decide ((↑(List.length x0) : Int) < (2 : Int))) (
    some (x0)) (
    Option.bind (F148_58 N N ((1 : Int), x0)) fun y0 =>
    some (y0))
noncomputable def T148 (N : Nat) : Pk → Tr Pk := tellS s148 w148 (F148 N)
theorem T148_ok (N : Nat) : FOK Tryz.prog (148) (T148 N) :=
  (fn_ok2 ownT mix (tab148_ok N) Tryz.func148 s148 w148 [] (cuts := [(59690, C148_59690 N N), (58, C148_58 N N)]) ⟨C148_59690_ok N N, C148_58_ok N N, trivial⟩ (fun _ => by kernel_rfl) (by decide +kernel) (F148 N) (fun x => by kernel_rfl))
@[reducible] def s124 : SP := ⟨[.sl 0], [.row (.int .i64) 3]⟩
noncomputable def tab124 (N : Nat) : List (Nat × (Pk → Tr Pk)) := [(147, T147 N), (148, T148 N)]
theorem tab124_ok (N : Nat) : TabOK Tryz.prog (tab124 N) := ⟨T147_ok N, T148_ok N, trivial⟩
@[reducible] def w124 : List SP := [⟨[.sl 0], [.row (.int .i64) 3]⟩]
noncomputable def F124 (N : Nat) : ((List Int)) → Option ((List Int))
  | x0 =>
  Option.bind (F147 N ((0 : Nat), List.length x0, x0)) fun y0 =>
  Option.bind (F148 N y0) fun y1 =>
  some (y1)
noncomputable def T124 (N : Nat) : Pk → Tr Pk := tellS s124 w124 (F124 N)
theorem T124_ok (N : Nat) : FOK Tryz.prog (124) (T124 N) :=
  (fn_ok2 ownT mix (tab124_ok N) Tryz.func124 s124 w124 [] (cuts := []) trivial (fun _ => by kernel_rfl) (by decide +kernel) (F124 N) (fun x => by kernel_rfl))
@[reducible] def s123 : SP := ⟨[.sl 0], [.row (.int .i64) 3]⟩
noncomputable def tab123 (N : Nat) : List (Nat × (Pk → Tr Pk)) := []
theorem tab123_ok (N : Nat) : TabOK Tryz.prog (tab123 N) := trivial
@[reducible] def w123 : List SP := [⟨[.clo 146 [.adr 0 []]], [.var 22 (.sl 1), .row (.int .i64) 3]⟩]
noncomputable def F123 (N : Nat) : ((List Int)) → Option ((List Int))
  | x0 =>
  some (x0)
noncomputable def T123 (N : Nat) : Pk → Tr Pk := tellS s123 w123 (F123 N)
theorem T123_ok (N : Nat) : FOK Tryz.prog (123) (T123 N) :=
  (fn_ok2 ownT mix (tab123_ok N) Tryz.func123 s123 w123 [] (cuts := []) trivial (fun _ => by kernel_rfl) (by decide +kernel) (F123 N) (fun x => by kernel_rfl))
@[reducible] def s126 : SP := ⟨[.ro y1, .int .i64], []⟩
noncomputable def tab126 (N : Nat) : List (Nat × (Pk → Tr Pk)) := []
theorem tab126_ok (N : Nat) : TabOK Tryz.prog (tab126 N) := trivial
@[reducible] def L126_58 : LD := ⟨58, [5, 10, 9, 8, 1], [(.ret, [4]), (.exit 0, [5])], ⟨[.sl 0, .int .i64, .int .i64, .ro y1, .int .i64], [.row y3 178]⟩, [(.exit 0, ⟨[.sl 0], [.row y3 178]⟩)]⟩
abbrev P126_58 : Type := Int × Int × (List (Int × (Int × (Int × (Int × Unit))))) × Int × (List (Int × (Int × Unit)))
abbrev R126_58 : Type := (List (Int × (Int × Unit)))
noncomputable def B126_58 (N : Nat) (f : P126_58 → Option R126_58) : P126_58 → Option R126_58
  | (x0, x1, x2, x3, x4) =>
  iteP (decide (x0 < x1)) (
    iteP (within x0 (List.length x2)) (
      Option.bind (x2[Int.toNat x0]?) fun y0 =>
      iteP (decide (y0.2.1 ≤ x3)) (
        iteP (decide (x3 < IntKind.wrap IntKind.i64 (y0.2.1 + y0.2.2.2.1))) (
          iteP (decide ((List.length x4 + List.length [(y0.1, IntKind.wrap IntKind.i64 (y0.1 + y0.2.2.1), ())]) * (16 : Nat) ≤ (140737488355328 : Nat) ∧ List.length x4 + List.length [(y0.1, IntKind.wrap IntKind.i64 (y0.1 + y0.2.2.1), ())] ≤ (140737488355328 : Nat))) (
            Option.bind (f (IntKind.wrap IntKind.i64 (x0 + (1 : Int)), x1, x2, x3, x4 ++ [(y0.1, IntKind.wrap IntKind.i64 (y0.1 + y0.2.2.1), ())])) fun r => some r) (
            none )) (
          Option.bind (f (IntKind.wrap IntKind.i64 (x0 + (1 : Int)), x1, x2, x3, x4)) fun r => some r)) (
        Option.bind (f (IntKind.wrap IntKind.i64 (x0 + (1 : Int)), x1, x2, x3, x4)) fun r => some r)) (
      none )) (
    some (x4))
noncomputable def F126_58 (N : Nat) : Nat → P126_58 → Option R126_58
  | 0, _ => none
  | k + 1, x => B126_58 N (F126_58 N k) x
noncomputable def C126_58 (N : Nat) (k : Nat) : Cut := L126_58.cut (F126_58 N k)
theorem C126_58_ok (N : Nat) (k : Nat) : CutAt Tryz.prog false Tryz.f126 [] 58 (C126_58 N k) :=
  L126_58.loopT ownT mix (tab126_ok N) Tryz.f126 [] (cuts := []) trivial (by decide +kernel) (by kernel_rfl) (B126_58 N) (F126_58 N) (fun _ => rfl) (fun _ _ => rfl) (fun f x => by kernel_rfl) k
@[reducible] def w126 : List SP := [⟨[.sl 0], [.row y3 178]⟩]
noncomputable def F126 (N : Nat) : ((List (Int × (Int × (Int × (Int × Unit))))) × Int) → Option ((List (Int × (Int × Unit))))
  | (x0, x1) =>
  Option.bind (F126_58 N N ((0 : Int), (↑(List.length x0) : Int), x0, x1, [])) fun y0 =>
  some (y0)
noncomputable def T126 (N : Nat) : Pk → Tr Pk := postT frzP (tellS s126 w126 (F126 N))
theorem T126_ok (N : Nat) : FOK Tryz.prog (126) (T126 N) :=
  postT_ok frzP_ok (fn_ok2 ownT mix (tab126_ok N) Tryz.func126 s126 w126 [] (cuts := [(58, C126_58 N N)]) ⟨C126_58_ok N N, trivial⟩ (fun _ => by kernel_rfl) (by decide +kernel) (F126 N) (fun x => by kernel_rfl)) (by decide +kernel)
@[reducible] def y5 : Ty := (.sl (.cons (.int .i64) (.cons (.int .i64) .unit)))
@[reducible] def s163 : SP := ⟨[.nilsl, .int .i64], []⟩
noncomputable def tab163 (N : Nat) : List (Nat × (Pk → Tr Pk)) := []
theorem tab163_ok (N : Nat) : TabOK Tryz.prog (tab163 N) := trivial
@[reducible] def w163 : List SP := [⟨[.slp 0 (.c 0) (.c 0)], [.row y3 178]⟩, ⟨[.sl 0], [.row y3 178]⟩]
noncomputable def F163 (N : Nat) : (Int) → Option ((((List (Int × (Int × Unit)))) ⊕ ((List (Int × (Int × Unit))))))
  | x0 =>
  iteP (decide (x0 < (0 : Int))) (
    none ) (
    iteP (decide (IntKind.wrap IntKind.i64 (x0 - (0 : Int)) > (0 : Int))) (
      iteP (decide ((0 : Int) < IntKind.wrap IntKind.i64 (x0 - (0 : Int)) ∧ IntKind.wrap IntKind.i64 (x0 - (0 : Int)) * (16 : Int) ≤ (140737488355328 : Int) ∧ IntKind.wrap IntKind.i64 (x0 - (0 : Int)) ≤ (140737488355328 : Int))) (
        iteP (decide ((0 : Int) ≤ (0 : Int) ∧ (0 : Int) ≤ (↑(List.length (List.replicate (Int.toNat (IntKind.wrap IntKind.i64 (x0 - (0 : Int)))) ((0 : Int), (0 : Int), ()))) : Int))) (
          some (.inl (List.replicate (Int.toNat (IntKind.wrap IntKind.i64 (x0 - (0 : Int)))) ((0 : Int), (0 : Int), ())))) (
          none )) (
        none )) (
      some (.inr ([]))))
noncomputable def T163 (N : Nat) : Pk → Tr Pk := postT (trimP (Ty.cons (Ty.int IntKind.i64) (Ty.cons (Ty.int IntKind.i64) (Ty.unit))) 178) (tellS s163 w163 (F163 N))
theorem T163_ok (N : Nat) : FOK Tryz.prog (163) (T163 N) :=
  postT_ok (trimP_ok _ _) (fn_ok2 ownT mix (tab163_ok N) Tryz.func163 s163 w163 [] (cuts := []) trivial (fun _ => by kernel_rfl) (by decide +kernel) (F163 N) (fun x => by kernel_rfl)) (by decide +kernel)
@[reducible] def s149 : SP := ⟨[.ro y5], []⟩
noncomputable def tab149 (N : Nat) : List (Nat × (Pk → Tr Pk)) := [(163, T163 N)]
theorem tab149_ok (N : Nat) : TabOK Tryz.prog (tab149 N) := ⟨T163_ok N, trivial⟩
@[reducible] def L149_58 : LD := ⟨58, [3, 11, 10, 0, 9], [(.ret, [2]), (.exit 0, [3, 0])], ⟨[.int .i64, .int .i64, .int .i64, .ro y5, .ro y5], []⟩, [(.exit 0, ⟨[.int .i64, .ro y5], []⟩)]⟩
abbrev P149_58 : Type := Int × Int × Int × (List (List (Int × (Int × Unit)))) × (List (List (Int × (Int × Unit))))
abbrev R149_58 : Type := Int × (List (List (Int × (Int × Unit))))
noncomputable def B149_58 (N : Nat) (f : P149_58 → Option R149_58) : P149_58 → Option R149_58
  | (x0, x1, x2, x3, x4) =>
  iteP (decide (x1 < x2)) (
    iteP (within x1 (List.length x4)) (
      Option.bind (x4[Int.toNat x1]?) fun y0 =>
      iteP (decide (IntKind.wrap IntKind.i64 (x0 + (↑(List.length y0) : Int)) < (0 : Int))) (
        none ) (
        Option.bind (f (IntKind.wrap IntKind.i64 (x0 + (↑(List.length y0) : Int)), IntKind.wrap IntKind.i64 (x1 + (1 : Int)), x2, x3, x4)) fun r => some r)) (
      none )) (
    some ((x0, x3)))
noncomputable def F149_58 (N : Nat) : Nat → P149_58 → Option R149_58
  | 0, _ => none
  | k + 1, x => B149_58 N (F149_58 N k) x
noncomputable def C149_58 (N : Nat) (k : Nat) : Cut := L149_58.cut (F149_58 N k)
theorem C149_58_ok (N : Nat) (k : Nat) : CutAt Tryz.prog false Tryz.f149 [] 58 (C149_58 N k) :=
  L149_58.loopT ownT mix (tab149_ok N) Tryz.f149 [] (cuts := []) trivial (by decide +kernel) (by kernel_rfl) (B149_58 N) (F149_58 N) (fun _ => rfl) (fun _ _ => rfl) (fun f x => by kernel_rfl) k
@[reducible] def L149_250 : LD := ⟨250, [6, 27, 26, 25], [(.ret, [2]), (.exit 2, [6])], ⟨[.sl 0, .int .i64, .int .i64, .ro y5], [.row y3 178]⟩, [(.exit 2, ⟨[.sl 0], [.row y3 178]⟩)]⟩
abbrev P149_250 : Type := Int × Int × (List (List (Int × (Int × Unit)))) × (List (Int × (Int × Unit)))
abbrev R149_250 : Type := (List (Int × (Int × Unit)))
noncomputable def B149_250 (N : Nat) (f : P149_250 → Option R149_250) : P149_250 → Option R149_250
  | (x0, x1, x2, x3) =>
  iteP (decide (x0 < x1)) (
    iteP (within x0 (List.length x2)) (
      Option.bind (x2[Int.toNat x0]?) fun y0 =>
      iteP (decide ((List.length x3 + List.length y0) * (16 : Nat) ≤ (140737488355328 : Nat) ∧ List.length x3 + List.length y0 ≤ (140737488355328 : Nat))) (
        Option.bind (f (IntKind.wrap IntKind.i64 (x0 + (1 : Int)), x1, x2, x3 ++ y0)) fun r => some r) (
        none )) (
      none )) (
    some (x3))
noncomputable def F149_250 (N : Nat) : Nat → P149_250 → Option R149_250
  | 0, _ => none
  | k + 1, x => B149_250 N (F149_250 N k) x
noncomputable def C149_250 (N : Nat) (k : Nat) : Cut := L149_250.cut (F149_250 N k)
theorem C149_250_ok (N : Nat) (k : Nat) : CutAt Tryz.prog false Tryz.f149 [] 250 (C149_250 N k) :=
  L149_250.loopT ownT mix (tab149_ok N) Tryz.f149 [] (cuts := [(58, C149_58 N N)]) ⟨C149_58_ok N N, trivial⟩ (by decide +kernel) (by kernel_rfl) (B149_250 N) (F149_250 N) (fun _ => rfl) (fun _ _ => rfl) (fun f x => by kernel_rfl) k
@[reducible] def w149 : List SP := [⟨[.sl 0], [.row y3 178]⟩]
noncomputable def F149 (N : Nat) : ((List (List (Int × (Int × Unit))))) → Option ((List (Int × (Int × Unit))))
  | x0 =>
  Option.bind (F149_58 N N ((0 : Int), (0 : Int), (↑(List.length x0) : Int), x0, x0)) fun y0 =>
  Option.bind (F163 N y0.1) fun y1 =>
  match y1 with
  | .inl y2 =>
    Option.bind (F149_250 N N ((0 : Int), (↑(List.length y0.2) : Int), y0.2, [])) fun y3 =>
    some (y3)
  | .inr y2 =>
    Option.bind (F149_250 N N ((0 : Int), (↑(List.length y0.2) : Int), y0.2, y2)) fun y4 =>
    some (y4)
noncomputable def T149 (N : Nat) : Pk → Tr Pk := tellS s149 w149 (F149 N)
theorem T149_ok (N : Nat) : FOK Tryz.prog (149) (T149 N) :=
  (fn_ok2 ownT mix (tab149_ok N) Tryz.func149 s149 w149 [] (cuts := [(58, C149_58 N N), (250, C149_250 N N)]) ⟨C149_58_ok N N, C149_250_ok N N, trivial⟩ (fun _ => by kernel_rfl) (by decide +kernel) (F149 N) (fun x => by kernel_rfl))
@[reducible] def s165 : SP := ⟨[.agg [.int .i64, .int .i64], .adr 0 []], [.var 3 (.int .i64)]⟩
noncomputable def tab165 (N : Nat) : List (Nat × (Pk → Tr Pk)) := []
theorem tab165_ok (N : Nat) : TabOK Tryz.prog (tab165 N) := trivial
@[reducible] def w165 : List SP := [⟨[.bool], [.var 3 (.int .i64)]⟩]
noncomputable def F165 (N : Nat) : (Int × Int × Int) → Option (Bool × Int)
  | (x0, x1, x2) =>
  iteP (decide (x0 ≤ x2)) (
    some ((decide (x2 < x1), x2))) (
    some ((false, x2)))
noncomputable def T165 (N : Nat) : Pk → Tr Pk := tellS s165 w165 (F165 N)
theorem T165_ok (N : Nat) : FOK Tryz.prog (165) (T165 N) :=
  (fn_ok2 ownT mix (tab165_ok N) Tryz.func165 s165 w165 [0] (cuts := []) trivial (fun _ => by kernel_rfl) (by decide +kernel) (F165 N) (fun x => by kernel_rfl))
@[reducible] def s181 : SP := ⟨[.ro y3, .clo 165 [.adr 0 []]], [.var 3 (.int .i64)]⟩
noncomputable def tab181 (N : Nat) : List (Nat × (Pk → Tr Pk)) := [(165, T165 N)]
theorem tab181_ok (N : Nat) : TabOK Tryz.prog (tab181 N) := ⟨T165_ok N, trivial⟩
@[reducible] def L181_26 : LD := ⟨26, [7, 1, 0, 8], [(.ret, [4]), (.exit 0, [])], ⟨[.int .i64, .clo 165 [.adr 0 []], .ro y3, .int .i64], [.var 3 (.int .i64)]⟩, [(.ret, ⟨[.int .i64], [.var 3 (.int .i64)]⟩), (.exit 0, ⟨[], [.var 3 (.int .i64)]⟩)]⟩
abbrev P181_26 : Type := Int × (List (Int × (Int × Unit))) × Int × Int
abbrev R181_26 : Type := ((Int × Int) ⊕ (Int))
noncomputable def B181_26 (N : Nat) (f : P181_26 → Option R181_26) : P181_26 → Option R181_26
  | (x0, x1, x2, x3) =>
  iteP (decide (x2 < x0)) (
    iteP (within x2 (List.length x1)) (
      Option.bind (x1[Int.toNat x2]?) fun y0 =>
      Option.bind (F165 N (y0.1, y0.2.1, x3)) fun y1 =>
      iteP y1.1 (
        some (.inl ((x2, y1.2)))) (
        Option.bind (f (x0, x1, IntKind.wrap IntKind.i64 (x2 + (1 : Int)), y1.2)) fun r => match r with | .inl y => some (.inl y) | .inr y => some (.inr y))) (
      none )) (
    some (.inr (x3)))
noncomputable def F181_26 (N : Nat) : Nat → P181_26 → Option R181_26
  | 0, _ => none
  | k + 1, x => B181_26 N (F181_26 N k) x
noncomputable def C181_26 (N : Nat) (k : Nat) : Cut := L181_26.cut (F181_26 N k)
theorem C181_26_ok (N : Nat) (k : Nat) : CutAt Tryz.prog false Tryz.f181 [0] 26 (C181_26 N k) :=
  L181_26.loopT ownT mix (tab181_ok N) Tryz.f181 [0] (cuts := []) trivial (by decide +kernel) (by kernel_rfl) (B181_26 N) (F181_26 N) (fun _ => rfl) (fun _ _ => rfl) (fun f x => by kernel_rfl) k
@[reducible] def w181 : List SP := [⟨[.int .i64], [.var 3 (.int .i64)]⟩]
noncomputable def F181 (N : Nat) : ((List (Int × (Int × Unit))) × Int) → Option (Int × Int)
  | (x0, x1) =>
  Option.bind (F181_26 N N ((↑(List.length x0) : Int), x0, (0 : Int), x1)) fun y0 =>
  match y0 with
  | .inl y1 =>
    some ((y1.1, y1.2))
  | .inr y1 =>
    some (((-1 : Int), y1))
noncomputable def T181 (N : Nat) : Pk → Tr Pk := tellS s181 w181 (F181 N)
theorem T181_ok (N : Nat) : FOK Tryz.prog (181) (T181 N) :=
  (fn_ok2 ownT mix (tab181_ok N) Tryz.func181 s181 w181 [0] (cuts := [(26, C181_26 N N)]) ⟨C181_26_ok N N, trivial⟩ (fun _ => by kernel_rfl) (by decide +kernel) (F181 N) (fun x => by kernel_rfl))
@[reducible] def s164 : SP := ⟨[.ro y3, .clo 165 [.adr 0 []]], [.var 3 (.int .i64)]⟩
noncomputable def tab164 (N : Nat) : List (Nat × (Pk → Tr Pk)) := [(181, T181 N)]
theorem tab164_ok (N : Nat) : TabOK Tryz.prog (tab164 N) := ⟨T181_ok N, trivial⟩
@[reducible] def w164 : List SP := [⟨[.bool], [.var 3 (.int .i64)]⟩]
noncomputable def F164 (N : Nat) : ((List (Int × (Int × Unit))) × Int) → Option (Bool × Int)
  | (x0, x1) =>
  Option.bind (F181 N (x0, x1)) fun y0 =>
  some ((decide (y0.1 ≥ (0 : Int)), y0.2))
noncomputable def T164 (N : Nat) : Pk → Tr Pk := tellS s164 w164 (F164 N)
theorem T164_ok (N : Nat) : FOK Tryz.prog (164) (T164 N) :=
  (fn_ok2 ownT mix (tab164_ok N) Tryz.func164 s164 w164 [0] (cuts := []) trivial (fun _ => by kernel_rfl) (by decide +kernel) (F164 N) (fun x => by kernel_rfl))
@[reducible] def s150 : SP := ⟨[.ro y3, .int .i64], []⟩
noncomputable def tab150 (N : Nat) : List (Nat × (Pk → Tr Pk)) := [(164, T164 N)]
theorem tab150_ok (N : Nat) : TabOK Tryz.prog (tab150 N) := ⟨T164_ok N, trivial⟩
@[reducible] def w150 : List SP := [⟨[.bool], []⟩]
noncomputable def F150 (N : Nat) : ((List (Int × (Int × Unit))) × Int) → Option (Bool)
  | (x0, x1) =>
  Option.bind (F164 N (x0, x1)) fun y0 =>
  some y0.1
noncomputable def T150 (N : Nat) : Pk → Tr Pk := tellS s150 w150 (F150 N)
theorem T150_ok (N : Nat) : FOK Tryz.prog (150) (T150 N) :=
  (fn_ok2 ownT mix (tab150_ok N) Tryz.func150 s150 w150 [] (cuts := []) trivial (fun _ => by kernel_rfl) (by decide +kernel) (F150 N) (fun x => by kernel_rfl))
@[reducible] def s129 : SP := ⟨[.bool, .bool], []⟩
noncomputable def tab129 (N : Nat) : List (Nat × (Pk → Tr Pk)) := []
theorem tab129_ok (N : Nat) : TabOK Tryz.prog (tab129 N) := trivial
@[reducible] def w129 : List SP := [⟨[.bool], []⟩]
noncomputable def F129 (N : Nat) : (Bool × Bool) → Option (Bool)
  | (x0, x1) =>
  some (x0)
noncomputable def T129 (N : Nat) : Pk → Tr Pk := tellS s129 w129 (F129 N)
theorem T129_ok (N : Nat) : FOK Tryz.prog (129) (T129 N) :=
  (fn_ok2 ownT mix (tab129_ok N) Tryz.func129 s129 w129 [] (cuts := []) trivial (fun _ => by kernel_rfl) (by decide +kernel) (F129 N) (fun x => by kernel_rfl))
@[reducible] def s125r250 : SP := ⟨[.yv 0, .int .i64, .int .i64, .adr 1 [], .adr 2 [], .adr 3 [], .adr 4 []], [.lp 2305843009213693952250 [5, 3, 4, 10] [.adr 1 [], .adr 2 [], .adr 3 [], .adr 4 []] 0, .var 145 (.fn 129), .var 169 (.ro y3), .var 169 (.ro y3), .var 169 (.sl 5), .row y3 178]⟩
noncomputable def tab125r250 (N : Nat) : List (Nat × (Pk → Tr Pk)) := [(150, T150 N), (129, T129 N)]
theorem tab125r250_ok (N : Nat) : TabOK Tryz.prog (tab125r250 N) := ⟨T150_ok N, T129_ok N, trivial⟩
@[reducible] def w125r250 : List SP := [⟨[.bc true], [.lp 2305843009213693952250 [5, 3, 4, 10] [.adr 1 [], .adr 2 [], .adr 3 [], .adr 4 []] 0, .var 145 (.fn 129), .var 169 (.ro y3), .var 169 (.ro y3), .var 169 (.sl 5), .row y3 178]⟩]
noncomputable def F125r250 (N : Nat) : (Int × Int × (List (Int × (Int × Unit))) × (List (Int × (Int × Unit))) × (List (Int × (Int × Unit)))) → Option ((List (Int × (Int × Unit))) × (List (Int × (Int × Unit))) × (List (Int × (Int × Unit))))
  | (x0, x1, x2, x3, x4) =>
  Option.bind (F150 N (x2, x0)) fun y0 =>
  Option.bind (F150 N (x3, x0)) fun y1 =>
  Option.bind (F129 N (y0, y1)) fun y2 =>
  iteP (!y2) (
    some ((x2, x3, x4))) (
    iteP (decide ((↑(List.length x4) : Int) > (0 : Int))) (
      iteP (within (IntKind.wrap IntKind.i64 ((↑(List.length x4) : Int) - (1 : Int))) (List.length x4)) (
        Option.bind (x4[Int.toNat (IntKind.wrap IntKind.i64 ((↑(List.length x4) : Int) - (1 : Int)))]?) fun y3 =>
        iteP (y3.2.1 == x0) (
          iteP (within (IntKind.wrap IntKind.i64 ((↑(List.length x4) : Int) - (1 : Int))) (List.length x4)) (
            Option.bind (x4[Int.toNat (IntKind.wrap IntKind.i64 ((↑(List.length x4) : Int) - (1 : Int)))]?) fun y4 =>
            some ((x2, x3, List.set x4 (Int.toNat (IntKind.wrap IntKind.i64 ((↑(List.length x4) : Int) - (1 : Int)))) (y4.1, x1, ())))) (
            none )) (
          iteP (decide ((List.length x4 + List.length [(x0, x1, ())]) * (16 : Nat) ≤ (140737488355328 : Nat) ∧ List.length x4 + List.length [(x0, x1, ())] ≤ (140737488355328 : Nat))) (
            some ((x2, x3, x4 ++ [(x0, x1, ())]))) (
            none ))) (
        none )) (
      iteP (decide ((List.length x4 + List.length [(x0, x1, ())]) * (16 : Nat) ≤ (140737488355328 : Nat) ∧ List.length x4 + List.length [(x0, x1, ())] ≤ (140737488355328 : Nat))) (
        some ((x2, x3, x4 ++ [(x0, x1, ())]))) (
        none )))
noncomputable def T125r250 (N : Nat) : Pk → Tr Pk := tellS s125r250 w125r250 (F125r250 N)
theorem T125r250_ok (N : Nat) : FOK Tryz.prog (125 * bigK + 250) (T125r250 N) :=
  (rnd_ok ownT mix (tab125r250_ok N) Tryz.func125 250 s125r250 w125r250 [0, 1, 2, 3, 4, 1, 2, 3, 4] (cuts := []) trivial (fun _ => by kernel_rfl) (by decide +kernel) (F125r250 N) (fun x => by kernel_rfl))
@[reducible] def s146a : SP := ⟨[.yv 0, .adr 1 []], [.lp 2305843009213693952250 [5, 3, 4, 10] [.adr 2 [], .adr 3 [], .adr 4 [], .adr 5 []] 0, .var 22 (.sl 6), .var 145 (.fn 129), .var 169 (.ro y3), .var 169 (.ro y3), .var 169 (.sl 7), .row (.int .i64) 3, .row y3 178]⟩
noncomputable def tab146a (N : Nat) : List (Nat × (Pk → Tr Pk)) := [(125 * bigK + 250, T125r250 N)]
theorem tab146a_ok (N : Nat) : TabOK Tryz.prog (tab146a N) := ⟨T125r250_ok N, trivial⟩
@[reducible] def L146a_6 : LD := ⟨6, [0, 1, 3], [(.exit 0, [])], ⟨[.yv 0, .adr 1 [], .int .i64], [.lp 2305843009213693952250 [5, 3, 4, 10] [.adr 2 [], .adr 3 [], .adr 4 [], .adr 5 []] 0, .var 22 (.sl 6), .var 145 (.fn 129), .var 169 (.ro y3), .var 169 (.ro y3), .var 169 (.sl 7), .row (.int .i64) 3, .row y3 178]⟩, [(.exit 0, ⟨[], [.lp 2305843009213693952250 [5, 3, 4, 10] [.adr 2 [], .adr 3 [], .adr 4 [], .adr 5 []] 0, .var 22 (.sl 6), .var 145 (.fn 129), .var 169 (.ro y3), .var 169 (.ro y3), .var 169 (.sl 7), .row (.int .i64) 3, .row y3 178]⟩)]⟩
abbrev P146a_6 : Type := Int × (List (Int × (Int × Unit))) × (List (Int × (Int × Unit))) × (List Int) × (List (Int × (Int × Unit)))
abbrev R146a_6 : Type := (List (Int × (Int × Unit))) × (List (Int × (Int × Unit))) × (List Int) × (List (Int × (Int × Unit)))
noncomputable def B146a_6 (N : Nat) (f : P146a_6 → Option R146a_6) : P146a_6 → Option R146a_6
  | (x0, x1, x2, x3, x4) =>
  iteP (decide (x0 < (↑(List.length x3) : Int))) (
    iteP (within (IntKind.wrap IntKind.i64 (x0 - (1 : Int))) (List.length x3)) (
      Option.bind (x3[Int.toNat (IntKind.wrap IntKind.i64 (x0 - (1 : Int)))]?) fun y0 =>
      iteP (within x0 (List.length x3)) (
        Option.bind (x3[Int.toNat x0]?) fun y1 =>
        Option.bind (F125r250 N (y0, y1, x1, x2, x4)) fun y2 =>
        Option.bind (f (IntKind.wrap IntKind.i64 (x0 + (1 : Int)), y2.1, y2.2.1, x3, y2.2.2)) fun r => some r) (
        none )) (
      none )) (
    some ((x1, x2, x3, x4)))
noncomputable def F146a_6 (N : Nat) : Nat → P146a_6 → Option R146a_6
  | 0, _ => none
  | k + 1, x => B146a_6 N (F146a_6 N k) x
noncomputable def C146a_6 (N : Nat) (k : Nat) : Cut := L146a_6.cut (F146a_6 N k)
theorem C146a_6_ok (N : Nat) (k : Nat) : CutAt Tryz.prog false Tryz.f146 [0, 1, 2, 3, 4, 5] 6 (C146a_6 N k) :=
  L146a_6.loopT ownT mix (tab146a_ok N) Tryz.f146 [0, 1, 2, 3, 4, 5] (cuts := []) trivial (by decide +kernel) (by kernel_rfl) (B146a_6 N) (F146a_6 N) (fun _ => rfl) (fun _ _ => rfl) (fun f x => by kernel_rfl) k
@[reducible] def w146a : List SP := [⟨[.tup []], [.lp 2305843009213693952250 [5, 3, 4, 10] [.adr 2 [], .adr 3 [], .adr 4 [], .adr 5 []] 0, .var 22 (.sl 6), .var 145 (.fn 129), .var 169 (.ro y3), .var 169 (.ro y3), .var 169 (.sl 7), .row (.int .i64) 3, .row y3 178]⟩]
noncomputable def F146a (N : Nat) : ((List (Int × (Int × Unit))) × (List (Int × (Int × Unit))) × (List Int) × (List (Int × (Int × Unit)))) → Option ((List (Int × (Int × Unit))) × (List (Int × (Int × Unit))) × (List Int) × (List (Int × (Int × Unit))))
  | (x0, x1, x2, x3) =>
  Option.bind (F146a_6 N N ((1 : Int), x0, x1, x2, x3)) fun y0 =>
  some ((y0.1, y0.2.1, y0.2.2.1, y0.2.2.2))
noncomputable def T146a (N : Nat) : Pk → Tr Pk := tellS s146a w146a (F146a N)
theorem T146a_ok (N : Nat) : FOK Tryz.prog (146) (T146a N) :=
  (fn_ok2 ownT mix (tab146a_ok N) Tryz.func146 s146a w146a [0, 1, 2, 3, 4, 5] (cuts := [(6, C146a_6 N N)]) ⟨C146a_6_ok N N, trivial⟩ (fun _ => by kernel_rfl) (by decide +kernel) (F146a N) (fun x => by kernel_rfl))
@[reducible] def s125 : SP := ⟨[.ro y3, .ro y3, .fn 129], []⟩
noncomputable def tab125 (N : Nat) : List (Nat × (Pk → Tr Pk)) := [(149, T149 N), (124, T124 N), (123, T123 N), (146, T146a N)]
theorem tab125_ok (N : Nat) : TabOK Tryz.prog (tab125 N) := ⟨T149_ok N, T124_ok N, T123_ok N, T146a_ok N, trivial⟩
@[reducible] def L125_58 : LD := ⟨58, [7, 19, 18, 5, 3, 4, 6, 17], [(.ret, [6]), (.exit 0, [7, 6, 4, 3, 5])], ⟨[.sl 0, .int .i64, .int .i64, .adr 1 [], .adr 2 [], .adr 3 [], .sl 4, .sl 5], [.row (.int .i64) 3, .var 145 (.fn 129), .var 169 (.ro y3), .var 169 (.ro y3), .row y3 178, .row y3 178]⟩, [(.exit 0, ⟨[.sl 0, .sl 1, .adr 2 [], .adr 3 [], .adr 4 []], [.row (.int .i64) 3, .row y3 178, .var 169 (.ro y3), .var 169 (.ro y3), .var 145 (.fn 129)]⟩)]⟩
abbrev P125_58 : Type := Int × Int × (List Int) × (List (Int × (Int × Unit))) × (List (Int × (Int × Unit))) × (List (Int × (Int × Unit))) × (List (Int × (Int × Unit)))
abbrev R125_58 : Type := (List Int) × (List (Int × (Int × Unit))) × (List (Int × (Int × Unit))) × (List (Int × (Int × Unit)))
noncomputable def B125_58 (N : Nat) (f : P125_58 → Option R125_58) : P125_58 → Option R125_58
  | (x0, x1, x2, x3, x4, x5, x6) =>
  iteP (decide (x0 < x1)) (
    iteP (within x0 (List.length x6)) (
      Option.bind (x6[Int.toNat x0]?) fun y0 =>
      iteP (decide ((List.length x2 + List.length [y0.1, y0.2.1]) * (8 : Nat) ≤ (140737488355328 : Nat) ∧ List.length x2 + List.length [y0.1, y0.2.1] ≤ (140737488355328 : Nat))) (
        Option.bind (f (IntKind.wrap IntKind.i64 (x0 + (1 : Int)), x1, x2 ++ [y0.1, y0.2.1], x3, x4, x5, x6)) fun r => some r) (
        none )) (
      none )) (
    some ((x2, x5, x4, x3)))
noncomputable def F125_58 (N : Nat) : Nat → P125_58 → Option R125_58
  | 0, _ => none
  | k + 1, x => B125_58 N (F125_58 N k) x
noncomputable def C125_58 (N : Nat) (k : Nat) : Cut := L125_58.cut (F125_58 N k)
theorem C125_58_ok (N : Nat) (k : Nat) : CutAt Tryz.prog false Tryz.f125 [] 58 (C125_58 N k) :=
  L125_58.loopT ownT mix (tab125_ok N) Tryz.f125 [] (cuts := []) trivial (by decide +kernel) (by kernel_rfl) (B125_58 N) (F125_58 N) (fun _ => rfl) (fun _ _ => rfl) (fun f x => by kernel_rfl) k
@[reducible] def L125_250 : LD := ⟨250, [6, 4, 3, 5, 10, 33], [(.ret, [6]), (.exit 2, [10]), (.normal, [10])], ⟨[.sl 0, .adr 1 [], .adr 2 [], .adr 3 [], .adr 4 [], .clo 146 [.adr 5 []]], [.row y3 178, .var 169 (.ro y3), .var 169 (.ro y3), .var 145 (.fn 129), .var 169 (.sl 6), .var 22 (.sl 7), .row y3 178, .row (.int .i64) 3]⟩, [(.normal, ⟨[.adr 0 []], [.var 169 (.sl 1), .row y3 178]⟩)]⟩
noncomputable def F125_250 (N : Nat) : ((List (Int × (Int × Unit))) × (List (Int × (Int × Unit))) × (List (Int × (Int × Unit))) × (List (Int × (Int × Unit))) × (List Int)) → Option ((List (Int × (Int × Unit))))
  | (x0, x1, x2, x3, x4) =>
  Option.bind (F146a N (x2, x1, x4, x3)) fun y0 =>
  some y0.2.2.2
noncomputable def C125_250 (N : Nat) (_ : Nat) : Cut := L125_250.cut (F125_250 N)
theorem C125_250_ok (N : Nat) (k : Nat) : CutAt Tryz.prog false Tryz.f125 [] 250 (C125_250 N k) :=
  L125_250.rngT ownT mix (tab125_ok N) Tryz.func125 [] [5, 3, 4, 10] (by decide +kernel) (F125_250 N) (fun x => by kernel_rfl)
@[reducible] def w125 : List SP := [⟨[.sl 0], [.row y3 178]⟩]
noncomputable def F125 (N : Nat) : ((List (Int × (Int × Unit))) × (List (Int × (Int × Unit)))) → Option ((List (Int × (Int × Unit))))
  | (x0, x1) =>
  Option.bind (F149 N [x0, x1]) fun y0 =>
  Option.bind (F125_58 N N ((0 : Int), (↑(List.length y0) : Int), [], x0, x1, [], y0)) fun y1 =>
  Option.bind (F124 N y1.1) fun y2 =>
  Option.bind (F123 N y2) fun y3 =>
  Option.bind (F125_250 N (y1.2.1, y1.2.2.1, y1.2.2.2, [], y3)) fun y4 =>
  some (y4)
noncomputable def T125 (N : Nat) : Pk → Tr Pk := tellS s125 w125 (F125 N)
theorem T125_ok (N : Nat) : FOK Tryz.prog (125) (T125 N) :=
  (fn_ok2 ownT mix (tab125_ok N) Tryz.func125 s125 w125 [] (cuts := [(58, C125_58 N N), (250, C125_250 N N)]) ⟨C125_58_ok N N, C125_250_ok N N, trivial⟩ (fun _ => by kernel_rfl) (by decide +kernel) (F125 N) (fun x => by kernel_rfl))
@[reducible] def s127 : SP := ⟨[.ro y3, .ro y3], []⟩
noncomputable def tab127 (N : Nat) : List (Nat × (Pk → Tr Pk)) := []
theorem tab127_ok (N : Nat) : TabOK Tryz.prog (tab127 N) := trivial
@[reducible] def L127_58 : LD := ⟨58, [12, 0, 1, 13], [(.ret, [4]), (.exit 0, [])], ⟨[.int .i64, .ro y3, .ro y3, .int .i64], []⟩, [(.ret, ⟨[.bool], []⟩), (.exit 0, ⟨[], []⟩)]⟩
abbrev P127_58 : Type := Int × (List (Int × (Int × Unit))) × (List (Int × (Int × Unit))) × Int
abbrev R127_58 : Type := ((Bool) ⊕ (Unit))
noncomputable def B127_58 (N : Nat) (f : P127_58 → Option R127_58) : P127_58 → Option R127_58
  | (x0, x1, x2, x3) =>
  iteP (decide (x3 < x0)) (
    iteP (within x3 (List.length x1)) (
      Option.bind (x1[Int.toNat x3]?) fun y0 =>
      iteP (within x3 (List.length x2)) (
        Option.bind (x2[Int.toNat x3]?) fun y1 =>
        iteP (!(y0.1 == y1.1 && (y0.2.1 == y1.2.1 && true))) (
          some (.inl (false))) (
          Option.bind (f (x0, x1, x2, IntKind.wrap IntKind.i64 (x3 + (1 : Int)))) fun r => match r with | .inl y => some (.inl y) | .inr y => some (.inr y))) (
        none )) (
      none )) (
    some (.inr (())))
noncomputable def F127_58 (N : Nat) : Nat → P127_58 → Option R127_58
  | 0, _ => none
  | k + 1, x => B127_58 N (F127_58 N k) x
noncomputable def C127_58 (N : Nat) (k : Nat) : Cut := L127_58.cut (F127_58 N k)
theorem C127_58_ok (N : Nat) (k : Nat) : CutAt Tryz.prog false Tryz.f127 [] 58 (C127_58 N k) :=
  L127_58.loopT ownT mix (tab127_ok N) Tryz.f127 [] (cuts := []) trivial (by decide +kernel) (by kernel_rfl) (B127_58 N) (F127_58 N) (fun _ => rfl) (fun _ _ => rfl) (fun f x => by kernel_rfl) k
@[reducible] def w127 : List SP := [⟨[.bool], []⟩]
noncomputable def F127 (N : Nat) : ((List (Int × (Int × Unit))) × (List (Int × (Int × Unit)))) → Option (Bool)
  | (x0, x1) =>
  iteP ((↑(List.length x0) : Int) != (↑(List.length x1) : Int)) (
    some (false)) (
    Option.bind (F127_58 N N ((↑(List.length x0) : Int), x0, x1, (0 : Int))) fun y0 =>
    match y0 with
    | .inl y1 =>
      some (y1)
    | .inr y1 =>
      some (true))
noncomputable def T127 (N : Nat) : Pk → Tr Pk := tellS s127 w127 (F127 N)
theorem T127_ok (N : Nat) : FOK Tryz.prog (127) (T127 N) :=
  (fn_ok2 ownT mix (tab127_ok N) Tryz.func127 s127 w127 [] (cuts := [(58, C127_58 N N)]) ⟨C127_58_ok N N, trivial⟩ (fun _ => by kernel_rfl) (by decide +kernel) (F127 N) (fun x => by kernel_rfl))
@[reducible] def s128 : SP := ⟨[.agg [.int .i64, .int .i64, .ro y3]], []⟩
noncomputable def tab128 (N : Nat) : List (Nat × (Pk → Tr Pk)) := []
theorem tab128_ok (N : Nat) : TabOK Tryz.prog (tab128 N) := trivial
@[reducible] def L128_58 : LD := ⟨58, [3, 9, 8, 7, 1], [(.ret, [2]), (.exit 0, [3])], ⟨[.sl 0, .int .i64, .int .i64, .ro y3, .adr 1 []], [.row y1 58, .var 171 (.agg [.int .i64, .int .i64, .ro y3])]⟩, [(.exit 0, ⟨[.sl 0], [.row y1 58]⟩)]⟩
abbrev P128_58 : Type := Int × Int × (List (Int × (Int × Unit))) × (List (Int × (Int × (Int × (Int × Unit))))) × Int × Int × (List (Int × (Int × Unit)))
abbrev R128_58 : Type := (List (Int × (Int × (Int × (Int × Unit)))))
noncomputable def B128_58 (N : Nat) (f : P128_58 → Option R128_58) : P128_58 → Option R128_58
  | (x0, x1, x2, x3, x4, x5, x6) =>
  iteP (decide (x0 < x1)) (
    iteP (within x0 (List.length x2)) (
      Option.bind (x2[Int.toNat x0]?) fun y0 =>
      iteP (decide ((List.length x3 + List.length [(y0.1, x4, IntKind.wrap IntKind.i64 (y0.2.1 - y0.1), IntKind.wrap IntKind.i64 (x5 - x4), ())]) * (32 : Nat) ≤ (140737488355328 : Nat) ∧ List.length x3 + List.length [(y0.1, x4, IntKind.wrap IntKind.i64 (y0.2.1 - y0.1), IntKind.wrap IntKind.i64 (x5 - x4), ())] ≤ (140737488355328 : Nat))) (
        Option.bind (f (IntKind.wrap IntKind.i64 (x0 + (1 : Int)), x1, x2, x3 ++ [(y0.1, x4, IntKind.wrap IntKind.i64 (y0.2.1 - y0.1), IntKind.wrap IntKind.i64 (x5 - x4), ())], x4, x5, x6)) fun r => some r) (
        none )) (
      none )) (
    some (x3))
noncomputable def F128_58 (N : Nat) : Nat → P128_58 → Option R128_58
  | 0, _ => none
  | k + 1, x => B128_58 N (F128_58 N k) x
noncomputable def C128_58 (N : Nat) (k : Nat) : Cut := L128_58.cut (F128_58 N k)
theorem C128_58_ok (N : Nat) (k : Nat) : CutAt Tryz.prog false Tryz.f128 [] 58 (C128_58 N k) :=
  L128_58.loopT ownT mix (tab128_ok N) Tryz.f128 [] (cuts := []) trivial (by decide +kernel) (by kernel_rfl) (B128_58 N) (F128_58 N) (fun _ => rfl) (fun _ _ => rfl) (fun f x => by kernel_rfl) k
@[reducible] def w128 : List SP := [⟨[.sl 0], [.row y1 58]⟩]
noncomputable def F128 (N : Nat) : (Int × Int × (List (Int × (Int × Unit)))) → Option ((List (Int × (Int × (Int × (Int × Unit))))))
  | (x0, x1, x2) =>
  Option.bind (F128_58 N N ((0 : Int), (↑(List.length x2) : Int), x2, [], x0, x1, x2)) fun y0 =>
  some (y0)
noncomputable def T128 (N : Nat) : Pk → Tr Pk := tellS s128 w128 (F128 N)
theorem T128_ok (N : Nat) : FOK Tryz.prog (128) (T128 N) :=
  (fn_ok2 ownT mix (tab128_ok N) Tryz.func128 s128 w128 [] (cuts := [(58, C128_58 N N)]) ⟨C128_58_ok N N, trivial⟩ (fun _ => by kernel_rfl) (by decide +kernel) (F128 N) (fun x => by kernel_rfl))
@[reducible] def s95r1018 : SP := ⟨[.yv 0, .int .i64, .int .i64, .adr 1 [], .adr 2 [], .adr 3 [], .adr 4 [], .adr 5 []], [.lp 1752440687002407404538 [3, 4, 5, 10, 11] [.adr 1 [], .adr 2 [], .adr 3 [], .adr 4 [], .adr 5 []] 0, .var 35 (.ro y1), .var 35 (.ro y1), .var 145 (.fn 129), .var 35 (.sl 6), .var 171 (.agg [.int .i64, .int .i64, .sl 7]), .row y1 58, .row y3 178]⟩
noncomputable def tab95r1018 (N : Nat) : List (Nat × (Pk → Tr Pk)) := [(126, T126 N), (125, T125 N), (127, T127 N), (128, T128 N)]
theorem tab95r1018_ok (N : Nat) : TabOK Tryz.prog (tab95r1018 N) := ⟨T126_ok N, T125_ok N, T127_ok N, T128_ok N, trivial⟩
@[reducible] def w95r1018 : List SP := [⟨[.bc true], [.lp 1752440687002407404538 [3, 4, 5, 10, 11] [.adr 1 [], .adr 2 [], .adr 3 [], .adr 4 [], .adr 5 []] 0, .var 35 (.ro y1), .var 35 (.ro y1), .var 145 (.fn 129), .var 35 (.sl 6), .var 171 (.agg [.int .i64, .int .i64, .sl 7]), .row y1 58, .row y3 178]⟩]
noncomputable def F95r1018 (N : Nat) : (Int × Int × (List (Int × (Int × (Int × (Int × Unit))))) × (List (Int × (Int × (Int × (Int × Unit))))) × Int × Int × (List (Int × (Int × (Int × (Int × Unit))))) × (List (Int × (Int × Unit)))) → Option ((List (Int × (Int × (Int × (Int × Unit))))) × (List (Int × (Int × (Int × (Int × Unit))))) × Int × Int × (List (Int × (Int × (Int × (Int × Unit))))) × (List (Int × (Int × Unit))))
  | (x0, x1, x2, x3, x4, x5, x6, x7) =>
  Option.bind (F126 N (x2, x0)) fun y0 =>
  Option.bind (F126 N (x3, x0)) fun y1 =>
  Option.bind (F125 N (y0, y1)) fun y2 =>
  iteP (decide ((↑(List.length y2) : Int) > (0 : Int))) (
    iteP (x5 == x0) (
      Option.bind (F127 N (y2, x7)) fun y3 =>
      iteP (y3) (
        some ((x2, x3, x4, x1, x6, x7))) (
        Option.bind (F128 N (x4, x5, x7)) fun y4 =>
        iteP (decide ((List.length x6 + List.length y4) * (32 : Nat) ≤ (140737488355328 : Nat) ∧ List.length x6 + List.length y4 ≤ (140737488355328 : Nat))) (
          some ((x2, x3, x0, x1, x6 ++ y4, y2))) (
          none ))) (
      Option.bind (F128 N (x4, x5, x7)) fun y5 =>
      iteP (decide ((List.length x6 + List.length y5) * (32 : Nat) ≤ (140737488355328 : Nat) ∧ List.length x6 + List.length y5 ≤ (140737488355328 : Nat))) (
        some ((x2, x3, x0, x1, x6 ++ y5, y2))) (
        none ))) (
    Option.bind (F128 N (x4, x5, x7)) fun y6 =>
    iteP (decide ((List.length x6 + List.length y6) * (32 : Nat) ≤ (140737488355328 : Nat) ∧ List.length x6 + List.length y6 ≤ (140737488355328 : Nat))) (
      some ((x2, x3, x0, x1, x6 ++ y6, y2))) (
      none ))
noncomputable def T95r1018 (N : Nat) : Pk → Tr Pk := tellS s95r1018 w95r1018 (F95r1018 N)
theorem T95r1018_ok (N : Nat) : FOK Tryz.prog (95 * bigK + 1018) (T95r1018 N) :=
  (rnd_ok ownT mix (tab95r1018_ok N) Tryz.func95 1018 s95r1018 w95r1018 [0, 1, 2, 3, 4, 5, 1, 2, 3, 4, 5] (cuts := []) trivial (fun _ => by kernel_rfl) (by decide +kernel) (F95r1018 N) (fun x => by kernel_rfl))
@[reducible] def s146 : SP := ⟨[.yv 0, .adr 1 []], [.lp 1752440687002407404538 [3, 4, 5, 10, 11] [.adr 2 [], .adr 3 [], .adr 4 [], .adr 5 [], .adr 6 []] 0, .var 22 (.sl 7), .var 35 (.ro y1), .var 35 (.ro y1), .var 145 (.fn 129), .var 35 (.sl 8), .var 171 (.agg [.int .i64, .int .i64, .sl 9]), .row (.int .i64) 3, .row y1 58, .row y3 178]⟩
noncomputable def tab146 (N : Nat) : List (Nat × (Pk → Tr Pk)) := [(95 * bigK + 1018, T95r1018 N)]
theorem tab146_ok (N : Nat) : TabOK Tryz.prog (tab146 N) := ⟨T95r1018_ok N, trivial⟩
@[reducible] def L146_6 : LD := ⟨6, [0, 1, 3], [(.exit 0, [])], ⟨[.yv 0, .adr 1 [], .int .i64], [.lp 1752440687002407404538 [3, 4, 5, 10, 11] [.adr 2 [], .adr 3 [], .adr 4 [], .adr 5 [], .adr 6 []] 0, .var 22 (.sl 7), .var 35 (.ro y1), .var 35 (.ro y1), .var 145 (.fn 129), .var 35 (.sl 8), .var 171 (.agg [.int .i64, .int .i64, .sl 9]), .row (.int .i64) 3, .row y1 58, .row y3 178]⟩, [(.exit 0, ⟨[], [.lp 1752440687002407404538 [3, 4, 5, 10, 11] [.adr 2 [], .adr 3 [], .adr 4 [], .adr 5 [], .adr 6 []] 0, .var 22 (.sl 7), .var 35 (.ro y1), .var 35 (.ro y1), .var 145 (.fn 129), .var 35 (.sl 8), .var 171 (.agg [.int .i64, .int .i64, .sl 9]), .row (.int .i64) 3, .row y1 58, .row y3 178]⟩)]⟩
abbrev P146_6 : Type := Int × (List (Int × (Int × (Int × (Int × Unit))))) × (List (Int × (Int × (Int × (Int × Unit))))) × Int × Int × (List Int) × (List (Int × (Int × (Int × (Int × Unit))))) × (List (Int × (Int × Unit)))
abbrev R146_6 : Type := (List (Int × (Int × (Int × (Int × Unit))))) × (List (Int × (Int × (Int × (Int × Unit))))) × Int × Int × (List Int) × (List (Int × (Int × (Int × (Int × Unit))))) × (List (Int × (Int × Unit)))
noncomputable def B146_6 (N : Nat) (f : P146_6 → Option R146_6) : P146_6 → Option R146_6
  | (x0, x1, x2, x3, x4, x5, x6, x7) =>
  iteP (decide (x0 < (↑(List.length x5) : Int))) (
    iteP (within (IntKind.wrap IntKind.i64 (x0 - (1 : Int))) (List.length x5)) (
      Option.bind (x5[Int.toNat (IntKind.wrap IntKind.i64 (x0 - (1 : Int)))]?) fun y0 =>
      iteP (within x0 (List.length x5)) (
        Option.bind (x5[Int.toNat x0]?) fun y1 =>
        Option.bind (F95r1018 N (y0, y1, x1, x2, x3, x4, x6, x7)) fun (y2_0, y2_1, y2_2, y2_3, y2_4, y2_5) =>
        Option.bind (f (IntKind.wrap IntKind.i64 (x0 + (1 : Int)), y2_0, y2_1, y2_2, y2_3, x5, y2_4, y2_5)) fun r => some r) (
        none )) (
      none )) (
    some ((x1, x2, x3, x4, x5, x6, x7)))
noncomputable def F146_6 (N : Nat) : Nat → P146_6 → Option R146_6
  | 0, _ => none
  | k + 1, x => B146_6 N (F146_6 N k) x
noncomputable def C146_6 (N : Nat) (k : Nat) : Cut := L146_6.cut (F146_6 N k)
theorem C146_6_ok (N : Nat) (k : Nat) : CutAt Tryz.prog false Tryz.f146 [0, 1, 2, 3, 4, 5, 6] 6 (C146_6 N k) :=
  L146_6.loopT ownT mix (tab146_ok N) Tryz.f146 [0, 1, 2, 3, 4, 5, 6] (cuts := []) trivial (by decide +kernel) (by kernel_rfl) (B146_6 N) (F146_6 N) (fun _ => rfl) (fun _ _ => rfl) (fun f x => by kernel_rfl) k
@[reducible] def w146 : List SP := [⟨[.tup []], [.lp 1752440687002407404538 [3, 4, 5, 10, 11] [.adr 2 [], .adr 3 [], .adr 4 [], .adr 5 [], .adr 6 []] 0, .var 22 (.sl 7), .var 35 (.ro y1), .var 35 (.ro y1), .var 145 (.fn 129), .var 35 (.sl 8), .var 171 (.agg [.int .i64, .int .i64, .sl 9]), .row (.int .i64) 3, .row y1 58, .row y3 178]⟩]
noncomputable def F146 (N : Nat) : ((List (Int × (Int × (Int × (Int × Unit))))) × (List (Int × (Int × (Int × (Int × Unit))))) × Int × Int × (List Int) × (List (Int × (Int × (Int × (Int × Unit))))) × (List (Int × (Int × Unit)))) → Option ((List (Int × (Int × (Int × (Int × Unit))))) × (List (Int × (Int × (Int × (Int × Unit))))) × Int × Int × (List Int) × (List (Int × (Int × (Int × (Int × Unit))))) × (List (Int × (Int × Unit))))
  | (x0, x1, x2, x3, x4, x5, x6) =>
  Option.bind (F146_6 N N ((1 : Int), x0, x1, x2, x3, x4, x5, x6)) fun (y0_0, y0_1, y0_2, y0_3, y0_4, y0_5, y0_6) =>
  some ((y0_0, y0_1, y0_2, y0_3, y0_4, y0_5, y0_6))
noncomputable def T146 (N : Nat) : Pk → Tr Pk := tellS s146 w146 (F146 N)
theorem T146_ok (N : Nat) : FOK Tryz.prog (146) (T146 N) :=
  (fn_ok2 ownT mix (tab146_ok N) Tryz.func146 s146 w146 [0, 1, 2, 3, 4, 5, 6] (cuts := [(6, C146_6 N N)]) ⟨C146_6_ok N N, trivial⟩ (fun _ => by kernel_rfl) (by decide +kernel) (F146 N) (fun x => by kernel_rfl))
@[reducible] def s95 : SP := ⟨[.sl 0, .sl 1, .fn 129], [.row y1 58, .row y1 58]⟩
noncomputable def tab95 (N : Nat) : List (Nat × (Pk → Tr Pk)) := [(121, T121 N), (122, T122 N), (124, T124 N), (123, T123 N), (146, T146 N), (128, T128 N)]
theorem tab95_ok (N : Nat) : TabOK Tryz.prog (tab95 N) := ⟨T121_ok N, T122_ok N, T124_ok N, T123_ok N, T146_ok N, T128_ok N, trivial⟩
@[reducible] def L95_122 : LD := ⟨122, [7, 24, 23, 3, 4, 5, 6, 22], [(.ret, [6]), (.exit 0, [7, 6, 5, 4, 3])], ⟨[.sl 0, .int .i64, .int .i64, .adr 1 [], .adr 2 [], .adr 3 [], .sl 4, .sl 5], [.row (.int .i64) 3, .var 35 (.ro y1), .var 35 (.ro y1), .var 145 (.fn 129), .row y1 58, .row y1 58]⟩, [(.exit 0, ⟨[.sl 0, .sl 1, .adr 2 [], .adr 3 [], .adr 4 []], [.row (.int .i64) 3, .row y1 58, .var 145 (.fn 129), .var 35 (.ro y1), .var 35 (.ro y1)]⟩)]⟩
abbrev P95_122 : Type := Int × Int × (List Int) × (List (Int × (Int × (Int × (Int × Unit))))) × (List (Int × (Int × (Int × (Int × Unit))))) × (List (Int × (Int × (Int × (Int × Unit))))) × (List (Int × (Int × (Int × (Int × Unit)))))
abbrev R95_122 : Type := (List Int) × (List (Int × (Int × (Int × (Int × Unit))))) × (List (Int × (Int × (Int × (Int × Unit))))) × (List (Int × (Int × (Int × (Int × Unit)))))
noncomputable def B95_122 (N : Nat) (f : P95_122 → Option R95_122) : P95_122 → Option R95_122
  | (x0, x1, x2, x3, x4, x5, x6) =>
  iteP (decide (x0 < x1)) (
    iteP (within x0 (List.length x6)) (
      Option.bind (x6[Int.toNat x0]?) fun y0 =>
      iteP (decide ((List.length x2 + List.length [y0.2.1, IntKind.wrap IntKind.i64 (y0.2.1 + y0.2.2.2.1)]) * (8 : Nat) ≤ (140737488355328 : Nat) ∧ List.length x2 + List.length [y0.2.1, IntKind.wrap IntKind.i64 (y0.2.1 + y0.2.2.2.1)] ≤ (140737488355328 : Nat))) (
        Option.bind (f (IntKind.wrap IntKind.i64 (x0 + (1 : Int)), x1, x2 ++ [y0.2.1, IntKind.wrap IntKind.i64 (y0.2.1 + y0.2.2.2.1)], x3, x4, x5, x6)) fun r => some r) (
        none )) (
      none )) (
    some ((x2, x5, x4, x3)))
noncomputable def F95_122 (N : Nat) : Nat → P95_122 → Option R95_122
  | 0, _ => none
  | k + 1, x => B95_122 N (F95_122 N k) x
noncomputable def C95_122 (N : Nat) (k : Nat) : Cut := L95_122.cut (F95_122 N k)
theorem C95_122_ok (N : Nat) (k : Nat) : CutAt Tryz.prog false Tryz.f95 [] 122 (C95_122 N k) :=
  L95_122.loopT ownT mix (tab95_ok N) Tryz.f95 [] (cuts := []) trivial (by decide +kernel) (by kernel_rfl) (B95_122 N) (F95_122 N) (fun _ => rfl) (fun _ _ => rfl) (fun f x => by kernel_rfl) k
@[reducible] def L95_1018 : LD := ⟨1018, [6, 5, 4, 3, 11, 10, 41], [(.ret, [6]), (.exit 2, [10, 11]), (.normal, [10, 11])], ⟨[.sl 0, .adr 1 [], .adr 2 [], .adr 3 [], .adr 4 [], .adr 5 [], .clo 146 [.adr 6 []]], [.row y1 58, .var 145 (.fn 129), .var 35 (.ro y1), .var 35 (.ro y1), .var 171 (.agg [.int .i64, .int .i64, .sl 7]), .var 35 (.sl 8), .var 22 (.sl 9), .row y3 178, .row y1 58, .row (.int .i64) 3]⟩, [(.normal, ⟨[.adr 0 [], .adr 1 []], [.var 35 (.sl 2), .var 171 (.agg [.int .i64, .int .i64, .sl 3]), .row y1 58, .row y3 178]⟩)]⟩
noncomputable def F95_1018 (N : Nat) : ((List (Int × (Int × (Int × (Int × Unit))))) × (List (Int × (Int × (Int × (Int × Unit))))) × (List (Int × (Int × (Int × (Int × Unit))))) × Int × Int × (List (Int × (Int × Unit))) × (List (Int × (Int × (Int × (Int × Unit))))) × (List Int)) → Option (Int × Int × (List (Int × (Int × (Int × (Int × Unit))))) × (List (Int × (Int × Unit))))
  | (x0, x1, x2, x3, x4, x5, x6, x7) =>
  Option.bind (F146 N (x2, x1, x3, x4, x7, x6, x5)) fun (y0_0, y0_1, y0_2, y0_3, y0_4, y0_5, y0_6) =>
  some ((y0_2, y0_3, y0_5, y0_6))
noncomputable def C95_1018 (N : Nat) (_ : Nat) : Cut := L95_1018.cut (F95_1018 N)
theorem C95_1018_ok (N : Nat) (k : Nat) : CutAt Tryz.prog false Tryz.f95 [] 1018 (C95_1018 N k) :=
  L95_1018.rngT ownT mix (tab95_ok N) Tryz.func95 [] [3, 4, 5, 10, 11] (by decide +kernel) (F95_1018 N) (fun x => by kernel_rfl)
@[reducible] def w95 : List SP := [⟨[.sl 0], [.row y1 58]⟩]
noncomputable def F95 (N : Nat) : ((List (Int × (Int × (Int × (Int × Unit))))) × (List (Int × (Int × (Int × (Int × Unit)))))) → Option ((List (Int × (Int × (Int × (Int × Unit))))))
  | (x0, x1) =>
  Option.bind (F121 N x0) fun y0 =>
  Option.bind (F121 N x1) fun y1 =>
  Option.bind (F122 N [y0, y1]) fun y2 =>
  Option.bind (F95_122 N N ((0 : Int), (↑(List.length y2) : Int), [], y0, y1, [], y2)) fun y3 =>
  Option.bind (F124 N y3.1) fun y4 =>
  Option.bind (F123 N y4) fun y5 =>
  Option.bind (F95_1018 N (y3.2.1, y3.2.2.1, y3.2.2.2, (0 : Int), (0 : Int), [], [], y5)) fun y6 =>
  Option.bind (F128 N (y6.1, y6.2.1, y6.2.2.2)) fun y7 =>
  iteP (decide ((List.length y6.2.2.1 + List.length y7) * (32 : Nat) ≤ (140737488355328 : Nat) ∧ List.length y6.2.2.1 + List.length y7 ≤ (140737488355328 : Nat))) (
    some (y6.2.2.1 ++ y7)) (
    none )
noncomputable def T95 (N : Nat) : Pk → Tr Pk := tellS s95 w95 (F95 N)
theorem T95_ok (N : Nat) : FOK Tryz.prog (95) (T95 N) :=
  (fn_ok2 ownT mix (tab95_ok N) Tryz.func95 s95 w95 [] (cuts := [(122, C95_122 N N), (1018, C95_1018 N N)]) ⟨C95_122_ok N N, C95_1018_ok N N, trivial⟩ (fun _ => by kernel_rfl) (by decide +kernel) (F95 N) (fun x => by kernel_rfl))
@[reducible] def s97 : SP := ⟨[.sl 0], [.row y1 58]⟩
noncomputable def tab97 (N : Nat) : List (Nat × (Pk → Tr Pk)) := [(95, T95 N)]
theorem tab97_ok (N : Nat) : TabOK Tryz.prog (tab97 N) := ⟨T95_ok N, trivial⟩
@[reducible] def w97 : List SP := [⟨[.sl 0], [.row y1 58]⟩]
noncomputable def F97 (N : Nat) : ((List (Int × (Int × (Int × (Int × Unit)))))) → Option ((List (Int × (Int × (Int × (Int × Unit))))))
  | x0 =>
  Option.bind (F95 N (x0, [])) fun y0 =>
  some (y0)
noncomputable def T97 (N : Nat) : Pk → Tr Pk := tellS s97 w97 (F97 N)
theorem T97_ok (N : Nat) : FOK Tryz.prog (97) (T97 N) :=
  (fn_ok2 ownT mix (tab97_ok N) Tryz.func97 s97 w97 [] (cuts := []) trivial (fun _ => by kernel_rfl) (by decide +kernel) (F97 N) (fun x => by kernel_rfl))
@[reducible] def s63 : SP := ⟨[.adr 0 []], [.var 62 (.agg [.adr 1 [], .str, .int .i64, .str, .str, .fv, .bool, .int .i64, .agg [.sl 2], .agg [.agg [.agg [.agg [.bool, .str]]]], .agg [.int .i64, .int .i64, .bool, .bool, .int .i64, .int .i64, .int .i64, .int .i64, .int .i64, .int .i64], .sl 3, .sl 4, .sl 5, .sl 6, .bool, .bool, .agg [.agg [.int .i64, .int .i64, .int .i64, .int .i64], .agg [.int .i64, .int .i64, .int .i64, .int .i64], .bool], .int .i64]), .var 100 (.agg [.int .i64, .int .i64, .sl 7]), .row y0 70, .row (.int .i64) 3, .row y1 58, .row y1 58, .row y1 58, .row (.int .i64) 3]⟩
noncomputable def tab63 (N : Nat) : List (Nat × (Pk → Tr Pk)) := [(98, T98 N), (97, T97 N)]
theorem tab63_ok (N : Nat) : TabOK Tryz.prog (tab63 N) := ⟨T98_ok N, T97_ok N, trivial⟩
@[reducible] def w63 : List SP := [⟨[.tup []], [.var 62 (.agg [.adr 1 [], .str, .int .i64, .str, .str, .fv, .bool, .int .i64, .agg [.sl 2], .agg [.agg [.agg [.agg [.bool, .str]]]], .agg [.int .i64, .int .i64, .bool, .bool, .int .i64, .int .i64, .int .i64, .int .i64, .int .i64, .int .i64], .sl 3, .sl 4, .sl 5, .sl 6, .bool, .bool, .agg [.agg [.int .i64, .int .i64, .int .i64, .int .i64], .agg [.int .i64, .int .i64, .int .i64, .int .i64], .bool], .int .i64]), .var 100 (.agg [.int .i64, .int .i64, .sl 7]), .row y0 70, .row (.int .i64) 3, .row y1 58, .row y1 58, .row y1 58, .row (.int .i64) 3]⟩]
noncomputable def F63 (N : Nat) : (ByteArray × Int × ByteArray × ByteArray × Nat × Bool × Int × Bool × ByteArray × Int × Int × Bool × Bool × Int × Int × Int × Int × Int × Int × Bool × Bool × Int × Int × Int × Int × Int × Int × Int × Int × Bool × Int × Int × Int × (List (Int × (Bool × (Int × ((Int × (Int × (Int × (Int × Unit)))) × ((Int × (Int × (Bool × (Bool × (Int × (Int × (Int × (Int × (Int × (Int × Unit)))))))))) × ((List Int) × (ByteArray × Unit)))))))) × (List Int) × (List (Int × (Int × (Int × (Int × Unit))))) × (List (Int × (Int × (Int × (Int × Unit))))) × (List (Int × (Int × (Int × (Int × Unit))))) × (List Int)) → Option (ByteArray × Int × ByteArray × ByteArray × Nat × Bool × Int × Bool × ByteArray × Int × Int × Bool × Bool × Int × Int × Int × Int × Int × Int × Bool × Bool × Int × Int × Int × Int × Int × Int × Int × Int × Bool × Int × Int × Int × (List (Int × (Bool × (Int × ((Int × (Int × (Int × (Int × Unit)))) × ((Int × (Int × (Bool × (Bool × (Int × (Int × (Int × (Int × (Int × (Int × Unit)))))))))) × ((List Int) × (ByteArray × Unit)))))))) × (List Int) × (List (Int × (Int × (Int × (Int × Unit))))) × (List (Int × (Int × (Int × (Int × Unit))))) × (List (Int × (Int × (Int × (Int × Unit))))) × (List Int))
  | (x0, x1, x2, x3, x4, x5, x6, x7, x8, x9, x10, x11, x12, x13, x14, x15, x16, x17, x18, x19, x20, x21, x22, x23, x24, x25, x26, x27, x28, x29, x30, x31, x32, x33, x34, x35, x36, x37, x38) =>
  Option.bind (F98 N (x0, x1, x2, x3, x4, x5, x6, x7, x8, x9, x10, x11, x12, x13, x14, x15, x16, x17, x18, x19, x20, x21, x22, x23, x24, x25, x26, x27, x28, x29, x30, x31, x32, x33, x34, x35, x36, x37, x38)) fun (y0_0, y0_1, y0_2, y0_3, y0_4, y0_5, y0_6, y0_7, y0_8, y0_9, y0_10, y0_11, y0_12, y0_13, y0_14, y0_15, y0_16, y0_17, y0_18, y0_19, y0_20, y0_21, y0_22, y0_23, y0_24, y0_25, y0_26, y0_27, y0_28, y0_29, y0_30, y0_31, y0_32, y0_33, y0_34, y0_35, y0_36, y0_37, y0_38, y0_39, y0_40, y0_41, y0_42) =>
  Option.bind (F97 N [(y0_0, y0_1, y0_2, y0_3, ())]) fun y1 =>
  some ((y0_4, y0_5, y0_6, y0_7, y0_8, y0_9, y0_10, y0_11, y0_12, y0_13, y0_14, y0_15, y0_16, y0_17, y0_18, y0_19, y0_20, y0_21, y0_22, y0_23, y0_24, (0 : Int), (0 : Int), (0 : Int), (0 : Int), (0 : Int), (0 : Int), (0 : Int), (0 : Int), false, y0_34, y0_35, y0_36, y0_37, y0_38, y1, y0_40, [], y0_42))
noncomputable def T63 (N : Nat) : Pk → Tr Pk := tellS s63 w63 (F63 N)
theorem T63_ok (N : Nat) : FOK Tryz.prog (63) (T63 N) :=
  (fn_ok2 ownT mix (tab63_ok N) Tryz.func63 s63 w63 [0, 1] (cuts := []) trivial (fun _ => by kernel_rfl) (by decide +kernel) (F63 N) (fun x => by kernel_rfl))
@[reducible] def s110 : SP := ⟨[.adr 0 []], [.var 62 (.agg [.adr 1 [], .str, .int .i64, .str, .str, .fv, .bool, .int .i64, .agg [.sl 2], .agg [.agg [.agg [.agg [.bool, .str]]]], .agg [.int .i64, .int .i64, .bool, .bool, .int .i64, .int .i64, .int .i64, .int .i64, .int .i64, .int .i64], .sl 3, .sl 4, .sl 5, .sl 6, .bool, .bool, .agg [.agg [.int .i64, .int .i64, .int .i64, .int .i64], .agg [.int .i64, .int .i64, .int .i64, .int .i64], .bool], .int .i64]), .var 100 (.agg [.int .i64, .int .i64, .sl 7]), .row y0 70, .row (.int .i64) 3, .row y1 58, .row y1 58, .row y1 58, .row (.int .i64) 3]⟩
noncomputable def tab110 (N : Nat) : List (Nat × (Pk → Tr Pk)) := [(108, T108 N), (130, T130 N), (138, T138 N), (139, T139 N), (63, T63 N)]
theorem tab110_ok (N : Nat) : TabOK Tryz.prog (tab110 N) := ⟨T108_ok N, T130_ok N, T138_ok N, T139_ok N, T63_ok N, trivial⟩
@[reducible] def w110 : List SP := [⟨[.bool], [.var 62 (.agg [.adr 1 [], .str, .int .i64, .str, .str, .fv, .bool, .int .i64, .agg [.sl 2], .agg [.agg [.agg [.agg [.bool, .str]]]], .agg [.int .i64, .int .i64, .bool, .bool, .int .i64, .int .i64, .int .i64, .int .i64, .int .i64, .int .i64], .sl 3, .sl 4, .sl 5, .sl 6, .bool, .bool, .agg [.agg [.int .i64, .int .i64, .int .i64, .int .i64], .agg [.int .i64, .int .i64, .int .i64, .int .i64], .bool], .int .i64]), .var 100 (.agg [.int .i64, .int .i64, .sl 7]), .row y0 70, .row (.int .i64) 3, .row y1 58, .row y1 58, .row y1 58, .row (.int .i64) 3]⟩]
noncomputable def F110 (N : Nat) : (ByteArray × Int × ByteArray × ByteArray × Nat × Bool × Int × Bool × ByteArray × Int × Int × Bool × Bool × Int × Int × Int × Int × Int × Int × Bool × Bool × Int × Int × Int × Int × Int × Int × Int × Int × Bool × Int × Int × Int × (List (Int × (Bool × (Int × ((Int × (Int × (Int × (Int × Unit)))) × ((Int × (Int × (Bool × (Bool × (Int × (Int × (Int × (Int × (Int × (Int × Unit)))))))))) × ((List Int) × (ByteArray × Unit)))))))) × (List Int) × (List (Int × (Int × (Int × (Int × Unit))))) × (List (Int × (Int × (Int × (Int × Unit))))) × (List (Int × (Int × (Int × (Int × Unit))))) × (List Int)) → Option (Bool × ByteArray × Int × ByteArray × ByteArray × Nat × Bool × Int × Bool × ByteArray × Int × Int × Bool × Bool × Int × Int × Int × Int × Int × Int × Bool × Bool × Int × Int × Int × Int × Int × Int × Int × Int × Bool × Int × Int × Int × (List (Int × (Bool × (Int × ((Int × (Int × (Int × (Int × Unit)))) × ((Int × (Int × (Bool × (Bool × (Int × (Int × (Int × (Int × (Int × (Int × Unit)))))))))) × ((List Int) × (ByteArray × Unit)))))))) × (List Int) × (List (Int × (Int × (Int × (Int × Unit))))) × (List (Int × (Int × (Int × (Int × Unit))))) × (List (Int × (Int × (Int × (Int × Unit))))) × (List Int))
  | (x0, x1, x2, x3, x4, x5, x6, x7, x8, x9, x10, x11, x12, x13, x14, x15, x16, x17, x18, x19, x20, x21, x22, x23, x24, x25, x26, x27, x28, x29, x30, x31, x32, x33, x34, x35, x36, x37, x38) =>
  Option.bind (F108 N (x0, x1, x2, x3, x4, x5, x6, x7, x8, x9, x10, x11, x12, x13, x14, x15, x16, x17, x18, x19, x20, x21, x22, x23, x24, x25, x26, x27, x28, x29, x30, x31, x32, x33, x34, x35, x36, x37, x38)) fun (y0_0, y0_1, y0_2, y0_3, y0_4, y0_5, y0_6, y0_7, y0_8, y0_9, y0_10, y0_11, y0_12, y0_13, y0_14, y0_15, y0_16, y0_17, y0_18, y0_19, y0_20, y0_21, y0_22, y0_23, y0_24, y0_25, y0_26, y0_27, y0_28, y0_29, y0_30, y0_31, y0_32, y0_33, y0_34, y0_35, y0_36, y0_37, y0_38, y0_39, y0_40) =>
  iteP (!y0_1) (
    some ((false, y0_2, y0_3, y0_4, y0_5, y0_6, y0_7, y0_8, y0_9, y0_10, y0_11, y0_12, y0_13, y0_14, y0_15, y0_16, y0_17, y0_18, y0_19, y0_20, y0_21, y0_22, y0_23, y0_24, y0_25, y0_26, y0_27, y0_28, y0_29, y0_30, y0_31, y0_32, y0_33, y0_34, y0_35, y0_36, y0_37, y0_38, y0_39, y0_40))) (
    Option.bind (F130 N (y0_33, y0_34, y0_40, ())) fun y1 =>
    Option.bind (F138 N ()) fun (y2_0, y2_1, y2_2, y2_3, y2_4, y2_5, y2_6, y2_7, y2_8, y2_9) =>
    Option.bind (F139 N (y1.1, y1.2, y2_0, y2_1, y2_2, y2_3, y2_4, y2_5, y2_6, y2_7, y2_8, y2_9, y0_2)) fun y3 =>
    iteP (decide ((↑(ByteArray.size y0_5 + ByteArray.size y3.1) : Int) > (9223372036854775807 : Int))) (
      none ) (
      Option.bind (F63 N (y0_2, y0_3, y0_4, y0_5 ++ y3.1, y0_6, true, y0_8, y0_9, y0_10, y2_0, y2_1, y2_2, y2_3, y2_4, y2_5, y2_6, y2_7, y2_8, y2_9, y0_21, y0_22, y0_23, y0_24, y0_25, y0_26, y0_27, y0_28, y0_29, y0_30, y0_31, y0_32, y0_33, y0_34, y0_35, y0_36, y0_37, y0_38, y0_39, y0_40)) fun (y4_0, y4_1, y4_2, y4_3, y4_4, y4_5, y4_6, y4_7, y4_8, y4_9, y4_10, y4_11, y4_12, y4_13, y4_14, y4_15, y4_16, y4_17, y4_18, y4_19, y4_20, y4_21, y4_22, y4_23, y4_24, y4_25, y4_26, y4_27, y4_28, y4_29, y4_30, y4_31, y4_32, y4_33, y4_34, y4_35, y4_36, y4_37, y4_38) =>
      some ((true, y4_0, y4_1, y4_2, y4_3, (140 : Nat), y4_5, y4_6, y4_7, y4_8, y4_9, y4_10, y4_11, y4_12, y4_13, y4_14, y4_15, y4_16, y4_17, y4_18, y4_19, y4_20, y4_21, y4_22, y4_23, y4_24, y4_25, y4_26, y4_27, y4_28, y4_29, y4_30, y4_31, y4_32, y4_33, y4_34, y4_35, y4_36, y4_37, y4_38))))
noncomputable def T110 (N : Nat) : Pk → Tr Pk := tellS s110 w110 (F110 N)
theorem T110_ok (N : Nat) : FOK Tryz.prog (110) (T110 N) :=
  (fn_ok2 ownT mix (tab110_ok N) Tryz.func110 s110 w110 [0, 1] (cuts := []) trivial (fun _ => by kernel_rfl) (by decide +kernel) (F110 N) (fun x => by kernel_rfl))
@[reducible] def s84 : SP := ⟨[.str], []⟩
noncomputable def tab84 (N : Nat) : List (Nat × (Pk → Tr Pk)) := []
theorem tab84_ok (N : Nat) : TabOK Tryz.prog (tab84 N) := trivial
@[reducible] def w84 : List SP := [⟨[.adr 0 []], [.var 141 (.agg [.str, .int .i64, .int .i64])]⟩]
noncomputable def F84 (N : Nat) : (ByteArray) → Option (ByteArray × Int × Int)
  | x0 =>
  some ((x0, (0 : Int), (0 : Int)))
noncomputable def T84 (N : Nat) : Pk → Tr Pk := tellS s84 w84 (F84 N)
theorem T84_ok (N : Nat) : FOK Tryz.prog (84) (T84 N) :=
  (fn_ok2 ownT mix (tab84_ok N) Tryz.func84 s84 w84 [] (cuts := []) trivial (fun _ => by kernel_rfl) (by decide +kernel) (F84 N) (fun x => by kernel_rfl))
@[reducible] def s89 : SP := ⟨[.adr 0 [], .int .i64], [.var 141 (.agg [.str, .int .i64, .int .i64])]⟩
noncomputable def tab89 (N : Nat) : List (Nat × (Pk → Tr Pk)) := []
theorem tab89_ok (N : Nat) : TabOK Tryz.prog (tab89 N) := trivial
@[reducible] def w89 : List SP := [⟨[.tup []], [.var 141 (.agg [.str, .int .i64, .int .i64])]⟩]
noncomputable def F89 (N : Nat) : (Int × ByteArray × Int × Int) → Option (ByteArray × Int × Int)
  | (x0, x1, x2, x3) =>
  iteP (x3 == (0 : Int)) (
    some ((x1, x2, x0))) (
    some ((x1, x2, x3)))
noncomputable def T89 (N : Nat) : Pk → Tr Pk := tellS s89 w89 (F89 N)
theorem T89_ok (N : Nat) : FOK Tryz.prog (89) (T89 N) :=
  (fn_ok2 ownT mix (tab89_ok N) Tryz.func89 s89 w89 [0] (cuts := []) trivial (fun _ => by kernel_rfl) (by decide +kernel) (F89 N) (fun x => by kernel_rfl))
@[reducible] def y6 : Ty := (.cons .str (.cons (.int .i64) (.cons (.int .i64) .unit)))
@[reducible] def s90 : SP := ⟨[.radr y6 [.i 0 3]], []⟩
noncomputable def tab90 (N : Nat) : List (Nat × (Pk → Tr Pk)) := []
theorem tab90_ok (N : Nat) : TabOK Tryz.prog (tab90 N) := trivial
@[reducible] def w90 : List SP := [⟨[.int .i64], []⟩]
noncomputable def F90 (N : Nat) : ((ByteArray × (Int × (Int × Unit)))) → Option (Int)
  | x0 =>
  some (IntKind.wrap IntKind.i64 ((↑(ByteArray.size x0.1) : Int) - x0.2.1))
noncomputable def T90 (N : Nat) : Pk → Tr Pk := tellS s90 w90 (F90 N)
theorem T90_ok (N : Nat) : FOK Tryz.prog (90) (T90 N) :=
  (fn_ok2 ownT mix (tab90_ok N) Tryz.func90 s90 w90 [] (cuts := []) trivial (fun _ => by kernel_rfl) (by decide +kernel) (F90 N) (fun x => by kernel_rfl))
@[reducible] def s50 : SP := ⟨[.adr 0 [], .int .i64], [.var 141 (.agg [.str, .int .i64, .int .i64])]⟩
noncomputable def tab50 (N : Nat) : List (Nat × (Pk → Tr Pk)) := [(89, T89 N), (90, T90 N)]
theorem tab50_ok (N : Nat) : TabOK Tryz.prog (tab50 N) := ⟨T89_ok N, T90_ok N, trivial⟩
@[reducible] def w50 : List SP := [⟨[.str], [.var 141 (.agg [.str, .int .i64, .int .i64])]⟩]
noncomputable def F50 (N : Nat) : (Int × ByteArray × Int × Int) → Option (ByteArray × ByteArray × Int × Int)
  | (x0, x1, x2, x3) =>
  iteP (decide (x0 < (0 : Int))) (
    Option.bind (F89 N ((1 : Int), x1, x2, x3)) fun y0 =>
    iteP (y0.2.2 != (0 : Int)) (
      some ((ByteArray.mk #[], y0.1, y0.2.1, y0.2.2))) (
      iteP (decide ((0 : Int) ≤ IntKind.wrap IntKind.i64 (y0.2.1 + x0) ∧ IntKind.wrap IntKind.i64 (y0.2.1 + x0) ≤ (↑(ByteArray.size y0.1) : Int))) (
        iteP (decide ((0 : Int) ≤ IntKind.wrap IntKind.i64 (IntKind.wrap IntKind.i64 (y0.2.1 + x0) - x0) ∧ IntKind.wrap IntKind.i64 (IntKind.wrap IntKind.i64 (y0.2.1 + x0) - x0) ≤ (↑(Int.toNat (IntKind.wrap IntKind.i64 (y0.2.1 + x0))) : Int))) (
          some ((ByteArray.extract y0.1 (Int.toNat (IntKind.wrap IntKind.i64 (IntKind.wrap IntKind.i64 (y0.2.1 + x0) - x0))) (Int.toNat (IntKind.wrap IntKind.i64 (y0.2.1 + x0))), y0.1, IntKind.wrap IntKind.i64 (y0.2.1 + x0), y0.2.2))) (
          none )) (
        none ))) (
    Option.bind (F90 N (x1, x2, x3, ())) fun y1 =>
    iteP (decide (x0 > y1)) (
      Option.bind (F89 N ((2 : Int), x1, x2, x3)) fun y2 =>
      iteP (y2.2.2 != (0 : Int)) (
        some ((ByteArray.mk #[], y2.1, y2.2.1, y2.2.2))) (
        iteP (decide ((0 : Int) ≤ IntKind.wrap IntKind.i64 (y2.2.1 + x0) ∧ IntKind.wrap IntKind.i64 (y2.2.1 + x0) ≤ (↑(ByteArray.size y2.1) : Int))) (
          iteP (decide ((0 : Int) ≤ IntKind.wrap IntKind.i64 (IntKind.wrap IntKind.i64 (y2.2.1 + x0) - x0) ∧ IntKind.wrap IntKind.i64 (IntKind.wrap IntKind.i64 (y2.2.1 + x0) - x0) ≤ (↑(Int.toNat (IntKind.wrap IntKind.i64 (y2.2.1 + x0))) : Int))) (
            some ((ByteArray.extract y2.1 (Int.toNat (IntKind.wrap IntKind.i64 (IntKind.wrap IntKind.i64 (y2.2.1 + x0) - x0))) (Int.toNat (IntKind.wrap IntKind.i64 (y2.2.1 + x0))), y2.1, IntKind.wrap IntKind.i64 (y2.2.1 + x0), y2.2.2))) (
            none )) (
          none ))) (
      iteP (x3 != (0 : Int)) (
        some ((ByteArray.mk #[], x1, x2, x3))) (
        iteP (decide ((0 : Int) ≤ IntKind.wrap IntKind.i64 (x2 + x0) ∧ IntKind.wrap IntKind.i64 (x2 + x0) ≤ (↑(ByteArray.size x1) : Int))) (
          iteP (decide ((0 : Int) ≤ IntKind.wrap IntKind.i64 (IntKind.wrap IntKind.i64 (x2 + x0) - x0) ∧ IntKind.wrap IntKind.i64 (IntKind.wrap IntKind.i64 (x2 + x0) - x0) ≤ (↑(Int.toNat (IntKind.wrap IntKind.i64 (x2 + x0))) : Int))) (
            some ((ByteArray.extract x1 (Int.toNat (IntKind.wrap IntKind.i64 (IntKind.wrap IntKind.i64 (x2 + x0) - x0))) (Int.toNat (IntKind.wrap IntKind.i64 (x2 + x0))), x1, IntKind.wrap IntKind.i64 (x2 + x0), x3))) (
            none )) (
          none ))))
noncomputable def T50 (N : Nat) : Pk → Tr Pk := tellS s50 w50 (F50 N)
theorem T50_ok (N : Nat) : FOK Tryz.prog (50) (T50 N) :=
  (fn_ok2 ownT mix (tab50_ok N) Tryz.func50 s50 w50 [0] (cuts := []) trivial (fun _ => by kernel_rfl) (by decide +kernel) (F50 N) (fun x => by kernel_rfl))
@[reducible] def s87 : SP := ⟨[.adr 0 [], .int .i64, .fn 88], [.var 141 (.agg [.str, .int .i64, .int .i64])]⟩
noncomputable def tab87 (N : Nat) : List (Nat × (Pk → Tr Pk)) := [(116, T116 N), (89, T89 N), (50, T50 N), (88, T88 N)]
theorem tab87_ok (N : Nat) : TabOK Tryz.prog (tab87 N) := ⟨T116_ok N, T89_ok N, T50_ok N, T88_ok N, trivial⟩
@[reducible] def L87_122 : LD := ⟨122, [7, 22, 21, 20], [(.ret, [6]), (.exit 0, [7])], ⟨[.int .i64, .int .i64, .int .i64, .sl 1], [.var 141 (.agg [.str, .int .i64, .int .i64]), .row (.int .u8) 5]⟩, [(.exit 0, ⟨[.int .i64], [.var 141 (.agg [.str, .int .i64, .int .i64])]⟩)]⟩
abbrev P87_122 : Type := Int × Int × Int × ByteArray × Int × Int × (List Int)
abbrev R87_122 : Type := Int × ByteArray × Int × Int
noncomputable def B87_122 (N : Nat) (f : P87_122 → Option R87_122) : P87_122 → Option R87_122
  | (x0, x1, x2, x3, x4, x5, x6) =>
  iteP (decide (x1 < x2)) (
    iteP (within x1 (List.length x6)) (
      Option.bind (x6[Int.toNat x1]?) fun y0 =>
      iteP (decide (IntKind.wrap IntKind.i64 ((8 : Int) * x1) < (0 : Int))) (
        none ) (
        Option.bind (f (IntKind.wrap IntKind.i64 (↑(BitVec.toNat (BitVec.ofInt (64 : Nat) x0 ||| BitVec.ofInt (64 : Nat) (IntKind.wrap IntKind.i64 (IntKind.wrap IntKind.i64 y0 * (2 : Int) ^ min (Int.toNat (IntKind.wrap IntKind.i64 ((8 : Int) * x1))) (64 : Nat))))) : Int), IntKind.wrap IntKind.i64 (x1 + (1 : Int)), x2, x3, x4, x5, x6)) fun r => some r)) (
      none )) (
    some ((x0, x3, x4, x5)))
noncomputable def F87_122 (N : Nat) : Nat → P87_122 → Option R87_122
  | 0, _ => none
  | k + 1, x => B87_122 N (F87_122 N k) x
noncomputable def C87_122 (N : Nat) (k : Nat) : Cut := L87_122.cut (F87_122 N k)
theorem C87_122_ok (N : Nat) (k : Nat) : CutAt Tryz.prog false Tryz.f87 [0] 122 (C87_122 N k) :=
  L87_122.loopT ownT mix (tab87_ok N) Tryz.f87 [0] (cuts := []) trivial (by decide +kernel) (by kernel_rfl) (B87_122 N) (F87_122 N) (fun _ => rfl) (fun _ _ => rfl) (fun f x => by kernel_rfl) k
@[reducible] def w87 : List SP := [⟨[.int .i64], [.var 141 (.agg [.str, .int .i64, .int .i64])]⟩]
noncomputable def F87 (N : Nat) : (Int × ByteArray × Int × Int) → Option (Int × ByteArray × Int × Int)
  | (x0, x1, x2, x3) =>
  Option.bind (F116 N x0) fun y0 =>
  iteP (!y0) (
    Option.bind (F89 N ((1 : Int), x1, x2, x3)) fun y1 =>
    Option.bind (F50 N (x0, y1.1, y1.2.1, y1.2.2)) fun y2 =>
    Option.bind (F88 N y2.1) fun y3 =>
    iteP (decide (ByteArray.size y3 ≤ (140737488355328 : Nat))) (
      Option.bind (F87_122 N N ((0 : Int), (0 : Int), (↑(List.length (bytesOf y3)) : Int), y2.2.1, y2.2.2.1, y2.2.2.2, bytesOf y3)) fun y4 =>
      some ((y4.1, y4.2.1, y4.2.2.1, y4.2.2.2))) (
      none )) (
    Option.bind (F50 N (x0, x1, x2, x3)) fun y5 =>
    Option.bind (F88 N y5.1) fun y6 =>
    iteP (decide (ByteArray.size y6 ≤ (140737488355328 : Nat))) (
      Option.bind (F87_122 N N ((0 : Int), (0 : Int), (↑(List.length (bytesOf y6)) : Int), y5.2.1, y5.2.2.1, y5.2.2.2, bytesOf y6)) fun y7 =>
      some ((y7.1, y7.2.1, y7.2.2.1, y7.2.2.2))) (
      none ))
noncomputable def T87 (N : Nat) : Pk → Tr Pk := tellS s87 w87 (F87 N)
theorem T87_ok (N : Nat) : FOK Tryz.prog (87) (T87 N) :=
  (fn_ok2 ownT mix (tab87_ok N) Tryz.func87 s87 w87 [0] (cuts := [(122, C87_122 N N)]) ⟨C87_122_ok N N, trivial⟩ (fun _ => by kernel_rfl) (by decide +kernel) (F87 N) (fun x => by kernel_rfl))
@[reducible] def s49 : SP := ⟨[.adr 0 [], .int .i64], [.var 141 (.agg [.str, .int .i64, .int .i64])]⟩
noncomputable def tab49 (N : Nat) : List (Nat × (Pk → Tr Pk)) := [(87, T87 N)]
theorem tab49_ok (N : Nat) : TabOK Tryz.prog (tab49 N) := ⟨T87_ok N, trivial⟩
@[reducible] def w49 : List SP := [⟨[.int .i64], [.var 141 (.agg [.str, .int .i64, .int .i64])]⟩]
noncomputable def F49 (N : Nat) : (Int × ByteArray × Int × Int) → Option (Int × ByteArray × Int × Int)
  | (x0, x1, x2, x3) =>
  Option.bind (F87 N (x0, x1, x2, x3)) fun y0 =>
  some ((y0.1, y0.2.1, y0.2.2.1, y0.2.2.2))
noncomputable def T49 (N : Nat) : Pk → Tr Pk := tellS s49 w49 (F49 N)
theorem T49_ok (N : Nat) : FOK Tryz.prog (49) (T49 N) :=
  (fn_ok2 ownT mix (tab49_ok N) Tryz.func49 s49 w49 [0] (cuts := []) trivial (fun _ => by kernel_rfl) (by decide +kernel) (F49 N) (fun x => by kernel_rfl))
@[reducible] def s85 : SP := ⟨[.radr y6 [.i 0 3]], []⟩
noncomputable def tab85 (N : Nat) : List (Nat × (Pk → Tr Pk)) := []
theorem tab85_ok (N : Nat) : TabOK Tryz.prog (tab85 N) := trivial
@[reducible] def w85 : List SP := [⟨[.int .i64], []⟩]
noncomputable def F85 (N : Nat) : ((ByteArray × (Int × (Int × Unit)))) → Option (Int)
  | x0 =>
  some x0.2.2.1
noncomputable def T85 (N : Nat) : Pk → Tr Pk := tellS s85 w85 (F85 N)
theorem T85_ok (N : Nat) : FOK Tryz.prog (85) (T85 N) :=
  (fn_ok2 ownT mix (tab85_ok N) Tryz.func85 s85 w85 [] (cuts := []) trivial (fun _ => by kernel_rfl) (by decide +kernel) (F85 N) (fun x => by kernel_rfl))
@[reducible] def s170 : SP := ⟨[.agg [.adr 0 []], .int .i64], [.var 141 (.agg [.str, .int .i64, .int .i64])]⟩
noncomputable def tab170 (N : Nat) : List (Nat × (Pk → Tr Pk)) := []
theorem tab170_ok (N : Nat) : TabOK Tryz.prog (tab170 N) := trivial
@[reducible] def w170 : List SP := [⟨[.tup [.nilf, .bool]], [.var 141 (.agg [.str, .int .i64, .int .i64])]⟩]
noncomputable def F170 (N : Nat) : (Int × ByteArray × Int × Int) → Option (Bool × ByteArray × Int × Int)
  | (x0, x1, x2, x3) =>
  iteP (x0 == (0 : Int)) (
    none ) (
    iteP (x0 == (2 : Int)) (
      none ) (
      iteP (x0 == (3 : Int)) (
        none ) (
        iteP (x0 == (4 : Int)) (
          none ) (
          iteP (x0 == (5 : Int)) (
            none ) (
            iteP (x0 == (6 : Int)) (
              none ) (
              some ((false, x1, x2, x3))))))))
noncomputable def T170 (N : Nat) : Pk → Tr Pk := tellS s170 w170 (F170 N)
theorem T170_ok (N : Nat) : FOK Tryz.prog (170) (T170 N) :=
  (fn_ok2 ownT mix (tab170_ok N) Tryz.func170 s170 w170 [0] (cuts := []) trivial (fun _ => by kernel_rfl) (by decide +kernel) (F170 N) (fun x => by kernel_rfl))
@[reducible] def s155 : SP := ⟨[.str], []⟩
noncomputable def tab155 (N : Nat) : List (Nat × (Pk → Tr Pk)) := [(84, T84 N), (49, T49 N), (85, T85 N), (170, T170 N)]
theorem tab155_ok (N : Nat) : TabOK Tryz.prog (tab155 N) := ⟨T84_ok N, T49_ok N, T85_ok N, T170_ok N, trivial⟩
@[reducible] def w155 : List SP := [⟨[.tup [.agg [.int .i64, .bool, .int .i64, .agg [.int .i64, .int .i64, .int .i64, .int .i64], .agg [.int .i64, .int .i64, .bool, .bool, .int .i64, .int .i64, .int .i64, .int .i64, .int .i64, .int .i64], .sl 0, .str], .int .i64, .int .i64]], [.row (.int .i64) 3]⟩]
noncomputable def F155 (N : Nat) : (ByteArray) → Option (Int × Bool × Int × Int × Int × Int × Int × Int × Int × Bool × Bool × Int × Int × Int × Int × Int × Int × ByteArray × Int × Int × (List Int))
  | x0 =>
  Option.bind (F84 N x0) fun y0 =>
  Option.bind (F49 N ((1 : Int), y0.1, y0.2.1, y0.2.2)) fun y1 =>
  Option.bind (F85 N (y1.2.1, y1.2.2.1, y1.2.2.2, ())) fun y2 =>
  iteP (y2 != (0 : Int)) (
    some (((0 : Int), false, (0 : Int), (0 : Int), (0 : Int), (0 : Int), (0 : Int), (0 : Int), (0 : Int), false, false, (0 : Int), (0 : Int), (0 : Int), (0 : Int), (0 : Int), (0 : Int), ByteArray.mk #[], (0 : Int), y2, []))) (
    Option.bind (F170 N (y1.1, y1.2.1, y1.2.2.1, y1.2.2.2)) fun y3 =>
    iteP (!y3.1) (
      some (((0 : Int), false, (0 : Int), (0 : Int), (0 : Int), (0 : Int), (0 : Int), (0 : Int), (0 : Int), false, false, (0 : Int), (0 : Int), (0 : Int), (0 : Int), (0 : Int), (0 : Int), ByteArray.mk #[], (0 : Int), (222 : Int), []))) (
      none ))
noncomputable def T155 (N : Nat) : Pk → Tr Pk := tellS s155 w155 (F155 N)
theorem T155_ok (N : Nat) : FOK Tryz.prog (155) (T155 N) :=
  (fn_ok2 ownT mix (tab155_ok N) Tryz.func155 s155 w155 [] (cuts := []) trivial (fun _ => by kernel_rfl) (by decide +kernel) (F155 N) (fun x => by kernel_rfl))
@[reducible] def s119 : SP := ⟨[.ro (.int .i64), .int .i64], []⟩
noncomputable def tab119 (N : Nat) : List (Nat × (Pk → Tr Pk)) := []
theorem tab119_ok (N : Nat) : TabOK Tryz.prog (tab119 N) := trivial
@[reducible] def L119_26 : LD := ⟨26, [7, 1, 0, 8], [(.ret, [4]), (.exit 0, [])], ⟨[.int .i64, .int .i64, .ro (.int .i64), .int .i64], []⟩, [(.ret, ⟨[.int .i64], []⟩), (.exit 0, ⟨[], []⟩)]⟩
abbrev P119_26 : Type := Int × Int × (List Int) × Int
abbrev R119_26 : Type := ((Int) ⊕ (Unit))
noncomputable def B119_26 (N : Nat) (f : P119_26 → Option R119_26) : P119_26 → Option R119_26
  | (x0, x1, x2, x3) =>
  iteP (decide (x3 < x0)) (
    iteP (within x3 (List.length x2)) (
      Option.bind (x2[Int.toNat x3]?) fun y0 =>
      iteP (x1 == y0) (
        some (.inl (x3))) (
        Option.bind (f (x0, x1, x2, IntKind.wrap IntKind.i64 (x3 + (1 : Int)))) fun r => match r with | .inl y => some (.inl y) | .inr y => some (.inr y))) (
      none )) (
    some (.inr (())))
noncomputable def F119_26 (N : Nat) : Nat → P119_26 → Option R119_26
  | 0, _ => none
  | k + 1, x => B119_26 N (F119_26 N k) x
noncomputable def C119_26 (N : Nat) (k : Nat) : Cut := L119_26.cut (F119_26 N k)
theorem C119_26_ok (N : Nat) (k : Nat) : CutAt Tryz.prog false Tryz.f119 [] 26 (C119_26 N k) :=
  L119_26.loopT ownT mix (tab119_ok N) Tryz.f119 [] (cuts := []) trivial (by decide +kernel) (by kernel_rfl) (B119_26 N) (F119_26 N) (fun _ => rfl) (fun _ _ => rfl) (fun f x => by kernel_rfl) k
@[reducible] def w119 : List SP := [⟨[.int .i64], []⟩]
noncomputable def F119 (N : Nat) : ((List Int) × Int) → Option (Int)
  | (x0, x1) =>
  Option.bind (F119_26 N N ((↑(List.length x0) : Int), x1, x0, (0 : Int))) fun y0 =>
  match y0 with
  | .inl y1 =>
    some (y1)
  | .inr y1 =>
    some ((-1 : Int))
noncomputable def T119 (N : Nat) : Pk → Tr Pk := tellS s119 w119 (F119 N)
theorem T119_ok (N : Nat) : FOK Tryz.prog (119) (T119 N) :=
  (fn_ok2 ownT mix (tab119_ok N) Tryz.func119 s119 w119 [] (cuts := [(26, C119_26 N N)]) ⟨C119_26_ok N N, trivial⟩ (fun _ => by kernel_rfl) (by decide +kernel) (F119 N) (fun x => by kernel_rfl))
@[reducible] def s92 : SP := ⟨[.ro (.int .i64), .int .i64], []⟩
noncomputable def tab92 (N : Nat) : List (Nat × (Pk → Tr Pk)) := [(119, T119 N)]
theorem tab92_ok (N : Nat) : TabOK Tryz.prog (tab92 N) := ⟨T119_ok N, trivial⟩
@[reducible] def w92 : List SP := [⟨[.bool], []⟩]
noncomputable def F92 (N : Nat) : ((List Int) × Int) → Option (Bool)
  | (x0, x1) =>
  Option.bind (F119 N (x0, x1)) fun y0 =>
  some (decide (y0 ≥ (0 : Int)))
noncomputable def T92 (N : Nat) : Pk → Tr Pk := tellS s92 w92 (F92 N)
theorem T92_ok (N : Nat) : FOK Tryz.prog (92) (T92 N) :=
  (fn_ok2 ownT mix (tab92_ok N) Tryz.func92 s92 w92 [] (cuts := []) trivial (fun _ => by kernel_rfl) (by decide +kernel) (F92 N) (fun x => by kernel_rfl))
@[reducible] def s57 : SP := ⟨[.ro (.int .i64), .int .i64], []⟩
noncomputable def tab57 (N : Nat) : List (Nat × (Pk → Tr Pk)) := [(92, T92 N)]
theorem tab57_ok (N : Nat) : TabOK Tryz.prog (tab57 N) := ⟨T92_ok N, trivial⟩
@[reducible] def w57 : List SP := [⟨[.bool], []⟩]
noncomputable def F57 (N : Nat) : ((List Int) × Int) → Option (Bool)
  | (x0, x1) =>
  iteP (x1 == (0 : Int)) (
    some (true)) (
    Option.bind (F92 N (x0, x1)) fun y0 =>
    some (y0))
noncomputable def T57 (N : Nat) : Pk → Tr Pk := tellS s57 w57 (F57 N)
theorem T57_ok (N : Nat) : FOK Tryz.prog (57) (T57 N) :=
  (fn_ok2 ownT mix (tab57_ok N) Tryz.func57 s57 w57 [] (cuts := []) trivial (fun _ => by kernel_rfl) (by decide +kernel) (F57 N) (fun x => by kernel_rfl))
@[reducible] def s143 : SP := ⟨[.bool, .bool], []⟩
noncomputable def tab143 (N : Nat) : List (Nat × (Pk → Tr Pk)) := []
theorem tab143_ok (N : Nat) : TabOK Tryz.prog (tab143 N) := trivial
@[reducible] def w143 : List SP := [⟨[.bool], []⟩]
noncomputable def F143 (N : Nat) : (Bool × Bool) → Option (Bool)
  | (x0, x1) =>
  iteP (x0) (
    some (true)) (
    some (x1))
noncomputable def T143 (N : Nat) : Pk → Tr Pk := tellS s143 w143 (F143 N)
theorem T143_ok (N : Nat) : FOK Tryz.prog (143) (T143 N) :=
  (fn_ok2 ownT mix (tab143_ok N) Tryz.func143 s143 w143 [] (cuts := []) trivial (fun _ => by kernel_rfl) (by decide +kernel) (F143 N) (fun x => by kernel_rfl))
@[reducible] def s125r250a : SP := ⟨[.yv 0, .int .i64, .int .i64, .adr 1 [], .adr 2 [], .adr 3 [], .adr 4 []], [.lp 2305843009213693952250 [5, 3, 4, 10] [.adr 1 [], .adr 2 [], .adr 3 [], .adr 4 []] 0, .var 145 (.fn 143), .var 169 (.ro y3), .var 169 (.ro y3), .var 169 (.sl 5), .row y3 178]⟩
noncomputable def tab125r250a (N : Nat) : List (Nat × (Pk → Tr Pk)) := [(150, T150 N), (143, T143 N)]
theorem tab125r250a_ok (N : Nat) : TabOK Tryz.prog (tab125r250a N) := ⟨T150_ok N, T143_ok N, trivial⟩
@[reducible] def w125r250a : List SP := [⟨[.bc true], [.lp 2305843009213693952250 [5, 3, 4, 10] [.adr 1 [], .adr 2 [], .adr 3 [], .adr 4 []] 0, .var 145 (.fn 143), .var 169 (.ro y3), .var 169 (.ro y3), .var 169 (.sl 5), .row y3 178]⟩]
noncomputable def F125r250a (N : Nat) : (Int × Int × (List (Int × (Int × Unit))) × (List (Int × (Int × Unit))) × (List (Int × (Int × Unit)))) → Option ((List (Int × (Int × Unit))) × (List (Int × (Int × Unit))) × (List (Int × (Int × Unit))))
  | (x0, x1, x2, x3, x4) =>
  Option.bind (F150 N (x2, x0)) fun y0 =>
  Option.bind (F150 N (x3, x0)) fun y1 =>
  Option.bind (F143 N (y0, y1)) fun y2 =>
  iteP (!y2) (
    some ((x2, x3, x4))) (
    iteP (decide ((↑(List.length x4) : Int) > (0 : Int))) (
      iteP (within (IntKind.wrap IntKind.i64 ((↑(List.length x4) : Int) - (1 : Int))) (List.length x4)) (
        Option.bind (x4[Int.toNat (IntKind.wrap IntKind.i64 ((↑(List.length x4) : Int) - (1 : Int)))]?) fun y3 =>
        iteP (y3.2.1 == x0) (
          iteP (within (IntKind.wrap IntKind.i64 ((↑(List.length x4) : Int) - (1 : Int))) (List.length x4)) (
            Option.bind (x4[Int.toNat (IntKind.wrap IntKind.i64 ((↑(List.length x4) : Int) - (1 : Int)))]?) fun y4 =>
            some ((x2, x3, List.set x4 (Int.toNat (IntKind.wrap IntKind.i64 ((↑(List.length x4) : Int) - (1 : Int)))) (y4.1, x1, ())))) (
            none )) (
          iteP (decide ((List.length x4 + List.length [(x0, x1, ())]) * (16 : Nat) ≤ (140737488355328 : Nat) ∧ List.length x4 + List.length [(x0, x1, ())] ≤ (140737488355328 : Nat))) (
            some ((x2, x3, x4 ++ [(x0, x1, ())]))) (
            none ))) (
        none )) (
      iteP (decide ((List.length x4 + List.length [(x0, x1, ())]) * (16 : Nat) ≤ (140737488355328 : Nat) ∧ List.length x4 + List.length [(x0, x1, ())] ≤ (140737488355328 : Nat))) (
        some ((x2, x3, x4 ++ [(x0, x1, ())]))) (
        none )))
noncomputable def T125r250a (N : Nat) : Pk → Tr Pk := tellS s125r250a w125r250a (F125r250a N)
theorem T125r250a_ok (N : Nat) : FOK Tryz.prog (125 * bigK + 250) (T125r250a N) :=
  (rnd_ok ownT mix (tab125r250a_ok N) Tryz.func125 250 s125r250a w125r250a [0, 1, 2, 3, 4, 1, 2, 3, 4] (cuts := []) trivial (fun _ => by kernel_rfl) (by decide +kernel) (F125r250a N) (fun x => by kernel_rfl))
@[reducible] def s146c : SP := ⟨[.yv 0, .adr 1 []], [.lp 2305843009213693952250 [5, 3, 4, 10] [.adr 2 [], .adr 3 [], .adr 4 [], .adr 5 []] 0, .var 22 (.sl 6), .var 145 (.fn 143), .var 169 (.ro y3), .var 169 (.ro y3), .var 169 (.sl 7), .row (.int .i64) 3, .row y3 178]⟩
noncomputable def tab146c (N : Nat) : List (Nat × (Pk → Tr Pk)) := [(125 * bigK + 250, T125r250a N)]
theorem tab146c_ok (N : Nat) : TabOK Tryz.prog (tab146c N) := ⟨T125r250a_ok N, trivial⟩
@[reducible] def L146c_6 : LD := ⟨6, [0, 1, 3], [(.exit 0, [])], ⟨[.yv 0, .adr 1 [], .int .i64], [.lp 2305843009213693952250 [5, 3, 4, 10] [.adr 2 [], .adr 3 [], .adr 4 [], .adr 5 []] 0, .var 22 (.sl 6), .var 145 (.fn 143), .var 169 (.ro y3), .var 169 (.ro y3), .var 169 (.sl 7), .row (.int .i64) 3, .row y3 178]⟩, [(.exit 0, ⟨[], [.lp 2305843009213693952250 [5, 3, 4, 10] [.adr 2 [], .adr 3 [], .adr 4 [], .adr 5 []] 0, .var 22 (.sl 6), .var 145 (.fn 143), .var 169 (.ro y3), .var 169 (.ro y3), .var 169 (.sl 7), .row (.int .i64) 3, .row y3 178]⟩)]⟩
abbrev P146c_6 : Type := Int × (List (Int × (Int × Unit))) × (List (Int × (Int × Unit))) × (List Int) × (List (Int × (Int × Unit)))
abbrev R146c_6 : Type := (List (Int × (Int × Unit))) × (List (Int × (Int × Unit))) × (List Int) × (List (Int × (Int × Unit)))
noncomputable def B146c_6 (N : Nat) (f : P146c_6 → Option R146c_6) : P146c_6 → Option R146c_6
  | (x0, x1, x2, x3, x4) =>
  iteP (decide (x0 < (↑(List.length x3) : Int))) (
    iteP (within (IntKind.wrap IntKind.i64 (x0 - (1 : Int))) (List.length x3)) (
      Option.bind (x3[Int.toNat (IntKind.wrap IntKind.i64 (x0 - (1 : Int)))]?) fun y0 =>
      iteP (within x0 (List.length x3)) (
        Option.bind (x3[Int.toNat x0]?) fun y1 =>
        Option.bind (F125r250a N (y0, y1, x1, x2, x4)) fun y2 =>
        Option.bind (f (IntKind.wrap IntKind.i64 (x0 + (1 : Int)), y2.1, y2.2.1, x3, y2.2.2)) fun r => some r) (
        none )) (
      none )) (
    some ((x1, x2, x3, x4)))
noncomputable def F146c_6 (N : Nat) : Nat → P146c_6 → Option R146c_6
  | 0, _ => none
  | k + 1, x => B146c_6 N (F146c_6 N k) x
noncomputable def C146c_6 (N : Nat) (k : Nat) : Cut := L146c_6.cut (F146c_6 N k)
theorem C146c_6_ok (N : Nat) (k : Nat) : CutAt Tryz.prog false Tryz.f146 [0, 1, 2, 3, 4, 5] 6 (C146c_6 N k) :=
  L146c_6.loopT ownT mix (tab146c_ok N) Tryz.f146 [0, 1, 2, 3, 4, 5] (cuts := []) trivial (by decide +kernel) (by kernel_rfl) (B146c_6 N) (F146c_6 N) (fun _ => rfl) (fun _ _ => rfl) (fun f x => by kernel_rfl) k
@[reducible] def w146c : List SP := [⟨[.tup []], [.lp 2305843009213693952250 [5, 3, 4, 10] [.adr 2 [], .adr 3 [], .adr 4 [], .adr 5 []] 0, .var 22 (.sl 6), .var 145 (.fn 143), .var 169 (.ro y3), .var 169 (.ro y3), .var 169 (.sl 7), .row (.int .i64) 3, .row y3 178]⟩]
noncomputable def F146c (N : Nat) : ((List (Int × (Int × Unit))) × (List (Int × (Int × Unit))) × (List Int) × (List (Int × (Int × Unit)))) → Option ((List (Int × (Int × Unit))) × (List (Int × (Int × Unit))) × (List Int) × (List (Int × (Int × Unit))))
  | (x0, x1, x2, x3) =>
  Option.bind (F146c_6 N N ((1 : Int), x0, x1, x2, x3)) fun y0 =>
  some ((y0.1, y0.2.1, y0.2.2.1, y0.2.2.2))
noncomputable def T146c (N : Nat) : Pk → Tr Pk := tellS s146c w146c (F146c N)
theorem T146c_ok (N : Nat) : FOK Tryz.prog (146) (T146c N) :=
  (fn_ok2 ownT mix (tab146c_ok N) Tryz.func146 s146c w146c [0, 1, 2, 3, 4, 5] (cuts := [(6, C146c_6 N N)]) ⟨C146c_6_ok N N, trivial⟩ (fun _ => by kernel_rfl) (by decide +kernel) (F146c N) (fun x => by kernel_rfl))
@[reducible] def s125a : SP := ⟨[.ro y3, .ro y3, .fn 143], []⟩
noncomputable def tab125a (N : Nat) : List (Nat × (Pk → Tr Pk)) := [(149, T149 N), (124, T124 N), (123, T123 N), (146, T146c N)]
theorem tab125a_ok (N : Nat) : TabOK Tryz.prog (tab125a N) := ⟨T149_ok N, T124_ok N, T123_ok N, T146c_ok N, trivial⟩
@[reducible] def L125a_58 : LD := ⟨58, [7, 19, 18, 5, 3, 4, 6, 17], [(.ret, [6]), (.exit 0, [7, 6, 4, 3, 5])], ⟨[.sl 0, .int .i64, .int .i64, .adr 1 [], .adr 2 [], .adr 3 [], .sl 4, .sl 5], [.row (.int .i64) 3, .var 145 (.fn 143), .var 169 (.ro y3), .var 169 (.ro y3), .row y3 178, .row y3 178]⟩, [(.exit 0, ⟨[.sl 0, .sl 1, .adr 2 [], .adr 3 [], .adr 4 []], [.row (.int .i64) 3, .row y3 178, .var 169 (.ro y3), .var 169 (.ro y3), .var 145 (.fn 143)]⟩)]⟩
abbrev P125a_58 : Type := Int × Int × (List Int) × (List (Int × (Int × Unit))) × (List (Int × (Int × Unit))) × (List (Int × (Int × Unit))) × (List (Int × (Int × Unit)))
abbrev R125a_58 : Type := (List Int) × (List (Int × (Int × Unit))) × (List (Int × (Int × Unit))) × (List (Int × (Int × Unit)))
noncomputable def B125a_58 (N : Nat) (f : P125a_58 → Option R125a_58) : P125a_58 → Option R125a_58
  | (x0, x1, x2, x3, x4, x5, x6) =>
  iteP (decide (x0 < x1)) (
    iteP (within x0 (List.length x6)) (
      Option.bind (x6[Int.toNat x0]?) fun y0 =>
      iteP (decide ((List.length x2 + List.length [y0.1, y0.2.1]) * (8 : Nat) ≤ (140737488355328 : Nat) ∧ List.length x2 + List.length [y0.1, y0.2.1] ≤ (140737488355328 : Nat))) (
        Option.bind (f (IntKind.wrap IntKind.i64 (x0 + (1 : Int)), x1, x2 ++ [y0.1, y0.2.1], x3, x4, x5, x6)) fun r => some r) (
        none )) (
      none )) (
    some ((x2, x5, x4, x3)))
noncomputable def F125a_58 (N : Nat) : Nat → P125a_58 → Option R125a_58
  | 0, _ => none
  | k + 1, x => B125a_58 N (F125a_58 N k) x
noncomputable def C125a_58 (N : Nat) (k : Nat) : Cut := L125a_58.cut (F125a_58 N k)
theorem C125a_58_ok (N : Nat) (k : Nat) : CutAt Tryz.prog false Tryz.f125 [] 58 (C125a_58 N k) :=
  L125a_58.loopT ownT mix (tab125a_ok N) Tryz.f125 [] (cuts := []) trivial (by decide +kernel) (by kernel_rfl) (B125a_58 N) (F125a_58 N) (fun _ => rfl) (fun _ _ => rfl) (fun f x => by kernel_rfl) k
@[reducible] def L125a_250 : LD := ⟨250, [6, 4, 3, 5, 10, 33], [(.ret, [6]), (.exit 2, [10]), (.normal, [10])], ⟨[.sl 0, .adr 1 [], .adr 2 [], .adr 3 [], .adr 4 [], .clo 146 [.adr 5 []]], [.row y3 178, .var 169 (.ro y3), .var 169 (.ro y3), .var 145 (.fn 143), .var 169 (.sl 6), .var 22 (.sl 7), .row y3 178, .row (.int .i64) 3]⟩, [(.normal, ⟨[.adr 0 []], [.var 169 (.sl 1), .row y3 178]⟩)]⟩
noncomputable def F125a_250 (N : Nat) : ((List (Int × (Int × Unit))) × (List (Int × (Int × Unit))) × (List (Int × (Int × Unit))) × (List (Int × (Int × Unit))) × (List Int)) → Option ((List (Int × (Int × Unit))))
  | (x0, x1, x2, x3, x4) =>
  Option.bind (F146c N (x2, x1, x4, x3)) fun y0 =>
  some y0.2.2.2
noncomputable def C125a_250 (N : Nat) (_ : Nat) : Cut := L125a_250.cut (F125a_250 N)
theorem C125a_250_ok (N : Nat) (k : Nat) : CutAt Tryz.prog false Tryz.f125 [] 250 (C125a_250 N k) :=
  L125a_250.rngT ownT mix (tab125a_ok N) Tryz.func125 [] [5, 3, 4, 10] (by decide +kernel) (F125a_250 N) (fun x => by kernel_rfl)
@[reducible] def w125a : List SP := [⟨[.sl 0], [.row y3 178]⟩]
noncomputable def F125a (N : Nat) : ((List (Int × (Int × Unit))) × (List (Int × (Int × Unit)))) → Option ((List (Int × (Int × Unit))))
  | (x0, x1) =>
  Option.bind (F149 N [x0, x1]) fun y0 =>
  Option.bind (F125a_58 N N ((0 : Int), (↑(List.length y0) : Int), [], x0, x1, [], y0)) fun y1 =>
  Option.bind (F124 N y1.1) fun y2 =>
  Option.bind (F123 N y2) fun y3 =>
  Option.bind (F125a_250 N (y1.2.1, y1.2.2.1, y1.2.2.2, [], y3)) fun y4 =>
  some (y4)
noncomputable def T125a (N : Nat) : Pk → Tr Pk := tellS s125a w125a (F125a N)
theorem T125a_ok (N : Nat) : FOK Tryz.prog (125) (T125a N) :=
  (fn_ok2 ownT mix (tab125a_ok N) Tryz.func125 s125a w125a [] (cuts := [(58, C125a_58 N N), (250, C125a_250 N N)]) ⟨C125a_58_ok N N, C125a_250_ok N N, trivial⟩ (fun _ => by kernel_rfl) (by decide +kernel) (F125a N) (fun x => by kernel_rfl))
@[reducible] def s95r1018a : SP := ⟨[.yv 0, .int .i64, .int .i64, .adr 1 [], .adr 2 [], .adr 3 [], .adr 4 [], .adr 5 []], [.lp 1752440687002407404538 [3, 4, 5, 10, 11] [.adr 1 [], .adr 2 [], .adr 3 [], .adr 4 [], .adr 5 []] 0, .var 35 (.ro y1), .var 35 (.ro y1), .var 145 (.fn 143), .var 35 (.sl 6), .var 171 (.agg [.int .i64, .int .i64, .sl 7]), .row y1 58, .row y3 178]⟩
noncomputable def tab95r1018a (N : Nat) : List (Nat × (Pk → Tr Pk)) := [(126, T126 N), (125, T125a N), (127, T127 N), (128, T128 N)]
theorem tab95r1018a_ok (N : Nat) : TabOK Tryz.prog (tab95r1018a N) := ⟨T126_ok N, T125a_ok N, T127_ok N, T128_ok N, trivial⟩
@[reducible] def w95r1018a : List SP := [⟨[.bc true], [.lp 1752440687002407404538 [3, 4, 5, 10, 11] [.adr 1 [], .adr 2 [], .adr 3 [], .adr 4 [], .adr 5 []] 0, .var 35 (.ro y1), .var 35 (.ro y1), .var 145 (.fn 143), .var 35 (.sl 6), .var 171 (.agg [.int .i64, .int .i64, .sl 7]), .row y1 58, .row y3 178]⟩]
noncomputable def F95r1018a (N : Nat) : (Int × Int × (List (Int × (Int × (Int × (Int × Unit))))) × (List (Int × (Int × (Int × (Int × Unit))))) × Int × Int × (List (Int × (Int × (Int × (Int × Unit))))) × (List (Int × (Int × Unit)))) → Option ((List (Int × (Int × (Int × (Int × Unit))))) × (List (Int × (Int × (Int × (Int × Unit))))) × Int × Int × (List (Int × (Int × (Int × (Int × Unit))))) × (List (Int × (Int × Unit))))
  | (x0, x1, x2, x3, x4, x5, x6, x7) =>
  Option.bind (F126 N (x2, x0)) fun y0 =>
  Option.bind (F126 N (x3, x0)) fun y1 =>
  Option.bind (F125a N (y0, y1)) fun y2 =>
  iteP (decide ((↑(List.length y2) : Int) > (0 : Int))) (
    iteP (x5 == x0) (
      Option.bind (F127 N (y2, x7)) fun y3 =>
      iteP (y3) (
        some ((x2, x3, x4, x1, x6, x7))) (
        Option.bind (F128 N (x4, x5, x7)) fun y4 =>
        iteP (decide ((List.length x6 + List.length y4) * (32 : Nat) ≤ (140737488355328 : Nat) ∧ List.length x6 + List.length y4 ≤ (140737488355328 : Nat))) (
          some ((x2, x3, x0, x1, x6 ++ y4, y2))) (
          none ))) (
      Option.bind (F128 N (x4, x5, x7)) fun y5 =>
      iteP (decide ((List.length x6 + List.length y5) * (32 : Nat) ≤ (140737488355328 : Nat) ∧ List.length x6 + List.length y5 ≤ (140737488355328 : Nat))) (
        some ((x2, x3, x0, x1, x6 ++ y5, y2))) (
        none ))) (
    Option.bind (F128 N (x4, x5, x7)) fun y6 =>
    iteP (decide ((List.length x6 + List.length y6) * (32 : Nat) ≤ (140737488355328 : Nat) ∧ List.length x6 + List.length y6 ≤ (140737488355328 : Nat))) (
      some ((x2, x3, x0, x1, x6 ++ y6, y2))) (
      none ))
noncomputable def T95r1018a (N : Nat) : Pk → Tr Pk := tellS s95r1018a w95r1018a (F95r1018a N)
theorem T95r1018a_ok (N : Nat) : FOK Tryz.prog (95 * bigK + 1018) (T95r1018a N) :=
  (rnd_ok ownT mix (tab95r1018a_ok N) Tryz.func95 1018 s95r1018a w95r1018a [0, 1, 2, 3, 4, 5, 1, 2, 3, 4, 5] (cuts := []) trivial (fun _ => by kernel_rfl) (by decide +kernel) (F95r1018a N) (fun x => by kernel_rfl))
@[reducible] def s146b : SP := ⟨[.yv 0, .adr 1 []], [.lp 1752440687002407404538 [3, 4, 5, 10, 11] [.adr 2 [], .adr 3 [], .adr 4 [], .adr 5 [], .adr 6 []] 0, .var 22 (.sl 7), .var 35 (.ro y1), .var 35 (.ro y1), .var 145 (.fn 143), .var 35 (.sl 8), .var 171 (.agg [.int .i64, .int .i64, .sl 9]), .row (.int .i64) 3, .row y1 58, .row y3 178]⟩
noncomputable def tab146b (N : Nat) : List (Nat × (Pk → Tr Pk)) := [(95 * bigK + 1018, T95r1018a N)]
theorem tab146b_ok (N : Nat) : TabOK Tryz.prog (tab146b N) := ⟨T95r1018a_ok N, trivial⟩
@[reducible] def L146b_6 : LD := ⟨6, [0, 1, 3], [(.exit 0, [])], ⟨[.yv 0, .adr 1 [], .int .i64], [.lp 1752440687002407404538 [3, 4, 5, 10, 11] [.adr 2 [], .adr 3 [], .adr 4 [], .adr 5 [], .adr 6 []] 0, .var 22 (.sl 7), .var 35 (.ro y1), .var 35 (.ro y1), .var 145 (.fn 143), .var 35 (.sl 8), .var 171 (.agg [.int .i64, .int .i64, .sl 9]), .row (.int .i64) 3, .row y1 58, .row y3 178]⟩, [(.exit 0, ⟨[], [.lp 1752440687002407404538 [3, 4, 5, 10, 11] [.adr 2 [], .adr 3 [], .adr 4 [], .adr 5 [], .adr 6 []] 0, .var 22 (.sl 7), .var 35 (.ro y1), .var 35 (.ro y1), .var 145 (.fn 143), .var 35 (.sl 8), .var 171 (.agg [.int .i64, .int .i64, .sl 9]), .row (.int .i64) 3, .row y1 58, .row y3 178]⟩)]⟩
abbrev P146b_6 : Type := Int × (List (Int × (Int × (Int × (Int × Unit))))) × (List (Int × (Int × (Int × (Int × Unit))))) × Int × Int × (List Int) × (List (Int × (Int × (Int × (Int × Unit))))) × (List (Int × (Int × Unit)))
abbrev R146b_6 : Type := (List (Int × (Int × (Int × (Int × Unit))))) × (List (Int × (Int × (Int × (Int × Unit))))) × Int × Int × (List Int) × (List (Int × (Int × (Int × (Int × Unit))))) × (List (Int × (Int × Unit)))
noncomputable def B146b_6 (N : Nat) (f : P146b_6 → Option R146b_6) : P146b_6 → Option R146b_6
  | (x0, x1, x2, x3, x4, x5, x6, x7) =>
  iteP (decide (x0 < (↑(List.length x5) : Int))) (
    iteP (within (IntKind.wrap IntKind.i64 (x0 - (1 : Int))) (List.length x5)) (
      Option.bind (x5[Int.toNat (IntKind.wrap IntKind.i64 (x0 - (1 : Int)))]?) fun y0 =>
      iteP (within x0 (List.length x5)) (
        Option.bind (x5[Int.toNat x0]?) fun y1 =>
        Option.bind (F95r1018a N (y0, y1, x1, x2, x3, x4, x6, x7)) fun (y2_0, y2_1, y2_2, y2_3, y2_4, y2_5) =>
        Option.bind (f (IntKind.wrap IntKind.i64 (x0 + (1 : Int)), y2_0, y2_1, y2_2, y2_3, x5, y2_4, y2_5)) fun r => some r) (
        none )) (
      none )) (
    some ((x1, x2, x3, x4, x5, x6, x7)))
noncomputable def F146b_6 (N : Nat) : Nat → P146b_6 → Option R146b_6
  | 0, _ => none
  | k + 1, x => B146b_6 N (F146b_6 N k) x
noncomputable def C146b_6 (N : Nat) (k : Nat) : Cut := L146b_6.cut (F146b_6 N k)
theorem C146b_6_ok (N : Nat) (k : Nat) : CutAt Tryz.prog false Tryz.f146 [0, 1, 2, 3, 4, 5, 6] 6 (C146b_6 N k) :=
  L146b_6.loopT ownT mix (tab146b_ok N) Tryz.f146 [0, 1, 2, 3, 4, 5, 6] (cuts := []) trivial (by decide +kernel) (by kernel_rfl) (B146b_6 N) (F146b_6 N) (fun _ => rfl) (fun _ _ => rfl) (fun f x => by kernel_rfl) k
@[reducible] def w146b : List SP := [⟨[.tup []], [.lp 1752440687002407404538 [3, 4, 5, 10, 11] [.adr 2 [], .adr 3 [], .adr 4 [], .adr 5 [], .adr 6 []] 0, .var 22 (.sl 7), .var 35 (.ro y1), .var 35 (.ro y1), .var 145 (.fn 143), .var 35 (.sl 8), .var 171 (.agg [.int .i64, .int .i64, .sl 9]), .row (.int .i64) 3, .row y1 58, .row y3 178]⟩]
noncomputable def F146b (N : Nat) : ((List (Int × (Int × (Int × (Int × Unit))))) × (List (Int × (Int × (Int × (Int × Unit))))) × Int × Int × (List Int) × (List (Int × (Int × (Int × (Int × Unit))))) × (List (Int × (Int × Unit)))) → Option ((List (Int × (Int × (Int × (Int × Unit))))) × (List (Int × (Int × (Int × (Int × Unit))))) × Int × Int × (List Int) × (List (Int × (Int × (Int × (Int × Unit))))) × (List (Int × (Int × Unit))))
  | (x0, x1, x2, x3, x4, x5, x6) =>
  Option.bind (F146b_6 N N ((1 : Int), x0, x1, x2, x3, x4, x5, x6)) fun (y0_0, y0_1, y0_2, y0_3, y0_4, y0_5, y0_6) =>
  some ((y0_0, y0_1, y0_2, y0_3, y0_4, y0_5, y0_6))
noncomputable def T146b (N : Nat) : Pk → Tr Pk := tellS s146b w146b (F146b N)
theorem T146b_ok (N : Nat) : FOK Tryz.prog (146) (T146b N) :=
  (fn_ok2 ownT mix (tab146b_ok N) Tryz.func146 s146b w146b [0, 1, 2, 3, 4, 5, 6] (cuts := [(6, C146b_6 N N)]) ⟨C146b_6_ok N N, trivial⟩ (fun _ => by kernel_rfl) (by decide +kernel) (F146b N) (fun x => by kernel_rfl))
@[reducible] def s95a : SP := ⟨[.sl 0, .sl 1, .fn 143], [.row y1 58, .row y1 58]⟩
noncomputable def tab95a (N : Nat) : List (Nat × (Pk → Tr Pk)) := [(121, T121 N), (122, T122 N), (124, T124 N), (123, T123 N), (146, T146b N), (128, T128 N)]
theorem tab95a_ok (N : Nat) : TabOK Tryz.prog (tab95a N) := ⟨T121_ok N, T122_ok N, T124_ok N, T123_ok N, T146b_ok N, T128_ok N, trivial⟩
@[reducible] def L95a_122 : LD := ⟨122, [7, 24, 23, 3, 4, 5, 6, 22], [(.ret, [6]), (.exit 0, [7, 6, 5, 4, 3])], ⟨[.sl 0, .int .i64, .int .i64, .adr 1 [], .adr 2 [], .adr 3 [], .sl 4, .sl 5], [.row (.int .i64) 3, .var 35 (.ro y1), .var 35 (.ro y1), .var 145 (.fn 143), .row y1 58, .row y1 58]⟩, [(.exit 0, ⟨[.sl 0, .sl 1, .adr 2 [], .adr 3 [], .adr 4 []], [.row (.int .i64) 3, .row y1 58, .var 145 (.fn 143), .var 35 (.ro y1), .var 35 (.ro y1)]⟩)]⟩
abbrev P95a_122 : Type := Int × Int × (List Int) × (List (Int × (Int × (Int × (Int × Unit))))) × (List (Int × (Int × (Int × (Int × Unit))))) × (List (Int × (Int × (Int × (Int × Unit))))) × (List (Int × (Int × (Int × (Int × Unit)))))
abbrev R95a_122 : Type := (List Int) × (List (Int × (Int × (Int × (Int × Unit))))) × (List (Int × (Int × (Int × (Int × Unit))))) × (List (Int × (Int × (Int × (Int × Unit)))))
noncomputable def B95a_122 (N : Nat) (f : P95a_122 → Option R95a_122) : P95a_122 → Option R95a_122
  | (x0, x1, x2, x3, x4, x5, x6) =>
  iteP (decide (x0 < x1)) (
    iteP (within x0 (List.length x6)) (
      Option.bind (x6[Int.toNat x0]?) fun y0 =>
      iteP (decide ((List.length x2 + List.length [y0.2.1, IntKind.wrap IntKind.i64 (y0.2.1 + y0.2.2.2.1)]) * (8 : Nat) ≤ (140737488355328 : Nat) ∧ List.length x2 + List.length [y0.2.1, IntKind.wrap IntKind.i64 (y0.2.1 + y0.2.2.2.1)] ≤ (140737488355328 : Nat))) (
        Option.bind (f (IntKind.wrap IntKind.i64 (x0 + (1 : Int)), x1, x2 ++ [y0.2.1, IntKind.wrap IntKind.i64 (y0.2.1 + y0.2.2.2.1)], x3, x4, x5, x6)) fun r => some r) (
        none )) (
      none )) (
    some ((x2, x5, x4, x3)))
noncomputable def F95a_122 (N : Nat) : Nat → P95a_122 → Option R95a_122
  | 0, _ => none
  | k + 1, x => B95a_122 N (F95a_122 N k) x
noncomputable def C95a_122 (N : Nat) (k : Nat) : Cut := L95a_122.cut (F95a_122 N k)
theorem C95a_122_ok (N : Nat) (k : Nat) : CutAt Tryz.prog false Tryz.f95 [] 122 (C95a_122 N k) :=
  L95a_122.loopT ownT mix (tab95a_ok N) Tryz.f95 [] (cuts := []) trivial (by decide +kernel) (by kernel_rfl) (B95a_122 N) (F95a_122 N) (fun _ => rfl) (fun _ _ => rfl) (fun f x => by kernel_rfl) k
@[reducible] def L95a_1018 : LD := ⟨1018, [6, 5, 4, 3, 11, 10, 41], [(.ret, [6]), (.exit 2, [10, 11]), (.normal, [10, 11])], ⟨[.sl 0, .adr 1 [], .adr 2 [], .adr 3 [], .adr 4 [], .adr 5 [], .clo 146 [.adr 6 []]], [.row y1 58, .var 145 (.fn 143), .var 35 (.ro y1), .var 35 (.ro y1), .var 171 (.agg [.int .i64, .int .i64, .sl 7]), .var 35 (.sl 8), .var 22 (.sl 9), .row y3 178, .row y1 58, .row (.int .i64) 3]⟩, [(.normal, ⟨[.adr 0 [], .adr 1 []], [.var 35 (.sl 2), .var 171 (.agg [.int .i64, .int .i64, .sl 3]), .row y1 58, .row y3 178]⟩)]⟩
noncomputable def F95a_1018 (N : Nat) : ((List (Int × (Int × (Int × (Int × Unit))))) × (List (Int × (Int × (Int × (Int × Unit))))) × (List (Int × (Int × (Int × (Int × Unit))))) × Int × Int × (List (Int × (Int × Unit))) × (List (Int × (Int × (Int × (Int × Unit))))) × (List Int)) → Option (Int × Int × (List (Int × (Int × (Int × (Int × Unit))))) × (List (Int × (Int × Unit))))
  | (x0, x1, x2, x3, x4, x5, x6, x7) =>
  Option.bind (F146b N (x2, x1, x3, x4, x7, x6, x5)) fun (y0_0, y0_1, y0_2, y0_3, y0_4, y0_5, y0_6) =>
  some ((y0_2, y0_3, y0_5, y0_6))
noncomputable def C95a_1018 (N : Nat) (_ : Nat) : Cut := L95a_1018.cut (F95a_1018 N)
theorem C95a_1018_ok (N : Nat) (k : Nat) : CutAt Tryz.prog false Tryz.f95 [] 1018 (C95a_1018 N k) :=
  L95a_1018.rngT ownT mix (tab95a_ok N) Tryz.func95 [] [3, 4, 5, 10, 11] (by decide +kernel) (F95a_1018 N) (fun x => by kernel_rfl)
@[reducible] def w95a : List SP := [⟨[.sl 0], [.row y1 58]⟩]
noncomputable def F95a (N : Nat) : ((List (Int × (Int × (Int × (Int × Unit))))) × (List (Int × (Int × (Int × (Int × Unit)))))) → Option ((List (Int × (Int × (Int × (Int × Unit))))))
  | (x0, x1) =>
  Option.bind (F121 N x0) fun y0 =>
  Option.bind (F121 N x1) fun y1 =>
  Option.bind (F122 N [y0, y1]) fun y2 =>
  Option.bind (F95a_122 N N ((0 : Int), (↑(List.length y2) : Int), [], y0, y1, [], y2)) fun y3 =>
  Option.bind (F124 N y3.1) fun y4 =>
  Option.bind (F123 N y4) fun y5 =>
  Option.bind (F95a_1018 N (y3.2.1, y3.2.2.1, y3.2.2.2, (0 : Int), (0 : Int), [], [], y5)) fun y6 =>
  Option.bind (F128 N (y6.1, y6.2.1, y6.2.2.2)) fun y7 =>
  iteP (decide ((List.length y6.2.2.1 + List.length y7) * (32 : Nat) ≤ (140737488355328 : Nat) ∧ List.length y6.2.2.1 + List.length y7 ≤ (140737488355328 : Nat))) (
    some (y6.2.2.1 ++ y7)) (
    none )
noncomputable def T95a (N : Nat) : Pk → Tr Pk := tellS s95a w95a (F95a N)
theorem T95a_ok (N : Nat) : FOK Tryz.prog (95) (T95a N) :=
  (fn_ok2 ownT mix (tab95a_ok N) Tryz.func95 s95a w95a [] (cuts := [(122, C95a_122 N N), (1018, C95a_1018 N N)]) ⟨C95a_122_ok N N, C95a_1018_ok N N, trivial⟩ (fun _ => by kernel_rfl) (by decide +kernel) (F95a N) (fun x => by kernel_rfl))
@[reducible] def s118 : SP := ⟨[.sl 0, .sl 1], [.row y1 58, .row y1 58]⟩
noncomputable def tab118 (N : Nat) : List (Nat × (Pk → Tr Pk)) := [(95, T95a N)]
theorem tab118_ok (N : Nat) : TabOK Tryz.prog (tab118 N) := ⟨T95a_ok N, trivial⟩
@[reducible] def w118 : List SP := [⟨[.sl 0], [.row y1 58]⟩]
noncomputable def F118 (N : Nat) : ((List (Int × (Int × (Int × (Int × Unit))))) × (List (Int × (Int × (Int × (Int × Unit)))))) → Option ((List (Int × (Int × (Int × (Int × Unit))))))
  | (x0, x1) =>
  Option.bind (F95a N (x0, x1)) fun y0 =>
  some (y0)
noncomputable def T118 (N : Nat) : Pk → Tr Pk := tellS s118 w118 (F118 N)
theorem T118_ok (N : Nat) : FOK Tryz.prog (118) (T118 N) :=
  (fn_ok2 ownT mix (tab118_ok N) Tryz.func118 s118 w118 [] (cuts := []) trivial (fun _ => by kernel_rfl) (by decide +kernel) (F118 N) (fun x => by kernel_rfl))
@[reducible] def s91 : SP := ⟨[.adr 0 [], .agg [.int .i64, .int .i64, .int .i64, .int .i64]], [.var 62 (.agg [.adr 1 [], .str, .int .i64, .str, .str, .fv, .bool, .int .i64, .agg [.sl 2], .agg [.agg [.agg [.agg [.bool, .str]]]], .agg [.int .i64, .int .i64, .bool, .bool, .int .i64, .int .i64, .int .i64, .int .i64, .int .i64, .int .i64], .sl 3, .sl 4, .sl 5, .sl 6, .bool, .bool, .agg [.agg [.int .i64, .int .i64, .int .i64, .int .i64], .agg [.int .i64, .int .i64, .int .i64, .int .i64], .bool], .int .i64]), .var 100 (.agg [.int .i64, .int .i64, .sl 7]), .row y0 70, .row (.int .i64) 3, .row y1 58, .row y1 58, .row y1 58, .row (.int .i64) 3]⟩
noncomputable def tab91 (N : Nat) : List (Nat × (Pk → Tr Pk)) := [(118, T118 N)]
theorem tab91_ok (N : Nat) : TabOK Tryz.prog (tab91 N) := ⟨T118_ok N, trivial⟩
@[reducible] def w91 : List SP := [⟨[.tup []], [.var 62 (.agg [.adr 1 [], .str, .int .i64, .str, .str, .fv, .bool, .int .i64, .agg [.sl 2], .agg [.agg [.agg [.agg [.bool, .str]]]], .agg [.int .i64, .int .i64, .bool, .bool, .int .i64, .int .i64, .int .i64, .int .i64, .int .i64, .int .i64], .sl 3, .sl 4, .sl 5, .sl 6, .bool, .bool, .agg [.agg [.int .i64, .int .i64, .int .i64, .int .i64], .agg [.int .i64, .int .i64, .int .i64, .int .i64], .bool], .int .i64]), .var 100 (.agg [.int .i64, .int .i64, .sl 7]), .row y0 70, .row (.int .i64) 3, .row y1 58, .row y1 58, .row y1 58, .row (.int .i64) 3]⟩]
noncomputable def F91 (N : Nat) : (Int × Int × Int × Int × ByteArray × Int × ByteArray × ByteArray × Nat × Bool × Int × Bool × ByteArray × Int × Int × Bool × Bool × Int × Int × Int × Int × Int × Int × Bool × Bool × Int × Int × Int × Int × Int × Int × Int × Int × Bool × Int × Int × Int × (List (Int × (Bool × (Int × ((Int × (Int × (Int × (Int × Unit)))) × ((Int × (Int × (Bool × (Bool × (Int × (Int × (Int × (Int × (Int × (Int × Unit)))))))))) × ((List Int) × (ByteArray × Unit)))))))) × (List Int) × (List (Int × (Int × (Int × (Int × Unit))))) × (List (Int × (Int × (Int × (Int × Unit))))) × (List (Int × (Int × (Int × (Int × Unit))))) × (List Int)) → Option (ByteArray × Int × ByteArray × ByteArray × Nat × Bool × Int × Bool × ByteArray × Int × Int × Bool × Bool × Int × Int × Int × Int × Int × Int × Bool × Bool × Int × Int × Int × Int × Int × Int × Int × Int × Bool × Int × Int × Int × (List (Int × (Bool × (Int × ((Int × (Int × (Int × (Int × Unit)))) × ((Int × (Int × (Bool × (Bool × (Int × (Int × (Int × (Int × (Int × (Int × Unit)))))))))) × ((List Int) × (ByteArray × Unit)))))))) × (List Int) × (List (Int × (Int × (Int × (Int × Unit))))) × (List (Int × (Int × (Int × (Int × Unit))))) × (List (Int × (Int × (Int × (Int × Unit))))) × (List Int))
  | (x0, x1, x2, x3, x4, x5, x6, x7, x8, x9, x10, x11, x12, x13, x14, x15, x16, x17, x18, x19, x20, x21, x22, x23, x24, x25, x26, x27, x28, x29, x30, x31, x32, x33, x34, x35, x36, x37, x38, x39, x40, x41, x42) =>
  Option.bind (F118 N (x39, [(x0, x1, x2, x3, ())])) fun y0 =>
  some ((x4, x5, x6, x7, x8, x9, x10, x11, x12, x13, x14, x15, x16, x17, x18, x19, x20, x21, x22, x23, x24, x25, x26, x27, x28, x29, x30, x31, x32, x33, x34, x35, x36, x37, x38, y0, x40, x41, x42))
noncomputable def T91 (N : Nat) : Pk → Tr Pk := tellS s91 w91 (F91 N)
theorem T91_ok (N : Nat) : FOK Tryz.prog (91) (T91 N) :=
  (fn_ok2 ownT mix (tab91_ok N) Tryz.func91 s91 w91 [0, 1] (cuts := []) trivial (fun _ => by kernel_rfl) (by decide +kernel) (F91 N) (fun x => by kernel_rfl))
@[reducible] def s156 : SP := ⟨[.adr 0 []], [.var 62 (.agg [.adr 1 [], .str, .int .i64, .str, .str, .fv, .bool, .int .i64, .agg [.sl 2], .agg [.agg [.agg [.agg [.bool, .str]]]], .agg [.int .i64, .int .i64, .bool, .bool, .int .i64, .int .i64, .int .i64, .int .i64, .int .i64, .int .i64], .sl 3, .sl 4, .sl 5, .sl 6, .bool, .bool, .agg [.agg [.int .i64, .int .i64, .int .i64, .int .i64], .agg [.int .i64, .int .i64, .int .i64, .int .i64], .bool], .int .i64]), .var 100 (.agg [.int .i64, .int .i64, .sl 7]), .row y0 70, .row (.int .i64) 3, .row y1 58, .row y1 58, .row y1 58, .row (.int .i64) 3]⟩
noncomputable def tab156 (N : Nat) : List (Nat × (Pk → Tr Pk)) := [(91, T91 N)]
theorem tab156_ok (N : Nat) : TabOK Tryz.prog (tab156 N) := ⟨T91_ok N, trivial⟩
@[reducible] def w156 : List SP := [⟨[.tup []], [.var 62 (.agg [.adr 1 [], .str, .int .i64, .str, .str, .fv, .bool, .int .i64, .agg [.sl 2], .agg [.agg [.agg [.agg [.bool, .str]]]], .agg [.int .i64, .int .i64, .bool, .bool, .int .i64, .int .i64, .int .i64, .int .i64, .int .i64, .int .i64], .sl 3, .sl 4, .sl 5, .sl 6, .bool, .bool, .agg [.agg [.int .i64, .int .i64, .int .i64, .int .i64], .agg [.int .i64, .int .i64, .int .i64, .int .i64], .bool], .int .i64]), .var 100 (.agg [.int .i64, .int .i64, .sl 7]), .row y0 70, .row (.int .i64) 3, .row y1 58, .row y1 58, .row y1 58, .row (.int .i64) 3]⟩]
noncomputable def F156 (N : Nat) : (ByteArray × Int × ByteArray × ByteArray × Nat × Bool × Int × Bool × ByteArray × Int × Int × Bool × Bool × Int × Int × Int × Int × Int × Int × Bool × Bool × Int × Int × Int × Int × Int × Int × Int × Int × Bool × Int × Int × Int × (List (Int × (Bool × (Int × ((Int × (Int × (Int × (Int × Unit)))) × ((Int × (Int × (Bool × (Bool × (Int × (Int × (Int × (Int × (Int × (Int × Unit)))))))))) × ((List Int) × (ByteArray × Unit)))))))) × (List Int) × (List (Int × (Int × (Int × (Int × Unit))))) × (List (Int × (Int × (Int × (Int × Unit))))) × (List (Int × (Int × (Int × (Int × Unit))))) × (List Int)) → Option (ByteArray × Int × ByteArray × ByteArray × Nat × Bool × Int × Bool × ByteArray × Int × Int × Bool × Bool × Int × Int × Int × Int × Int × Int × Bool × Bool × Int × Int × Int × Int × Int × Int × Int × Int × Bool × Int × Int × Int × (List (Int × (Bool × (Int × ((Int × (Int × (Int × (Int × Unit)))) × ((Int × (Int × (Bool × (Bool × (Int × (Int × (Int × (Int × (Int × (Int × Unit)))))))))) × ((List Int) × (ByteArray × Unit)))))))) × (List Int) × (List (Int × (Int × (Int × (Int × Unit))))) × (List (Int × (Int × (Int × (Int × Unit))))) × (List (Int × (Int × (Int × (Int × Unit))))) × (List Int))
  | (x0, x1, x2, x3, x4, x5, x6, x7, x8, x9, x10, x11, x12, x13, x14, x15, x16, x17, x18, x19, x20, x21, x22, x23, x24, x25, x26, x27, x28, x29, x30, x31, x32, x33, x34, x35, x36, x37, x38) =>
  iteP (x29) (
    Option.bind (F91 N (x25, x26, x27, x28, x0, x1, x2, x3, x4, x5, x6, x7, x8, x9, x10, x11, x12, x13, x14, x15, x16, x17, x18, x19, x20, x21, x22, x23, x24, x25, x26, x27, x28, x29, x30, x31, x32, x33, x34, x35, x36, x37, x38)) fun (y0_0, y0_1, y0_2, y0_3, y0_4, y0_5, y0_6, y0_7, y0_8, y0_9, y0_10, y0_11, y0_12, y0_13, y0_14, y0_15, y0_16, y0_17, y0_18, y0_19, y0_20, y0_21, y0_22, y0_23, y0_24, y0_25, y0_26, y0_27, y0_28, y0_29, y0_30, y0_31, y0_32, y0_33, y0_34, y0_35, y0_36, y0_37, y0_38) =>
    some ((y0_0, y0_1, y0_2, y0_3, y0_4, y0_5, y0_6, y0_7, y0_8, y0_9, y0_10, y0_11, y0_12, y0_13, y0_14, y0_15, y0_16, y0_17, y0_18, y0_19, y0_20, (0 : Int), (0 : Int), (0 : Int), (0 : Int), (0 : Int), (0 : Int), (0 : Int), (0 : Int), false, y0_30, y0_31, y0_32, y0_33, y0_34, y0_35, y0_36, y0_37, y0_38))) (
    some ((x0, x1, x2, x3, x4, x5, x6, x7, x8, x9, x10, x11, x12, x13, x14, x15, x16, x17, x18, x19, x20, (0 : Int), (0 : Int), (0 : Int), (0 : Int), (0 : Int), (0 : Int), (0 : Int), (0 : Int), false, x30, x31, x32, x33, x34, x35, x36, x37, x38)))
noncomputable def T156 (N : Nat) : Pk → Tr Pk := tellS s156 w156 (F156 N)
theorem T156_ok (N : Nat) : FOK Tryz.prog (156) (T156 N) :=
  (fn_ok2 ownT mix (tab156_ok N) Tryz.func156 s156 w156 [0, 1] (cuts := []) trivial (fun _ => by kernel_rfl) (by decide +kernel) (F156 N) (fun x => by kernel_rfl))
@[reducible] def s171 : SP := ⟨[.int .i64, .int .i64, .int .i64, .int .i64], []⟩
noncomputable def tab171 (N : Nat) : List (Nat × (Pk → Tr Pk)) := []
theorem tab171_ok (N : Nat) : TabOK Tryz.prog (tab171 N) := trivial
@[reducible] def w171 : List SP := [⟨[.tup [.int .i64, .int .i64]], []⟩]
noncomputable def F171 (N : Nat) : (Int × Int × Int × Int) → Option (Int × Int)
  | (x0, x1, x2, x3) =>
  some ((if x2 > x0 then x2 else x0, IntKind.wrap IntKind.i64 ((if IntKind.wrap IntKind.i64 (x2 + x3) < IntKind.wrap IntKind.i64 (x0 + x1) then IntKind.wrap IntKind.i64 (x2 + x3) else IntKind.wrap IntKind.i64 (x0 + x1)) - if x2 > x0 then x2 else x0)))
noncomputable def T171 (N : Nat) : Pk → Tr Pk := tellS s171 w171 (F171 N)
theorem T171_ok (N : Nat) : FOK Tryz.prog (171) (T171 N) :=
  (fn_ok2 ownT mix (tab171_ok N) Tryz.func171 s171 w171 [] (cuts := []) trivial (fun _ => by kernel_rfl) (by decide +kernel) (F171 N) (fun x => by kernel_rfl))
end Go.Proofs.YtonjhbefeeoiiaaGreat.Am
