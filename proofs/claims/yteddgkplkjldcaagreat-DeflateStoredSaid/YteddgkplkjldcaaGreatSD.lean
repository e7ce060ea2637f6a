/- The seat's Go functions come to the Lean functions written here, wherever these give an answer (part D). -/
import Derived.Test.YteddgkplkjldcaaGreatSC
set_option linter.unusedVariables false
set_option maxRecDepth 100000
namespace Go.Proofs.YteddgkplkjldcaaGreat.Am
open Go.Am

/-! ## f26: mirador/deflate.Coded -/

noncomputable def I26 : Pk → Option ((List (Int × (Int × (Int × Unit)))) × Bool × Bool × Int × Int × (List Int))
  | ⟨[.adr 0 [], .ro (.cons (.int .i64) (.cons (.int .i64) (.cons (.int .i64) .unit))) x0, .v (.bool x1), .v (.bool x2)], [some (.var (.agg [.sl 1 none, .v (.int .i64 x3), .v (.int .i64 x4)])), some (.row (.int .u8) 5 x5)]⟩ => some (x0, x1, x2, x3, x4, x5)
  | _ => none

noncomputable def J26 (x : (List (Int × (Int × (Int × Unit)))) × Bool × Bool × Int × Int × (List Int)) : Pk := ⟨[.adr 0 [], .ro (.cons (.int .i64) (.cons (.int .i64) (.cons (.int .i64) .unit))) (x.1), .v (.bool (x.2.1)), .v (.bool (x.2.2.1))], [some (.var (.agg [.sl 1 none, .v (.int .i64 (x.2.2.2.1)), .v (.int .i64 (x.2.2.2.2.1))])), some (.row (.int .u8) 5 (x.2.2.2.2.2))]⟩

theorem I26_ok : ∀ pk x, I26 pk = some x → pk = J26 x := by
  intro pk x h
  unfold I26 at h
  split at h <;> first | (cases h; rfl) | cases h

noncomputable def A26 : List TV := [.adr 0 []]

noncomputable def tab26 (N : Nat) : List (Nat × (Pk → Tr Pk)) := [(27, T27 N), (46, T46 N), (64, T64 N), (65, T65 N), (66, T66 N), (68, T68 N), (67, T67 N), (21, T21 N)]

theorem tab26_ok (N : Nat) : TabOK Tryz.prog (tab26 N) := ⟨T27_ok N, ⟨T46_ok N, ⟨T64_ok N, ⟨T65_ok N, ⟨T66_ok N, ⟨T68_ok N, ⟨T67_ok N, ⟨T21_ok N, trivial⟩⟩⟩⟩⟩⟩⟩⟩

def X26_26 : Ex → List Nat
  | .ret => [8]
  | .exit 0 => [2, 3, 0, 1]
  | _ => []

noncomputable def I26_26 : Pk → Option (Int × (List (Int × (Int × (Int × Unit)))) × Bool × Bool × (List (Int × (Int × (Int × Unit)))) × Int × Int × Int × (List Int))
  | ⟨[.v (.int .i64 x0), .ro (Ty.cons (Ty.int IntKind.i64) (Ty.cons (Ty.int IntKind.i64) (Ty.cons (Ty.int IntKind.i64) Ty.unit))) x1, .adr 0 [], .v (.bool x2), .v (.bool x3), .ro (Ty.cons (Ty.int IntKind.i64) (Ty.cons (Ty.int IntKind.i64) (Ty.cons (Ty.int IntKind.i64) Ty.unit))) x4, .v (.int .i64 x5)], [some (.var (.agg [.sl 1 (none), .v (.int .i64 x6), .v (.int .i64 x7)])), some (.row (Ty.int IntKind.u8) 5 x8)]⟩ => some (x0, x1, x2, x3, x4, x5, x6, x7, x8)
  | _ => none

noncomputable def J26_26 (x : Int × (List (Int × (Int × (Int × Unit)))) × Bool × Bool × (List (Int × (Int × (Int × Unit)))) × Int × Int × Int × (List Int)) : Pk := ⟨[.v (.int .i64 (x.1)), .ro (Ty.cons (Ty.int IntKind.i64) (Ty.cons (Ty.int IntKind.i64) (Ty.cons (Ty.int IntKind.i64) Ty.unit))) (x.2.1), .adr 0 [], .v (.bool (x.2.2.1)), .v (.bool (x.2.2.2.1)), .ro (Ty.cons (Ty.int IntKind.i64) (Ty.cons (Ty.int IntKind.i64) (Ty.cons (Ty.int IntKind.i64) Ty.unit))) (x.2.2.2.2.1), .v (.int .i64 (x.2.2.2.2.2.1))], [some (.var (.agg [.sl 1 (none), .v (.int .i64 (x.2.2.2.2.2.2.1)), .v (.int .i64 (x.2.2.2.2.2.2.2.1))])), some (.row (Ty.int IntKind.u8) 5 (x.2.2.2.2.2.2.2.2))]⟩

theorem I26_26_ok : ∀ pk x, I26_26 pk = some x → pk = J26_26 x := by
  intro pk x h
  unfold I26_26 at h
  split at h <;> first | (cases h; rfl) | cases h

noncomputable def O26_26 (r : ((Int × Int × Int × (List Int)) ⊕ (Bool × Bool × (List (Int × (Int × (Int × Unit)))) × Int × Int × (List Int)))) : Tr (Ex × Pk) := .sum _ _ r (fun u => .ret (.ret, ⟨[.v (.int .i64 (u.1))], [some (.var (.agg [.sl 1 (none), .v (.int .i64 (u.2.1)), .v (.int .i64 (u.2.2.1))])), some (.row (Ty.int IntKind.u8) 5 (u.2.2.2))]⟩)) (fun v => .ret (.exit 0, ⟨[.v (.bool (v.1)), .v (.bool (v.2.1)), .adr 0 [], .ro (Ty.cons (Ty.int IntKind.i64) (Ty.cons (Ty.int IntKind.i64) (Ty.cons (Ty.int IntKind.i64) Ty.unit))) (v.2.2.1)], [some (.var (.agg [.sl 1 (none), .v (.int .i64 (v.2.2.2.1)), .v (.int .i64 (v.2.2.2.2.1))])), some (.row (Ty.int IntKind.u8) 5 (v.2.2.2.2.2))]⟩))

noncomputable def D26_26 : Ex × Pk → Option (((Int × Int × Int × (List Int)) ⊕ (Bool × Bool × (List (Int × (Int × (Int × Unit)))) × Int × Int × (List Int))))
  | (.ret, ⟨[.v (.int .i64 x0)], [some (.var (.agg [.sl 1 (none), .v (.int .i64 x1), .v (.int .i64 x2)])), some (.row (Ty.int IntKind.u8) 5 x3)]⟩) => some (.inl ((x0, x1, x2, x3)))
  | (.exit 0, ⟨[.v (.bool x0), .v (.bool x1), .adr 0 [], .ro (Ty.cons (Ty.int IntKind.i64) (Ty.cons (Ty.int IntKind.i64) (Ty.cons (Ty.int IntKind.i64) Ty.unit))) x2], [some (.var (.agg [.sl 1 (none), .v (.int .i64 x3), .v (.int .i64 x4)])), some (.row (Ty.int IntKind.u8) 5 x5)]⟩) => some (.inr ((x0, x1, x2, x3, x4, x5)))
  | _ => none

theorem D26_26_ok : ∀ y r, D26_26 y = some r → ∀ z, (O26_26 r).to z → y = z := by
  intro y r h
  unfold D26_26 at h
  split at h <;> first | (cases h; intro z hz; exact Option.some.inj hz) | cases h

noncomputable def B26_26 (N : Nat) (f : (Int × (List (Int × (Int × (Int × Unit)))) × Bool × Bool × (List (Int × (Int × (Int × Unit)))) × Int × Int × Int × (List Int)) → Option (((Int × Int × Int × (List Int)) ⊕ (Bool × Bool × (List (Int × (Int × (Int × Unit)))) × Int × Int × (List Int))))) : (Int × (List (Int × (Int × (Int × Unit)))) × Bool × Bool × (List (Int × (Int × (Int × Unit)))) × Int × Int × Int × (List Int)) → Option (((Int × Int × Int × (List Int)) ⊕ (Bool × Bool × (List (Int × (Int × (Int × Unit)))) × Int × Int × (List Int))))
  | (x0, x1, x2, x3, x4, x5, x6, x7, x8) =>
  iteP (decide (x5 < x0)) (
    iteP (within x5 (List.length x4)) (
      Option.bind (x4[Int.toNat x5]?) fun y0 =>
      Option.bind (F27 N (Prod.fst y0, Prod.fst (Prod.snd y0), Prod.fst (Prod.snd (Prod.snd y0)))) fun y1 =>
      iteP (!y1) (
        some (.inl (((1 : Int), x6, x7, x8)))) (
        Option.bind (f (x0, x1, x2, x3, x4, IntKind.wrap IntKind.i64 (x5 + (1 : Int)), x6, x7, x8)) fun r => match r with | .inl (y) => some (.inl (y)) | .inr (y) => some (.inr (y)))) (
      none)) (
    some (.inr ((x3, x2, x1, x6, x7, x8))))

noncomputable def F26_26 (N : Nat) : Nat → (Int × (List (Int × (Int × (Int × Unit)))) × Bool × Bool × (List (Int × (Int × (Int × Unit)))) × Int × Int × Int × (List Int)) → Option (((Int × Int × Int × (List Int)) ⊕ (Bool × Bool × (List (Int × (Int × (Int × Unit)))) × Int × Int × (List Int))))
  | 0, _ => none
  | k + 1, x => B26_26 N (F26_26 N k) x

noncomputable def C26_26 (N : Nat) (k : Nat) : Cut := ⟨[19, 1, 0, 3, 2, 18, 20], X26_26, tellX I26_26 (F26_26 N k) O26_26⟩

theorem B26_26_eq (N : Nat) (f : (Int × (List (Int × (Int × (Int × Unit)))) × Bool × Bool × (List (Int × (Int × (Int × Unit)))) × Int × Int × Int × (List Int)) → Option (((Int × Int × Int × (List Int)) ⊕ (Bool × Bool × (List (Int × (Int × (Int × Unit)))) × Int × Int × (List Int))))) (x0 : Int) (x1 : (List (Int × (Int × (Int × Unit))))) (x2 : Bool) (x3 : Bool) (x4 : (List (Int × (Int × (Int × Unit))))) (x5 : Int) (x6 : Int) (x7 : Int) (x8 : (List Int)) : (roundEv (mkE Tryz.prog ownT (tab26 N) []) Tryz.f26.ntmps A26 (loopAt (bod Tryz.f26) 26) 26 ⟨[19, 1, 0, 3, 2, 18, 20], X26_26, tellX I26_26 f O26_26⟩ (J26_26 (x0, x1, x2, x3, x4, x5, x6, x7, x8))).run D26_26 = B26_26 N f (x0, x1, x2, x3, x4, x5, x6, x7, x8) := by kernel_rfl

theorem C26_26_ok (N : Nat) (k : Nat) : ∀ c', At (bod Tryz.f26) 26 c' → CutOK Tryz.prog Tryz.f26.ntmps (idsL A26) c' (C26_26 N k) :=
  loop_ok (E := (mkE Tryz.prog ownT (tab26 N) [])) (mkE_ok mix (tab26_ok N)) (cutsIn_ok trivial) (fuel := 200) (by decide +kernel) (by kernel_rfl) I26_26_ok D26_26_ok (B26_26 N) (F26_26 N) (fun _ => rfl) (fun _ _ => rfl) (fun f x => match x with | (x0, x1, x2, x3, x4, x5, x6, x7, x8) => B26_26_eq N f x0 x1 x2 x3 x4 x5 x6 x7 x8) k

noncomputable def O26 (r : Int × Int × Int × (List Int)) : Tr (Pk) := .ret ⟨[.v (.int .i64 (r.1))], [some (.var (.agg [.sl 1 (none), .v (.int .i64 (r.2.1)), .v (.int .i64 (r.2.2.1))])), some (.row (Ty.int IntKind.u8) 5 (r.2.2.2))]⟩

noncomputable def D26 : Pk → Option (Int × Int × Int × (List Int))
  | ⟨[.v (.int .i64 x0)], [some (.var (.agg [.sl 1 (none), .v (.int .i64 x1), .v (.int .i64 x2)])), some (.row (Ty.int IntKind.u8) 5 x3)]⟩ => some ((x0, x1, x2, x3))
  | _ => none

theorem D26_ok : ∀ y r, D26 y = some r → ∀ z, (O26 r).to z → y = z := by
  intro y r h
  unfold D26 at h
  split at h <;> first | (cases h; intro z hz; exact Option.some.inj hz) | cases h

noncomputable def F26 (N : Nat) : ((List (Int × (Int × (Int × Unit)))) × Bool × Bool × Int × Int × (List Int)) → Option (Int × Int × Int × (List Int))
  | (x0, x1, x2, x3, x4, x5) =>
  Option.bind (F26_26 N N ((↑(List.length x0) : Int), x0, x2, x1, x0, (0 : Int), x3, x4, x5)) fun y0 =>
  match y0 with
  | .inl y1 =>
    some ((Prod.fst y1, Prod.fst (Prod.snd y1), Prod.fst (Prod.snd (Prod.snd y1)), Prod.snd (Prod.snd (Prod.snd y1))))
  | .inr y1 =>
    iteP (!Prod.fst y1) (
      Option.bind (F46 N (Prod.fst (Prod.snd y1), (1 : Int), Prod.fst (Prod.snd (Prod.snd (Prod.snd y1))), Prod.fst (Prod.snd (Prod.snd (Prod.snd (Prod.snd y1)))), Prod.snd (Prod.snd (Prod.snd (Prod.snd (Prod.snd y1)))))) fun y2 =>
      Option.bind (F64 N ()) fun y3 =>
      Option.bind (F65 N (Prod.fst y3, Prod.snd y3, Prod.fst (Prod.snd (Prod.snd y1)), Prod.fst y2, Prod.fst (Prod.snd y2), Prod.snd (Prod.snd y2))) fun y4 =>
      some ((Prod.fst y4, Prod.fst (Prod.snd y4), Prod.fst (Prod.snd (Prod.snd y4)), Prod.snd (Prod.snd (Prod.snd y4))))) (
      Option.bind (F66 N (Prod.fst (Prod.snd (Prod.snd y1)))) fun y5 =>
      Option.bind (F68 N (Prod.fst y5)) fun y6 =>
      Option.bind (F67 N (y6, (257 : Int))) fun y7 =>
      Option.bind (F68 N (Prod.snd y5)) fun y8 =>
      Option.bind (F67 N (y8, (1 : Int))) fun y9 =>
      Option.bind (F46 N (Prod.fst (Prod.snd y1), (2 : Int), Prod.fst (Prod.snd (Prod.snd (Prod.snd y1))), Prod.fst (Prod.snd (Prod.snd (Prod.snd (Prod.snd y1)))), Prod.snd (Prod.snd (Prod.snd (Prod.snd (Prod.snd y1)))))) fun y10 =>
      Option.bind (F21 N (y7, y9, Prod.fst y10, Prod.fst (Prod.snd y10), Prod.snd (Prod.snd y10))) fun y11 =>
      iteP (Prod.fst y11 != (0 : Int)) (
        some ((Prod.fst y11, Prod.fst (Prod.snd y11), Prod.fst (Prod.snd (Prod.snd y11)), Prod.snd (Prod.snd (Prod.snd y11))))) (
        Option.bind (F65 N (y7, y9, Prod.fst (Prod.snd (Prod.snd y1)), Prod.fst (Prod.snd y11), Prod.fst (Prod.snd (Prod.snd y11)), Prod.snd (Prod.snd (Prod.snd y11)))) fun y12 =>
        some ((Prod.fst y12, Prod.fst (Prod.snd y12), Prod.fst (Prod.snd (Prod.snd y12)), Prod.snd (Prod.snd (Prod.snd y12))))))

theorem F26_eq (N : Nat) (x0 : (List (Int × (Int × (Int × Unit))))) (x1 : Bool) (x2 : Bool) (x3 : Int) (x4 : Int) (x5 : (List Int)) : (fnEv (mkE Tryz.prog ownT (tab26 N) [(26, (C26_26 N N))]) Tryz.f26 (J26 (x0, x1, x2, x3, x4, x5))).run D26 = F26 N (x0, x1, x2, x3, x4, x5) := by kernel_rfl

noncomputable def T26 (N : Nat) : Pk → Tr Pk := tell I26 (F26 N) O26

theorem T26_ok (N : Nat) : FOK Tryz.prog 26 (T26 N) :=
  (tell_ok (E := (mkE Tryz.prog ownT (tab26 N) [(26, (C26_26 N N))])) (mkE_ok mix (tab26_ok N)) Tryz.func26 (show Tryz.f26.body = some (bod Tryz.f26) by kernel_rfl) (by decide +kernel) (F := F26 N) I26_ok D26_ok (args := A26) (fun _ => by kernel_rfl) (fun _ => by show 4 ≤ Tryz.f26.ntmps; exact of_decide_eq_true (by kernel_rfl)) (cutsIn_ok ⟨fun c' h => (C26_26_ok N N c' h), trivial⟩) (fun x => match x with | (x0, x1, x2, x3, x4, x5) => F26_eq N x0 x1 x2 x3 x4 x5))

/-! ## f160: mirador/deflate.coded$1 -/

noncomputable def tab160 (N : Nat) : List (Nat × (Pk → Tr Pk)) := [(26, T26 N)]

theorem tab160_ok (N : Nat) : TabOK Tryz.prog (tab160 N) := ⟨T26_ok N, trivial⟩

noncomputable def T160 (N : Nat) : Pk → Tr Pk := inlT (mkE Tryz.prog ownT (tab160 N) []) Tryz.f160

theorem T160_ok (N : Nat) : FOK Tryz.prog 160 (T160 N) :=
  inl_ok (E := mkE Tryz.prog ownT (tab160 N) []) (mkE_ok mix (tab160_ok N)) Tryz.func160 (show Tryz.f160.body = some (bod Tryz.f160) by kernel_rfl) (by decide +kernel) (fun _ => cutsIn_ok trivial)

/-! ## f138: mirador/deflate.coded -/

noncomputable def tab138 (N : Nat) : List (Nat × (Pk → Tr Pk)) := [(18, T18 N), (160, T160 N)]

theorem tab138_ok (N : Nat) : TabOK Tryz.prog (tab138 N) := ⟨T18_ok N, ⟨T160_ok N, trivial⟩⟩

noncomputable def T138 (N : Nat) : Pk → Tr Pk := inlT (mkE Tryz.prog ownT (tab138 N) []) Tryz.f138

theorem T138_ok (N : Nat) : FOK Tryz.prog 138 (T138 N) :=
  inl_ok (E := mkE Tryz.prog ownT (tab138 N) []) (mkE_ok mix (tab138_ok N)) Tryz.func138 (show Tryz.f138.body = some (bod Tryz.f138) by kernel_rfl) (by decide +kernel) (fun _ => cutsIn_ok trivial)

/-! ## f137: mirador/deflate.shorter -/

noncomputable def tab137 (N : Nat) : List (Nat × (Pk → Tr Pk)) := []

theorem tab137_ok (N : Nat) : TabOK Tryz.prog (tab137 N) := trivial

noncomputable def T137 (N : Nat) : Pk → Tr Pk := inlT (mkE Tryz.prog ownT (tab137 N) []) Tryz.f137

theorem T137_ok (N : Nat) : FOK Tryz.prog 137 (T137 N) :=
  inl_ok (E := mkE Tryz.prog ownT (tab137 N) []) (mkE_ok mix (tab137_ok N)) Tryz.func137 (show Tryz.f137.body = some (bod Tryz.f137) by kernel_rfl) (by decide +kernel) (fun _ => cutsIn_ok trivial)

/-! ## f136: mirador/deflate.put$1 -/

noncomputable def tab136 (N : Nat) : List (Nat × (Pk → Tr Pk)) := [(15, T15 N)]

theorem tab136_ok (N : Nat) : TabOK Tryz.prog (tab136 N) := ⟨T15_ok N, trivial⟩

noncomputable def T136 (N : Nat) : Pk → Tr Pk := inlT (mkE Tryz.prog ownT (tab136 N) []) Tryz.f136

theorem T136_ok (N : Nat) : FOK Tryz.prog 136 (T136 N) :=
  inl_ok (E := mkE Tryz.prog ownT (tab136 N) []) (mkE_ok mix (tab136_ok N)) Tryz.func136 (show Tryz.f136.body = some (bod Tryz.f136) by kernel_rfl) (by decide +kernel) (fun _ => cutsIn_ok trivial)

/-! ## f111: mirador/deflate.put -/

noncomputable def I111 : Pk → Option ((List (Int × (Int × (Int × Unit)))) × ByteArray × Bool × Int × Int × (List Int))
  | ⟨[.adr 0 [], .ro (.cons (.int .i64) (.cons (.int .i64) (.cons (.int .i64) .unit))) x0, .v (.string x1), .v (.bool x2)], [some (.var (.agg [.sl 1 none, .v (.int .i64 x3), .v (.int .i64 x4)])), some (.row (.int .u8) 5 x5)]⟩ => some (x0, x1, x2, x3, x4, x5)
  | _ => none

noncomputable def J111 (x : (List (Int × (Int × (Int × Unit)))) × ByteArray × Bool × Int × Int × (List Int)) : Pk := ⟨[.adr 0 [], .ro (.cons (.int .i64) (.cons (.int .i64) (.cons (.int .i64) .unit))) (x.1), .v (.string (x.2.1)), .v (.bool (x.2.2.1))], [some (.var (.agg [.sl 1 none, .v (.int .i64 (x.2.2.2.1)), .v (.int .i64 (x.2.2.2.2.1))])), some (.row (.int .u8) 5 (x.2.2.2.2.2))]⟩

theorem I111_ok : ∀ pk x, I111 pk = some x → pk = J111 x := by
  intro pk x h
  unfold I111 at h
  split at h <;> first | (cases h; rfl) | cases h

noncomputable def A111 : List TV := [.adr 0 []]

noncomputable def tab111 (N : Nat) : List (Nat × (Pk → Tr Pk)) := [(138, T138 N), (137, T137 N), (136, T136 N), (160, T160 N)]

theorem tab111_ok (N : Nat) : TabOK Tryz.prog (tab111 N) := ⟨T138_ok N, ⟨T137_ok N, ⟨T136_ok N, ⟨T160_ok N, trivial⟩⟩⟩⟩

noncomputable def O111 (r : Int × Int × (List Int)) : Tr (Pk) := .ret ⟨[.tup []], [some (.var (.agg [.sl 1 (none), .v (.int .i64 (r.1)), .v (.int .i64 (r.2.1))])), some (.row (Ty.int IntKind.u8) 5 (r.2.2))]⟩

noncomputable def D111 : Pk → Option (Int × Int × (List Int))
  | ⟨[.tup []], [some (.var (.agg [.sl 1 (none), .v (.int .i64 x0), .v (.int .i64 x1)])), some (.row (Ty.int IntKind.u8) 5 x2)]⟩ => some ((x0, x1, x2))
  | _ => none

theorem D111_ok : ∀ y r, D111 y = some r → ∀ z, (O111 r).to z → y = z := by
  intro y r h
  unfold D111 at h
  split at h <;> first | (cases h; intro z hz; exact Option.some.inj hz) | cases h

noncomputable def F111 (N : Nat) : ((List (Int × (Int × (Int × Unit)))) × ByteArray × Bool × Int × Int × (List Int)) → Option (Int × Int × (List Int))
  | (x0, x1, x2, x3, x4, x5) =>
  Option.bind (F26 N (x0, false, x2, (0 : Int), (0 : Int), [])) fun y0 =>
  Option.bind (F18 N (Prod.snd (Prod.snd (Prod.snd y0)), Prod.fst (Prod.snd y0), Prod.fst (Prod.snd (Prod.snd y0)), ())) fun y1 =>
  Option.bind (F26 N (x0, true, x2, (0 : Int), (0 : Int), [])) fun y2 =>
  Option.bind (F18 N (Prod.snd (Prod.snd (Prod.snd y2)), Prod.fst (Prod.snd y2), Prod.fst (Prod.snd (Prod.snd y2)), ())) fun y3 =>
  iteP (decide (y3 < y1)) (
    iteP (decide (y3 < IntKind.wrap IntKind.i64 (IntKind.wrap IntKind.i64 ((8 : Int) * (↑(ByteArray.size x1) : Int)) + IntKind.wrap IntKind.i64 ((40 : Int) * IntKind.wrap IntKind.i64 ((1 : Int) + IntKind.wrap IntKind.i64 (Int.tdiv (↑(ByteArray.size x1) : Int) (65535 : Int))))))) (
      Option.bind (F26 N (x0, true, x2, x3, x4, x5)) fun y4 =>
      some ((Prod.fst (Prod.snd y4), Prod.fst (Prod.snd (Prod.snd y4)), Prod.snd (Prod.snd (Prod.snd y4))))) (
      Option.bind (F15 N (x1, x2, x3, x4, x5)) fun y5 =>
      some ((Prod.fst y5, Prod.fst (Prod.snd y5), Prod.snd (Prod.snd y5))))) (
    iteP (decide (y1 < IntKind.wrap IntKind.i64 (IntKind.wrap IntKind.i64 ((8 : Int) * (↑(ByteArray.size x1) : Int)) + IntKind.wrap IntKind.i64 ((40 : Int) * IntKind.wrap IntKind.i64 ((1 : Int) + IntKind.wrap IntKind.i64 (Int.tdiv (↑(ByteArray.size x1) : Int) (65535 : Int))))))) (
      Option.bind (F26 N (x0, false, x2, x3, x4, x5)) fun y6 =>
      some ((Prod.fst (Prod.snd y6), Prod.fst (Prod.snd (Prod.snd y6)), Prod.snd (Prod.snd (Prod.snd y6))))) (
      Option.bind (F15 N (x1, x2, x3, x4, x5)) fun y7 =>
      some ((Prod.fst y7, Prod.fst (Prod.snd y7), Prod.snd (Prod.snd y7)))))

theorem F111_eq (N : Nat) (x0 : (List (Int × (Int × (Int × Unit))))) (x1 : ByteArray) (x2 : Bool) (x3 : Int) (x4 : Int) (x5 : (List Int)) : (fnEv (mkE Tryz.prog ownT (tab111 N) []) Tryz.f111 (J111 (x0, x1, x2, x3, x4, x5))).run D111 = F111 N (x0, x1, x2, x3, x4, x5) := by kernel_rfl

noncomputable def T111 (N : Nat) : Pk → Tr Pk := tell I111 (F111 N) O111

theorem T111_ok (N : Nat) : FOK Tryz.prog 111 (T111 N) :=
  (tell_ok (E := (mkE Tryz.prog ownT (tab111 N) [])) (mkE_ok mix (tab111_ok N)) Tryz.func111 (show Tryz.f111.body = some (bod Tryz.f111) by kernel_rfl) (by decide +kernel) (F := F111 N) I111_ok D111_ok (args := A111) (fun _ => by kernel_rfl) (fun _ => by show 4 ≤ Tryz.f111.ntmps; exact of_decide_eq_true (by kernel_rfl)) (cutsIn_ok trivial) (fun x => match x with | (x0, x1, x2, x3, x4, x5) => F111_eq N x0 x1 x2 x3 x4 x5))

/-! ## f75: mirador/deflate.blocks -/

noncomputable def I75 : Pk → Option (ByteArray × ByteArray × Bool × Int × Int × (List Int))
  | ⟨[.adr 0 [], .v (.string x0), .v (.string x1), .v (.bool x2)], [some (.var (.agg [.sl 1 none, .v (.int .i64 x3), .v (.int .i64 x4)])), some (.row (.int .u8) 5 x5)]⟩ => some (x0, x1, x2, x3, x4, x5)
  | _ => none

noncomputable def J75 (x : ByteArray × ByteArray × Bool × Int × Int × (List Int)) : Pk := ⟨[.adr 0 [], .v (.string (x.1)), .v (.string (x.2.1)), .v (.bool (x.2.2.1))], [some (.var (.agg [.sl 1 none, .v (.int .i64 (x.2.2.2.1)), .v (.int .i64 (x.2.2.2.2.1))])), some (.row (.int .u8) 5 (x.2.2.2.2.2))]⟩

theorem I75_ok : ∀ pk x, I75 pk = some x → pk = J75 x := by
  intro pk x h
  unfold I75 at h
  split at h <;> first | (cases h; rfl) | cases h

noncomputable def A75 : List TV := [.adr 0 []]

noncomputable def tab75 (N : Nat) : List (Nat × (Pk → Tr Pk)) := [(110, T110 N), (111, T111 N)]

theorem tab75_ok (N : Nat) : TabOK Tryz.prog (tab75 N) := ⟨T110_ok N, ⟨T111_ok N, trivial⟩⟩

def X75_7322 : Ex → List Nat
  | .ret => []
  | .exit 2 => [8, 10, 2, 11, 3, 0]
  | .exit 1 => [3, 0, 2, 8]
  | .exit 0 => []
  | _ => []

def X75_14 : Ex → List Nat
  | .ret => []
  | .exit 0 => []
  | _ => []

noncomputable def I75_14 : Pk → Option (Bool × Bool × ByteArray × Int × Int × (List (Int × (Int × (Int × Unit)))) × (List Int))
  | ⟨[.v (.bool x0), .v (.bool x1), .adr 0 [], .v (.string x2), .sl 1 (none)], [some (.var (.agg [.sl 2 (none), .v (.int .i64 x3), .v (.int .i64 x4)])), some (.row (Ty.cons (Ty.int IntKind.i64) (Ty.cons (Ty.int IntKind.i64) (Ty.cons (Ty.int IntKind.i64) Ty.unit))) 52 x5), some (.row (Ty.int IntKind.u8) 5 x6)]⟩ => some (x0, x1, x2, x3, x4, x5, x6)
  | _ => none

noncomputable def J75_14 (x : Bool × Bool × ByteArray × Int × Int × (List (Int × (Int × (Int × Unit)))) × (List Int)) : Pk := ⟨[.v (.bool (x.1)), .v (.bool (x.2.1)), .adr 0 [], .v (.string (x.2.2.1)), .sl 1 (none)], [some (.var (.agg [.sl 2 (none), .v (.int .i64 (x.2.2.2.1)), .v (.int .i64 (x.2.2.2.2.1))])), some (.row (Ty.cons (Ty.int IntKind.i64) (Ty.cons (Ty.int IntKind.i64) (Ty.cons (Ty.int IntKind.i64) Ty.unit))) 52 (x.2.2.2.2.2.1)), some (.row (Ty.int IntKind.u8) 5 (x.2.2.2.2.2.2))]⟩

theorem I75_14_ok : ∀ pk x, I75_14 pk = some x → pk = J75_14 x := by
  intro pk x h
  unfold I75_14 at h
  split at h <;> first | (cases h; rfl) | cases h

noncomputable def I75_7322 : Pk → Option (Int × Int × Int × Bool × ByteArray × Int × Nat × Int × Int × (List (Int × (Int × (Int × Unit)))) × (List Int))
  | ⟨[.v (.int .i64 x0), .v (.int .i64 x1), .v (.int .i64 x2), .adr 0 [], .v (.bool x3), .v (.string x4), .v (.int .i64 x5), .sl 1 (none), .sl 1 (some ((0, x6)))], [some (.var (.agg [.sl 2 (none), .v (.int .i64 x7), .v (.int .i64 x8)])), some (.row (Ty.cons (Ty.int IntKind.i64) (Ty.cons (Ty.int IntKind.i64) (Ty.cons (Ty.int IntKind.i64) Ty.unit))) 52 x9), some (.row (Ty.int IntKind.u8) 5 x10)]⟩ => some (x0, x1, x2, x3, x4, x5, x6, x7, x8, x9, x10)
  | _ => none

noncomputable def J75_7322 (x : Int × Int × Int × Bool × ByteArray × Int × Nat × Int × Int × (List (Int × (Int × (Int × Unit)))) × (List Int)) : Pk := ⟨[.v (.int .i64 (x.1)), .v (.int .i64 (x.2.1)), .v (.int .i64 (x.2.2.1)), .adr 0 [], .v (.bool (x.2.2.2.1)), .v (.string (x.2.2.2.2.1)), .v (.int .i64 (x.2.2.2.2.2.1)), .sl 1 (none), .sl 1 (some ((0, (x.2.2.2.2.2.2.1))))], [some (.var (.agg [.sl 2 (none), .v (.int .i64 (x.2.2.2.2.2.2.2.1)), .v (.int .i64 (x.2.2.2.2.2.2.2.2.1))])), some (.row (Ty.cons (Ty.int IntKind.i64) (Ty.cons (Ty.int IntKind.i64) (Ty.cons (Ty.int IntKind.i64) Ty.unit))) 52 (x.2.2.2.2.2.2.2.2.2.1)), some (.row (Ty.int IntKind.u8) 5 (x.2.2.2.2.2.2.2.2.2.2))]⟩

theorem I75_7322_ok : ∀ pk x, I75_7322 pk = some x → pk = J75_7322 x := by
  intro pk x h
  unfold I75_7322 at h
  split at h <;> first | (cases h; rfl) | cases h

noncomputable def O75_7322 (r : Int × ByteArray × Int × Bool × Int × Int × (List (Int × (Int × (Int × Unit)))) × (List Int)) : Tr (Ex × Pk) := .ret (.exit 2, ⟨[.sl 1 (none), .v (.int .i64 (r.1)), .v (.string (r.2.1)), .v (.int .i64 (r.2.2.1)), .v (.bool (r.2.2.2.1)), .adr 0 []], [some (.var (.agg [.sl 2 (none), .v (.int .i64 (r.2.2.2.2.1)), .v (.int .i64 (r.2.2.2.2.2.1))])), some (.row (Ty.cons (Ty.int IntKind.i64) (Ty.cons (Ty.int IntKind.i64) (Ty.cons (Ty.int IntKind.i64) Ty.unit))) 52 (r.2.2.2.2.2.2.1)), some (.row (Ty.int IntKind.u8) 5 (r.2.2.2.2.2.2.2))]⟩)

noncomputable def D75_7322 : Ex × Pk → Option (Int × ByteArray × Int × Bool × Int × Int × (List (Int × (Int × (Int × Unit)))) × (List Int))
  | (.exit 2, ⟨[.sl 1 (none), .v (.int .i64 x0), .v (.string x1), .v (.int .i64 x2), .v (.bool x3), .adr 0 []], [some (.var (.agg [.sl 2 (none), .v (.int .i64 x4), .v (.int .i64 x5)])), some (.row (Ty.cons (Ty.int IntKind.i64) (Ty.cons (Ty.int IntKind.i64) (Ty.cons (Ty.int IntKind.i64) Ty.unit))) 52 x6), some (.row (Ty.int IntKind.u8) 5 x7)]⟩) => some ((x0, x1, x2, x3, x4, x5, x6, x7))
  | _ => none

theorem D75_7322_ok : ∀ y r, D75_7322 y = some r → ∀ z, (O75_7322 r).to z → y = z := by
  intro y r h
  unfold D75_7322 at h
  split at h <;> first | (cases h; intro z hz; exact Option.some.inj hz) | cases h

noncomputable def B75_7322 (N : Nat) (f : (Int × Int × Int × Bool × ByteArray × Int × Nat × Int × Int × (List (Int × (Int × (Int × Unit)))) × (List Int)) → Option (Int × ByteArray × Int × Bool × Int × Int × (List (Int × (Int × (Int × Unit)))) × (List Int))) : (Int × Int × Int × Bool × ByteArray × Int × Nat × Int × Int × (List (Int × (Int × (Int × Unit)))) × (List Int)) → Option (Int × ByteArray × Int × Bool × Int × Int × (List (Int × (Int × (Int × Unit)))) × (List Int))
  | (x0, x1, x2, x3, x4, x5, x6, x7, x8, x9, x10) =>
  iteP (decide (x1 < x2)) (
    iteP (within x1 x6) (
      Option.bind (x9[(0 : Nat) + Int.toNat x1]?) fun y0 =>
      Option.bind (f (IntKind.wrap IntKind.i64 (x0 + if (1 : Int) > Prod.fst (Prod.snd y0) then (1 : Int) else Prod.fst (Prod.snd y0)), IntKind.wrap IntKind.i64 (x1 + (1 : Int)), x2, x3, x4, x5, x6, x7, x8, x9, x10)) fun r => some r) (
      none)) (
    some ((x5, x4, x0, x3, x7, x8, x9, x10)))

noncomputable def F75_7322 (N : Nat) : Nat → (Int × Int × Int × Bool × ByteArray × Int × Nat × Int × Int × (List (Int × (Int × (Int × Unit)))) × (List Int)) → Option (Int × ByteArray × Int × Bool × Int × Int × (List (Int × (Int × (Int × Unit)))) × (List Int))
  | 0, _ => none
  | k + 1, x => B75_7322 N (F75_7322 N k) x

noncomputable def C75_7322 (N : Nat) (k : Nat) : Cut := ⟨[11, 30, 29, 0, 3, 2, 10, 8, 28], X75_7322, tellX I75_7322 (F75_7322 N k) O75_7322⟩

theorem B75_7322_eq (N : Nat) (f : (Int × Int × Int × Bool × ByteArray × Int × Nat × Int × Int × (List (Int × (Int × (Int × Unit)))) × (List Int)) → Option (Int × ByteArray × Int × Bool × Int × Int × (List (Int × (Int × (Int × Unit)))) × (List Int))) (x0 : Int) (x1 : Int) (x2 : Int) (x3 : Bool) (x4 : ByteArray) (x5 : Int) (x6 : Nat) (x7 : Int) (x8 : Int) (x9 : (List (Int × (Int × (Int × Unit))))) (x10 : (List Int)) : (roundEv (mkE Tryz.prog ownT (tab75 N) []) Tryz.f75.ntmps A75 (loopAt (bod Tryz.f75) 7322) 7322 ⟨[11, 30, 29, 0, 3, 2, 10, 8, 28], X75_7322, tellX I75_7322 f O75_7322⟩ (J75_7322 (x0, x1, x2, x3, x4, x5, x6, x7, x8, x9, x10))).run D75_7322 = B75_7322 N f (x0, x1, x2, x3, x4, x5, x6, x7, x8, x9, x10) := by kernel_rfl

theorem C75_7322_ok (N : Nat) (k : Nat) : ∀ c', At (bod Tryz.f75) 7322 c' → CutOK Tryz.prog Tryz.f75.ntmps (idsL A75) c' (C75_7322 N k) :=
  loop_ok (E := (mkE Tryz.prog ownT (tab75 N) [])) (mkE_ok mix (tab75_ok N)) (cutsIn_ok trivial) (fuel := 200) (by decide +kernel) (by kernel_rfl) I75_7322_ok D75_7322_ok (B75_7322 N) (F75_7322 N) (fun _ => rfl) (fun _ _ => rfl) (fun f x => match x with | (x0, x1, x2, x3, x4, x5, x6, x7, x8, x9, x10) => B75_7322_eq N f x0 x1 x2 x3 x4 x5 x6 x7 x8 x9 x10) k

noncomputable def I75_14n : Pk → Option (Bool × Bool × ByteArray × Nat × Nat × Int × Int × (List (Int × (Int × (Int × Unit)))) × (List Int))
  | ⟨[.v (.bool x0), .v (.bool x1), .adr 0 [], .v (.string x2), .sl 1 (some ((x3, x4)))], [some (.var (.agg [.sl 2 (none), .v (.int .i64 x5), .v (.int .i64 x6)])), some (.row (Ty.cons (Ty.int IntKind.i64) (Ty.cons (Ty.int IntKind.i64) (Ty.cons (Ty.int IntKind.i64) Ty.unit))) 52 x7), some (.row (Ty.int IntKind.u8) 5 x8)]⟩ => some (x0, x1, x2, x3, x4, x5, x6, x7, x8)
  | _ => none

noncomputable def J75_14n (x : Bool × Bool × ByteArray × Nat × Nat × Int × Int × (List (Int × (Int × (Int × Unit)))) × (List Int)) : Pk := ⟨[.v (.bool (x.1)), .v (.bool (x.2.1)), .adr 0 [], .v (.string (x.2.2.1)), .sl 1 (some (((x.2.2.2.1), (x.2.2.2.2.1))))], [some (.var (.agg [.sl 2 (none), .v (.int .i64 (x.2.2.2.2.2.1)), .v (.int .i64 (x.2.2.2.2.2.2.1))])), some (.row (Ty.cons (Ty.int IntKind.i64) (Ty.cons (Ty.int IntKind.i64) (Ty.cons (Ty.int IntKind.i64) Ty.unit))) 52 (x.2.2.2.2.2.2.2.1)), some (.row (Ty.int IntKind.u8) 5 (x.2.2.2.2.2.2.2.2))]⟩

theorem I75_14n_ok : ∀ pk x, I75_14n pk = some x → pk = J75_14n x := by
  intro pk x h
  unfold I75_14n at h
  split at h <;> first | (cases h; rfl) | cases h

noncomputable def I75_7322b : Pk → Option (Int × Int × Int × Bool × ByteArray × Int × Nat × Nat × Nat × Nat × Int × Int × (List (Int × (Int × (Int × Unit)))) × (List Int))
  | ⟨[.v (.int .i64 x0), .v (.int .i64 x1), .v (.int .i64 x2), .adr 0 [], .v (.bool x3), .v (.string x4), .v (.int .i64 x5), .sl 1 (some ((x6, x7))), .sl 1 (some ((x8, x9)))], [some (.var (.agg [.sl 2 (none), .v (.int .i64 x10), .v (.int .i64 x11)])), some (.row (Ty.cons (Ty.int IntKind.i64) (Ty.cons (Ty.int IntKind.i64) (Ty.cons (Ty.int IntKind.i64) Ty.unit))) 52 x12), some (.row (Ty.int IntKind.u8) 5 x13)]⟩ => some (x0, x1, x2, x3, x4, x5, x6, x7, x8, x9, x10, x11, x12, x13)
  | _ => none

noncomputable def J75_7322b (x : Int × Int × Int × Bool × ByteArray × Int × Nat × Nat × Nat × Nat × Int × Int × (List (Int × (Int × (Int × Unit)))) × (List Int)) : Pk := ⟨[.v (.int .i64 (x.1)), .v (.int .i64 (x.2.1)), .v (.int .i64 (x.2.2.1)), .adr 0 [], .v (.bool (x.2.2.2.1)), .v (.string (x.2.2.2.2.1)), .v (.int .i64 (x.2.2.2.2.2.1)), .sl 1 (some (((x.2.2.2.2.2.2.1), (x.2.2.2.2.2.2.2.1)))), .sl 1 (some (((x.2.2.2.2.2.2.2.2.1), (x.2.2.2.2.2.2.2.2.2.1))))], [some (.var (.agg [.sl 2 (none), .v (.int .i64 (x.2.2.2.2.2.2.2.2.2.2.1)), .v (.int .i64 (x.2.2.2.2.2.2.2.2.2.2.2.1))])), some (.row (Ty.cons (Ty.int IntKind.i64) (Ty.cons (Ty.int IntKind.i64) (Ty.cons (Ty.int IntKind.i64) Ty.unit))) 52 (x.2.2.2.2.2.2.2.2.2.2.2.2.1)), some (.row (Ty.int IntKind.u8) 5 (x.2.2.2.2.2.2.2.2.2.2.2.2.2))]⟩

theorem I75_7322b_ok : ∀ pk x, I75_7322b pk = some x → pk = J75_7322b x := by
  intro pk x h
  unfold I75_7322b at h
  split at h <;> first | (cases h; rfl) | cases h

noncomputable def O75_7322b (r : Nat × Nat × Int × ByteArray × Int × Bool × Int × Int × (List (Int × (Int × (Int × Unit)))) × (List Int)) : Tr (Ex × Pk) := .ret (.exit 2, ⟨[.sl 1 (some (((r.1), (r.2.1)))), .v (.int .i64 (r.2.2.1)), .v (.string (r.2.2.2.1)), .v (.int .i64 (r.2.2.2.2.1)), .v (.bool (r.2.2.2.2.2.1)), .adr 0 []], [some (.var (.agg [.sl 2 (none), .v (.int .i64 (r.2.2.2.2.2.2.1)), .v (.int .i64 (r.2.2.2.2.2.2.2.1))])), some (.row (Ty.cons (Ty.int IntKind.i64) (Ty.cons (Ty.int IntKind.i64) (Ty.cons (Ty.int IntKind.i64) Ty.unit))) 52 (r.2.2.2.2.2.2.2.2.1)), some (.row (Ty.int IntKind.u8) 5 (r.2.2.2.2.2.2.2.2.2))]⟩)

noncomputable def D75_7322b : Ex × Pk → Option (Nat × Nat × Int × ByteArray × Int × Bool × Int × Int × (List (Int × (Int × (Int × Unit)))) × (List Int))
  | (.exit 2, ⟨[.sl 1 (some ((x0, x1))), .v (.int .i64 x2), .v (.string x3), .v (.int .i64 x4), .v (.bool x5), .adr 0 []], [some (.var (.agg [.sl 2 (none), .v (.int .i64 x6), .v (.int .i64 x7)])), some (.row (Ty.cons (Ty.int IntKind.i64) (Ty.cons (Ty.int IntKind.i64) (Ty.cons (Ty.int IntKind.i64) Ty.unit))) 52 x8), some (.row (Ty.int IntKind.u8) 5 x9)]⟩) => some ((x0, x1, x2, x3, x4, x5, x6, x7, x8, x9))
  | _ => none

theorem D75_7322b_ok : ∀ y r, D75_7322b y = some r → ∀ z, (O75_7322b r).to z → y = z := by
  intro y r h
  unfold D75_7322b at h
  split at h <;> first | (cases h; intro z hz; exact Option.some.inj hz) | cases h

noncomputable def B75_7322b (N : Nat) (f : (Int × Int × Int × Bool × ByteArray × Int × Nat × Nat × Nat × Nat × Int × Int × (List (Int × (Int × (Int × Unit)))) × (List Int)) → Option (Nat × Nat × Int × ByteArray × Int × Bool × Int × Int × (List (Int × (Int × (Int × Unit)))) × (List Int))) : (Int × Int × Int × Bool × ByteArray × Int × Nat × Nat × Nat × Nat × Int × Int × (List (Int × (Int × (Int × Unit)))) × (List Int)) → Option (Nat × Nat × Int × ByteArray × Int × Bool × Int × Int × (List (Int × (Int × (Int × Unit)))) × (List Int))
  | (x0, x1, x2, x3, x4, x5, x6, x7, x8, x9, x10, x11, x12, x13) =>
  iteP (decide (x1 < x2)) (
    iteP (within x1 x9) (
      Option.bind (x12[x8 + Int.toNat x1]?) fun y0 =>
      Option.bind (f (IntKind.wrap IntKind.i64 (x0 + if (1 : Int) > Prod.fst (Prod.snd y0) then (1 : Int) else Prod.fst (Prod.snd y0)), IntKind.wrap IntKind.i64 (x1 + (1 : Int)), x2, x3, x4, x5, x6, x7, x8, x9, x10, x11, x12, x13)) fun r => some r) (
      none)) (
    some ((x6, x7, x5, x4, x0, x3, x10, x11, x12, x13)))

noncomputable def F75_7322b (N : Nat) : Nat → (Int × Int × Int × Bool × ByteArray × Int × Nat × Nat × Nat × Nat × Int × Int × (List (Int × (Int × (Int × Unit)))) × (List Int)) → Option (Nat × Nat × Int × ByteArray × Int × Bool × Int × Int × (List (Int × (Int × (Int × Unit)))) × (List Int))
  | 0, _ => none
  | k + 1, x => B75_7322b N (F75_7322b N k) x

noncomputable def C75_7322b (N : Nat) (k : Nat) : Cut := ⟨[11, 30, 29, 0, 3, 2, 10, 8, 28], X75_7322, tellX I75_7322b (F75_7322b N k) O75_7322b⟩

theorem B75_7322b_eq (N : Nat) (f : (Int × Int × Int × Bool × ByteArray × Int × Nat × Nat × Nat × Nat × Int × Int × (List (Int × (Int × (Int × Unit)))) × (List Int)) → Option (Nat × Nat × Int × ByteArray × Int × Bool × Int × Int × (List (Int × (Int × (Int × Unit)))) × (List Int))) (x0 : Int) (x1 : Int) (x2 : Int) (x3 : Bool) (x4 : ByteArray) (x5 : Int) (x6 : Nat) (x7 : Nat) (x8 : Nat) (x9 : Nat) (x10 : Int) (x11 : Int) (x12 : (List (Int × (Int × (Int × Unit))))) (x13 : (List Int)) : (roundEv (mkE Tryz.prog ownT (tab75 N) [(7322, (C75_7322 N N))]) Tryz.f75.ntmps A75 (loopAt (bod Tryz.f75) 7322) 7322 ⟨[11, 30, 29, 0, 3, 2, 10, 8, 28], X75_7322, tellX I75_7322b f O75_7322b⟩ (J75_7322b (x0, x1, x2, x3, x4, x5, x6, x7, x8, x9, x10, x11, x12, x13))).run D75_7322b = B75_7322b N f (x0, x1, x2, x3, x4, x5, x6, x7, x8, x9, x10, x11, x12, x13) := by kernel_rfl

theorem C75_7322b_ok (N : Nat) (k : Nat) : ∀ c', At (bod Tryz.f75) 7322 c' → CutOK Tryz.prog Tryz.f75.ntmps (idsL A75) c' (C75_7322b N k) :=
  loop_ok (E := (mkE Tryz.prog ownT (tab75 N) [(7322, (C75_7322 N N))])) (mkE_ok mix (tab75_ok N)) (cutsIn_ok ⟨fun c' h => (C75_7322_ok N N c' h), trivial⟩) (fuel := 200) (by decide +kernel) (by kernel_rfl) I75_7322b_ok D75_7322b_ok (B75_7322b N) (F75_7322b N) (fun _ => rfl) (fun _ _ => rfl) (fun f x => match x with | (x0, x1, x2, x3, x4, x5, x6, x7, x8, x9, x10, x11, x12, x13) => B75_7322b_eq N f x0 x1 x2 x3 x4 x5 x6 x7 x8 x9 x10 x11 x12 x13) k

noncomputable def O75_14n (r : Int × Int × (List Int)) : Tr (Ex × Pk) := .ret (.exit 0, ⟨[], [some (.var (.agg [.sl 1 (none), .v (.int .i64 (r.1)), .v (.int .i64 (r.2.1))])), some (.row (Ty.int IntKind.u8) 5 (r.2.2))]⟩)

noncomputable def D75_14n : Ex × Pk → Option (Int × Int × (List Int))
  | (.exit 0, ⟨[], [some (.var (.agg [.sl 1 (none), .v (.int .i64 x0), .v (.int .i64 x1)])), some (.row (Ty.int IntKind.u8) 5 x2)]⟩) => some ((x0, x1, x2))
  | _ => none

theorem D75_14n_ok : ∀ y r, D75_14n y = some r → ∀ z, (O75_14n r).to z → y = z := by
  intro y r h
  unfold D75_14n at h
  split at h <;> first | (cases h; intro z hz; exact Option.some.inj hz) | cases h

noncomputable def B75_14n (N : Nat) (f : (Bool × Bool × ByteArray × Nat × Nat × Int × Int × (List (Int × (Int × (Int × Unit)))) × (List Int)) → Option (Int × Int × (List Int))) : (Bool × Bool × ByteArray × Nat × Nat × Int × Int × (List (Int × (Int × (Int × Unit)))) × (List Int)) → Option (Int × Int × (List Int))
  | (x0, x1, x2, x3, x4, x5, x6, x7, x8) =>
  iteP (x0) (
    iteP (decide (((0 : Int) ≤ if (8192 : Int) < (↑x4 : Int) then (8192 : Int) else (↑x4 : Int)) ∧ (if (8192 : Int) < (↑x4 : Int) then (8192 : Int) else (↑x4 : Int)) ≤ (↑x4 : Int))) (
      Option.bind (F75_7322b N N ((0 : Int), (0 : Int), (↑(Int.toNat (if (8192 : Int) < (↑x4 : Int) then (8192 : Int) else (↑x4 : Int)) - (0 : Nat)) : Int), x1, x2, if (8192 : Int) < (↑x4 : Int) then (8192 : Int) else (↑x4 : Int), x3, x4, x3 + (0 : Nat), Int.toNat (if (8192 : Int) < (↑x4 : Int) then (8192 : Int) else (↑x4 : Int)) - (0 : Nat), x5, x6, x7, x8)) fun y0 =>
      iteP (decide ((0 : Int) ≤ Prod.fst (Prod.snd (Prod.snd y0)) ∧ Prod.fst (Prod.snd (Prod.snd y0)) ≤ (↑(Prod.fst (Prod.snd y0)) : Int))) (
        iteP (decide ((0 : Int) ≤ Prod.fst (Prod.snd (Prod.snd (Prod.snd (Prod.snd y0)))) ∧ Prod.fst (Prod.snd (Prod.snd (Prod.snd (Prod.snd y0)))) ≤ (↑(ByteArray.size (Prod.fst (Prod.snd (Prod.snd (Prod.snd y0))))) : Int))) (
          iteP (Prod.fst (Prod.snd (Prod.snd (Prod.snd (Prod.snd (Prod.snd y0)))))) (
            Option.bind (F111 N (List.take (Int.toNat (Prod.fst (Prod.snd (Prod.snd y0))) - (0 : Nat)) (List.drop (Prod.fst y0 + (0 : Nat)) (Prod.fst (Prod.snd (Prod.snd (Prod.snd (Prod.snd (Prod.snd (Prod.snd (Prod.snd (Prod.snd y0)))))))))), ByteArray.extract (Prod.fst (Prod.snd (Prod.snd (Prod.snd y0)))) (0 : Nat) (Int.toNat (Prod.fst (Prod.snd (Prod.snd (Prod.snd (Prod.snd y0)))))), Prod.fst (Prod.snd (Prod.snd y0)) == (↑(Prod.fst (Prod.snd y0)) : Int), Prod.fst (Prod.snd (Prod.snd (Prod.snd (Prod.snd (Prod.snd (Prod.snd y0)))))), Prod.fst (Prod.snd (Prod.snd (Prod.snd (Prod.snd (Prod.snd (Prod.snd (Prod.snd y0))))))), Prod.snd (Prod.snd (Prod.snd (Prod.snd (Prod.snd (Prod.snd (Prod.snd (Prod.snd (Prod.snd y0)))))))))) fun y1 =>
            iteP (decide ((0 : Int) ≤ Prod.fst (Prod.snd (Prod.snd y0)) ∧ Prod.fst (Prod.snd (Prod.snd y0)) ≤ (↑(Prod.fst (Prod.snd y0)) : Int))) (
              iteP (decide ((0 : Int) ≤ Prod.fst (Prod.snd (Prod.snd (Prod.snd (Prod.snd y0)))) ∧ Prod.fst (Prod.snd (Prod.snd (Prod.snd (Prod.snd y0)))) ≤ (↑(ByteArray.size (Prod.fst (Prod.snd (Prod.snd (Prod.snd y0))))) : Int))) (
                Option.bind (f (false, Prod.fst (Prod.snd (Prod.snd (Prod.snd (Prod.snd (Prod.snd y0))))), ByteArray.extract (Prod.fst (Prod.snd (Prod.snd (Prod.snd y0)))) (Int.toNat (Prod.fst (Prod.snd (Prod.snd (Prod.snd (Prod.snd y0)))))) (ByteArray.size (Prod.fst (Prod.snd (Prod.snd (Prod.snd y0))))), Prod.fst y0 + Int.toNat (Prod.fst (Prod.snd (Prod.snd y0))), Prod.fst (Prod.snd y0) - Int.toNat (Prod.fst (Prod.snd (Prod.snd y0))), Prod.fst y1, Prod.fst (Prod.snd y1), Prod.fst (Prod.snd (Prod.snd (Prod.snd (Prod.snd (Prod.snd (Prod.snd (Prod.snd (Prod.snd y0)))))))), Prod.snd (Prod.snd y1))) fun r => some r) (
                none)) (
              none)) (
            Option.bind (F111 N (List.take (Int.toNat (Prod.fst (Prod.snd (Prod.snd y0))) - (0 : Nat)) (List.drop (Prod.fst y0 + (0 : Nat)) (Prod.fst (Prod.snd (Prod.snd (Prod.snd (Prod.snd (Prod.snd (Prod.snd (Prod.snd (Prod.snd y0)))))))))), ByteArray.extract (Prod.fst (Prod.snd (Prod.snd (Prod.snd y0)))) (0 : Nat) (Int.toNat (Prod.fst (Prod.snd (Prod.snd (Prod.snd (Prod.snd y0)))))), false, Prod.fst (Prod.snd (Prod.snd (Prod.snd (Prod.snd (Prod.snd (Prod.snd y0)))))), Prod.fst (Prod.snd (Prod.snd (Prod.snd (Prod.snd (Prod.snd (Prod.snd (Prod.snd y0))))))), Prod.snd (Prod.snd (Prod.snd (Prod.snd (Prod.snd (Prod.snd (Prod.snd (Prod.snd (Prod.snd y0)))))))))) fun y2 =>
            iteP (decide ((0 : Int) ≤ Prod.fst (Prod.snd (Prod.snd y0)) ∧ Prod.fst (Prod.snd (Prod.snd y0)) ≤ (↑(Prod.fst (Prod.snd y0)) : Int))) (
              iteP (decide ((0 : Int) ≤ Prod.fst (Prod.snd (Prod.snd (Prod.snd (Prod.snd y0)))) ∧ Prod.fst (Prod.snd (Prod.snd (Prod.snd (Prod.snd y0)))) ≤ (↑(ByteArray.size (Prod.fst (Prod.snd (Prod.snd (Prod.snd y0))))) : Int))) (
                Option.bind (f (false, Prod.fst (Prod.snd (Prod.snd (Prod.snd (Prod.snd (Prod.snd y0))))), ByteArray.extract (Prod.fst (Prod.snd (Prod.snd (Prod.snd y0)))) (Int.toNat (Prod.fst (Prod.snd (Prod.snd (Prod.snd (Prod.snd y0)))))) (ByteArray.size (Prod.fst (Prod.snd (Prod.snd (Prod.snd y0))))), Prod.fst y0 + Int.toNat (Prod.fst (Prod.snd (Prod.snd y0))), Prod.fst (Prod.snd y0) - Int.toNat (Prod.fst (Prod.snd (Prod.snd y0))), Prod.fst y2, Prod.fst (Prod.snd y2), Prod.fst (Prod.snd (Prod.snd (Prod.snd (Prod.snd (Prod.snd (Prod.snd (Prod.snd (Prod.snd y0)))))))), Prod.snd (Prod.snd y2))) fun r => some r) (
                none)) (
              none))) (
          none)) (
        none)) (
      none)) (
    iteP (decide ((↑x4 : Int) > (0 : Int))) (
      iteP (decide (((0 : Int) ≤ if (8192 : Int) < (↑x4 : Int) then (8192 : Int) else (↑x4 : Int)) ∧ (if (8192 : Int) < (↑x4 : Int) then (8192 : Int) else (↑x4 : Int)) ≤ (↑x4 : Int))) (
        Option.bind (F75_7322b N N ((0 : Int), (0 : Int), (↑(Int.toNat (if (8192 : Int) < (↑x4 : Int) then (8192 : Int) else (↑x4 : Int)) - (0 : Nat)) : Int), x1, x2, if (8192 : Int) < (↑x4 : Int) then (8192 : Int) else (↑x4 : Int), x3, x4, x3 + (0 : Nat), Int.toNat (if (8192 : Int) < (↑x4 : Int) then (8192 : Int) else (↑x4 : Int)) - (0 : Nat), x5, x6, x7, x8)) fun y3 =>
        iteP (decide ((0 : Int) ≤ Prod.fst (Prod.snd (Prod.snd y3)) ∧ Prod.fst (Prod.snd (Prod.snd y3)) ≤ (↑(Prod.fst (Prod.snd y3)) : Int))) (
          iteP (decide ((0 : Int) ≤ Prod.fst (Prod.snd (Prod.snd (Prod.snd (Prod.snd y3)))) ∧ Prod.fst (Prod.snd (Prod.snd (Prod.snd (Prod.snd y3)))) ≤ (↑(ByteArray.size (Prod.fst (Prod.snd (Prod.snd (Prod.snd y3))))) : Int))) (
            iteP (Prod.fst (Prod.snd (Prod.snd (Prod.snd (Prod.snd (Prod.snd y3)))))) (
              Option.bind (F111 N (List.take (Int.toNat (Prod.fst (Prod.snd (Prod.snd y3))) - (0 : Nat)) (List.drop (Prod.fst y3 + (0 : Nat)) (Prod.fst (Prod.snd (Prod.snd (Prod.snd (Prod.snd (Prod.snd (Prod.snd (Prod.snd (Prod.snd y3)))))))))), ByteArray.extract (Prod.fst (Prod.snd (Prod.snd (Prod.snd y3)))) (0 : Nat) (Int.toNat (Prod.fst (Prod.snd (Prod.snd (Prod.snd (Prod.snd y3)))))), Prod.fst (Prod.snd (Prod.snd y3)) == (↑(Prod.fst (Prod.snd y3)) : Int), Prod.fst (Prod.snd (Prod.snd (Prod.snd (Prod.snd (Prod.snd (Prod.snd y3)))))), Prod.fst (Prod.snd (Prod.snd (Prod.snd (Prod.snd (Prod.snd (Prod.snd (Prod.snd y3))))))), Prod.snd (Prod.snd (Prod.snd (Prod.snd (Prod.snd (Prod.snd (Prod.snd (Prod.snd (Prod.snd y3)))))))))) fun y4 =>
              iteP (decide ((0 : Int) ≤ Prod.fst (Prod.snd (Prod.snd y3)) ∧ Prod.fst (Prod.snd (Prod.snd y3)) ≤ (↑(Prod.fst (Prod.snd y3)) : Int))) (
                iteP (decide ((0 : Int) ≤ Prod.fst (Prod.snd (Prod.snd (Prod.snd (Prod.snd y3)))) ∧ Prod.fst (Prod.snd (Prod.snd (Prod.snd (Prod.snd y3)))) ≤ (↑(ByteArray.size (Prod.fst (Prod.snd (Prod.snd (Prod.snd y3))))) : Int))) (
                  Option.bind (f (false, Prod.fst (Prod.snd (Prod.snd (Prod.snd (Prod.snd (Prod.snd y3))))), ByteArray.extract (Prod.fst (Prod.snd (Prod.snd (Prod.snd y3)))) (Int.toNat (Prod.fst (Prod.snd (Prod.snd (Prod.snd (Prod.snd y3)))))) (ByteArray.size (Prod.fst (Prod.snd (Prod.snd (Prod.snd y3))))), Prod.fst y3 + Int.toNat (Prod.fst (Prod.snd (Prod.snd y3))), Prod.fst (Prod.snd y3) - Int.toNat (Prod.fst (Prod.snd (Prod.snd y3))), Prod.fst y4, Prod.fst (Prod.snd y4), Prod.fst (Prod.snd (Prod.snd (Prod.snd (Prod.snd (Prod.snd (Prod.snd (Prod.snd (Prod.snd y3)))))))), Prod.snd (Prod.snd y4))) fun r => some r) (
                  none)) (
                none)) (
              Option.bind (F111 N (List.take (Int.toNat (Prod.fst (Prod.snd (Prod.snd y3))) - (0 : Nat)) (List.drop (Prod.fst y3 + (0 : Nat)) (Prod.fst (Prod.snd (Prod.snd (Prod.snd (Prod.snd (Prod.snd (Prod.snd (Prod.snd (Prod.snd y3)))))))))), ByteArray.extract (Prod.fst (Prod.snd (Prod.snd (Prod.snd y3)))) (0 : Nat) (Int.toNat (Prod.fst (Prod.snd (Prod.snd (Prod.snd (Prod.snd y3)))))), false, Prod.fst (Prod.snd (Prod.snd (Prod.snd (Prod.snd (Prod.snd (Prod.snd y3)))))), Prod.fst (Prod.snd (Prod.snd (Prod.snd (Prod.snd (Prod.snd (Prod.snd (Prod.snd y3))))))), Prod.snd (Prod.snd (Prod.snd (Prod.snd (Prod.snd (Prod.snd (Prod.snd (Prod.snd (Prod.snd y3)))))))))) fun y5 =>
              iteP (decide ((0 : Int) ≤ Prod.fst (Prod.snd (Prod.snd y3)) ∧ Prod.fst (Prod.snd (Prod.snd y3)) ≤ (↑(Prod.fst (Prod.snd y3)) : Int))) (
                iteP (decide ((0 : Int) ≤ Prod.fst (Prod.snd (Prod.snd (Prod.snd (Prod.snd y3)))) ∧ Prod.fst (Prod.snd (Prod.snd (Prod.snd (Prod.snd y3)))) ≤ (↑(ByteArray.size (Prod.fst (Prod.snd (Prod.snd (Prod.snd y3))))) : Int))) (
                  Option.bind (f (false, Prod.fst (Prod.snd (Prod.snd (Prod.snd (Prod.snd (Prod.snd y3))))), ByteArray.extract (Prod.fst (Prod.snd (Prod.snd (Prod.snd y3)))) (Int.toNat (Prod.fst (Prod.snd (Prod.snd (Prod.snd (Prod.snd y3)))))) (ByteArray.size (Prod.fst (Prod.snd (Prod.snd (Prod.snd y3))))), Prod.fst y3 + Int.toNat (Prod.fst (Prod.snd (Prod.snd y3))), Prod.fst (Prod.snd y3) - Int.toNat (Prod.fst (Prod.snd (Prod.snd y3))), Prod.fst y5, Prod.fst (Prod.snd y5), Prod.fst (Prod.snd (Prod.snd (Prod.snd (Prod.snd (Prod.snd (Prod.snd (Prod.snd (Prod.snd y3)))))))), Prod.snd (Prod.snd y5))) fun r => some r) (
                  none)) (
                none))) (
            none)) (
          none)) (
        none)) (
      some ((x5, x6, x8))))

noncomputable def F75_14n (N : Nat) : Nat → (Bool × Bool × ByteArray × Nat × Nat × Int × Int × (List (Int × (Int × (Int × Unit)))) × (List Int)) → Option (Int × Int × (List Int))
  | 0, _ => none
  | k + 1, x => B75_14n N (F75_14n N k) x

noncomputable def C75_14n (N : Nat) (k : Nat) : Cut := ⟨[9, 3, 0, 2, 8], X75_14, tellX I75_14n (F75_14n N k) O75_14n⟩

theorem B75_14n_eq (N : Nat) (f : (Bool × Bool × ByteArray × Nat × Nat × Int × Int × (List (Int × (Int × (Int × Unit)))) × (List Int)) → Option (Int × Int × (List Int))) (x0 : Bool) (x1 : Bool) (x2 : ByteArray) (x3 : Nat) (x4 : Nat) (x5 : Int) (x6 : Int) (x7 : (List (Int × (Int × (Int × Unit))))) (x8 : (List Int)) : (roundEv (mkE Tryz.prog ownT (tab75 N) [(7322, (orC I75_7322 (C75_7322 N N) (C75_7322b N N)))]) Tryz.f75.ntmps A75 (loopAt (bod Tryz.f75) 14) 14 ⟨[9, 3, 0, 2, 8], X75_14, tellX I75_14n f O75_14n⟩ (J75_14n (x0, x1, x2, x3, x4, x5, x6, x7, x8))).run D75_14n = B75_14n N f (x0, x1, x2, x3, x4, x5, x6, x7, x8) := by kernel_rfl

theorem C75_14n_ok (N : Nat) (k : Nat) : ∀ c', At (bod Tryz.f75) 14 c' → CutOK Tryz.prog Tryz.f75.ntmps (idsL A75) c' (C75_14n N k) :=
  loop_ok (E := (mkE Tryz.prog ownT (tab75 N) [(7322, (orC I75_7322 (C75_7322 N N) (C75_7322b N N)))])) (mkE_ok mix (tab75_ok N)) (cutsIn_ok ⟨fun c' h => (orC_ok (C75_7322_ok N N c' h) (C75_7322b_ok N N c' h) rfl rfl), trivial⟩) (fuel := 200) (by decide +kernel) (by kernel_rfl) I75_14n_ok D75_14n_ok (B75_14n N) (F75_14n N) (fun _ => rfl) (fun _ _ => rfl) (fun f x => match x with | (x0, x1, x2, x3, x4, x5, x6, x7, x8) => B75_14n_eq N f x0 x1 x2 x3 x4 x5 x6 x7 x8) k

noncomputable def O75_14 (r : Int × Int × (List Int)) : Tr (Ex × Pk) := O75_14n r

noncomputable def B75_14 (N : Nat) (f : (Bool × Bool × ByteArray × Nat × Nat × Int × Int × (List (Int × (Int × (Int × Unit)))) × (List Int)) → Option (Int × Int × (List Int))) : (Bool × Bool × ByteArray × Int × Int × (List (Int × (Int × (Int × Unit)))) × (List Int)) → Option (Int × Int × (List Int))
  | (x0, x1, x2, x3, x4, x5, x6) =>
  iteP (x0) (
    iteP (decide (((0 : Int) ≤ if (8192 : Int) < (↑(List.length x5) : Int) then (8192 : Int) else (↑(List.length x5) : Int)) ∧ (if (8192 : Int) < (↑(List.length x5) : Int) then (8192 : Int) else (↑(List.length x5) : Int)) ≤ (↑(List.length x5) : Int))) (
      Option.bind (F75_7322 N N ((0 : Int), (0 : Int), (↑(Int.toNat (if (8192 : Int) < (↑(List.length x5) : Int) then (8192 : Int) else (↑(List.length x5) : Int)) - (0 : Nat)) : Int), x1, x2, if (8192 : Int) < (↑(List.length x5) : Int) then (8192 : Int) else (↑(List.length x5) : Int), Int.toNat (if (8192 : Int) < (↑(List.length x5) : Int) then (8192 : Int) else (↑(List.length x5) : Int)) - (0 : Nat), x3, x4, x5, x6)) fun y0 =>
      iteP (decide ((0 : Int) ≤ Prod.fst y0 ∧ Prod.fst y0 ≤ (↑(List.length (Prod.fst (Prod.snd (Prod.snd (Prod.snd (Prod.snd (Prod.snd (Prod.snd y0)))))))) : Int))) (
        iteP (decide ((0 : Int) ≤ Prod.fst (Prod.snd (Prod.snd y0)) ∧ Prod.fst (Prod.snd (Prod.snd y0)) ≤ (↑(ByteArray.size (Prod.fst (Prod.snd y0))) : Int))) (
          iteP (Prod.fst (Prod.snd (Prod.snd (Prod.snd y0)))) (
            Option.bind (F111 N (List.take (Int.toNat (Prod.fst y0) - (0 : Nat)) (List.drop (0 : Nat) (Prod.fst (Prod.snd (Prod.snd (Prod.snd (Prod.snd (Prod.snd (Prod.snd y0)))))))), ByteArray.extract (Prod.fst (Prod.snd y0)) (0 : Nat) (Int.toNat (Prod.fst (Prod.snd (Prod.snd y0)))), Prod.fst y0 == (↑(List.length (Prod.fst (Prod.snd (Prod.snd (Prod.snd (Prod.snd (Prod.snd (Prod.snd y0)))))))) : Int), Prod.fst (Prod.snd (Prod.snd (Prod.snd (Prod.snd y0)))), Prod.fst (Prod.snd (Prod.snd (Prod.snd (Prod.snd (Prod.snd y0))))), Prod.snd (Prod.snd (Prod.snd (Prod.snd (Prod.snd (Prod.snd (Prod.snd y0)))))))) fun y1 =>
            iteP (decide ((0 : Int) ≤ Prod.fst y0 ∧ Prod.fst y0 ≤ (↑(List.length (Prod.fst (Prod.snd (Prod.snd (Prod.snd (Prod.snd (Prod.snd (Prod.snd y0)))))))) : Int))) (
              iteP (decide ((0 : Int) ≤ Prod.fst (Prod.snd (Prod.snd y0)) ∧ Prod.fst (Prod.snd (Prod.snd y0)) ≤ (↑(ByteArray.size (Prod.fst (Prod.snd y0))) : Int))) (
                Option.bind (f (false, Prod.fst (Prod.snd (Prod.snd (Prod.snd y0))), ByteArray.extract (Prod.fst (Prod.snd y0)) (Int.toNat (Prod.fst (Prod.snd (Prod.snd y0)))) (ByteArray.size (Prod.fst (Prod.snd y0))), Int.toNat (Prod.fst y0), List.length (Prod.fst (Prod.snd (Prod.snd (Prod.snd (Prod.snd (Prod.snd (Prod.snd y0))))))) - Int.toNat (Prod.fst y0), Prod.fst y1, Prod.fst (Prod.snd y1), Prod.fst (Prod.snd (Prod.snd (Prod.snd (Prod.snd (Prod.snd (Prod.snd y0)))))), Prod.snd (Prod.snd y1))) fun r => some r) (
                none)) (
              none)) (
            Option.bind (F111 N (List.take (Int.toNat (Prod.fst y0) - (0 : Nat)) (List.drop (0 : Nat) (Prod.fst (Prod.snd (Prod.snd (Prod.snd (Prod.snd (Prod.snd (Prod.snd y0)))))))), ByteArray.extract (Prod.fst (Prod.snd y0)) (0 : Nat) (Int.toNat (Prod.fst (Prod.snd (Prod.snd y0)))), false, Prod.fst (Prod.snd (Prod.snd (Prod.snd (Prod.snd y0)))), Prod.fst (Prod.snd (Prod.snd (Prod.snd (Prod.snd (Prod.snd y0))))), Prod.snd (Prod.snd (Prod.snd (Prod.snd (Prod.snd (Prod.snd (Prod.snd y0)))))))) fun y2 =>
            iteP (decide ((0 : Int) ≤ Prod.fst y0 ∧ Prod.fst y0 ≤ (↑(List.length (Prod.fst (Prod.snd (Prod.snd (Prod.snd (Prod.snd (Prod.snd (Prod.snd y0)))))))) : Int))) (
              iteP (decide ((0 : Int) ≤ Prod.fst (Prod.snd (Prod.snd y0)) ∧ Prod.fst (Prod.snd (Prod.snd y0)) ≤ (↑(ByteArray.size (Prod.fst (Prod.snd y0))) : Int))) (
                Option.bind (f (false, Prod.fst (Prod.snd (Prod.snd (Prod.snd y0))), ByteArray.extract (Prod.fst (Prod.snd y0)) (Int.toNat (Prod.fst (Prod.snd (Prod.snd y0)))) (ByteArray.size (Prod.fst (Prod.snd y0))), Int.toNat (Prod.fst y0), List.length (Prod.fst (Prod.snd (Prod.snd (Prod.snd (Prod.snd (Prod.snd (Prod.snd y0))))))) - Int.toNat (Prod.fst y0), Prod.fst y2, Prod.fst (Prod.snd y2), Prod.fst (Prod.snd (Prod.snd (Prod.snd (Prod.snd (Prod.snd (Prod.snd y0)))))), Prod.snd (Prod.snd y2))) fun r => some r) (
                none)) (
              none))) (
          none)) (
        none)) (
      none)) (
    iteP (decide ((↑(List.length x5) : Int) > (0 : Int))) (
      iteP (decide (((0 : Int) ≤ if (8192 : Int) < (↑(List.length x5) : Int) then (8192 : Int) else (↑(List.length x5) : Int)) ∧ (if (8192 : Int) < (↑(List.length x5) : Int) then (8192 : Int) else (↑(List.length x5) : Int)) ≤ (↑(List.length x5) : Int))) (
        Option.bind (F75_7322 N N ((0 : Int), (0 : Int), (↑(Int.toNat (if (8192 : Int) < (↑(List.length x5) : Int) then (8192 : Int) else (↑(List.length x5) : Int)) - (0 : Nat)) : Int), x1, x2, if (8192 : Int) < (↑(List.length x5) : Int) then (8192 : Int) else (↑(List.length x5) : Int), Int.toNat (if (8192 : Int) < (↑(List.length x5) : Int) then (8192 : Int) else (↑(List.length x5) : Int)) - (0 : Nat), x3, x4, x5, x6)) fun y3 =>
        iteP (decide ((0 : Int) ≤ Prod.fst y3 ∧ Prod.fst y3 ≤ (↑(List.length (Prod.fst (Prod.snd (Prod.snd (Prod.snd (Prod.snd (Prod.snd (Prod.snd y3)))))))) : Int))) (
          iteP (decide ((0 : Int) ≤ Prod.fst (Prod.snd (Prod.snd y3)) ∧ Prod.fst (Prod.snd (Prod.snd y3)) ≤ (↑(ByteArray.size (Prod.fst (Prod.snd y3))) : Int))) (
            iteP (Prod.fst (Prod.snd (Prod.snd (Prod.snd y3)))) (
              Option.bind (F111 N (List.take (Int.toNat (Prod.fst y3) - (0 : Nat)) (List.drop (0 : Nat) (Prod.fst (Prod.snd (Prod.snd (Prod.snd (Prod.snd (Prod.snd (Prod.snd y3)))))))), ByteArray.extract (Prod.fst (Prod.snd y3)) (0 : Nat) (Int.toNat (Prod.fst (Prod.snd (Prod.snd y3)))), Prod.fst y3 == (↑(List.length (Prod.fst (Prod.snd (Prod.snd (Prod.snd (Prod.snd (Prod.snd (Prod.snd y3)))))))) : Int), Prod.fst (Prod.snd (Prod.snd (Prod.snd (Prod.snd y3)))), Prod.fst (Prod.snd (Prod.snd (Prod.snd (Prod.snd (Prod.snd y3))))), Prod.snd (Prod.snd (Prod.snd (Prod.snd (Prod.snd (Prod.snd (Prod.snd y3)))))))) fun y4 =>
              iteP (decide ((0 : Int) ≤ Prod.fst y3 ∧ Prod.fst y3 ≤ (↑(List.length (Prod.fst (Prod.snd (Prod.snd (Prod.snd (Prod.snd (Prod.snd (Prod.snd y3)))))))) : Int))) (
                iteP (decide ((0 : Int) ≤ Prod.fst (Prod.snd (Prod.snd y3)) ∧ Prod.fst (Prod.snd (Prod.snd y3)) ≤ (↑(ByteArray.size (Prod.fst (Prod.snd y3))) : Int))) (
                  Option.bind (f (false, Prod.fst (Prod.snd (Prod.snd (Prod.snd y3))), ByteArray.extract (Prod.fst (Prod.snd y3)) (Int.toNat (Prod.fst (Prod.snd (Prod.snd y3)))) (ByteArray.size (Prod.fst (Prod.snd y3))), Int.toNat (Prod.fst y3), List.length (Prod.fst (Prod.snd (Prod.snd (Prod.snd (Prod.snd (Prod.snd (Prod.snd y3))))))) - Int.toNat (Prod.fst y3), Prod.fst y4, Prod.fst (Prod.snd y4), Prod.fst (Prod.snd (Prod.snd (Prod.snd (Prod.snd (Prod.snd (Prod.snd y3)))))), Prod.snd (Prod.snd y4))) fun r => some r) (
                  none)) (
                none)) (
              Option.bind (F111 N (List.take (Int.toNat (Prod.fst y3) - (0 : Nat)) (List.drop (0 : Nat) (Prod.fst (Prod.snd (Prod.snd (Prod.snd (Prod.snd (Prod.snd (Prod.snd y3)))))))), ByteArray.extract (Prod.fst (Prod.snd y3)) (0 : Nat) (Int.toNat (Prod.fst (Prod.snd (Prod.snd y3)))), false, Prod.fst (Prod.snd (Prod.snd (Prod.snd (Prod.snd y3)))), Prod.fst (Prod.snd (Prod.snd (Prod.snd (Prod.snd (Prod.snd y3))))), Prod.snd (Prod.snd (Prod.snd (Prod.snd (Prod.snd (Prod.snd (Prod.snd y3)))))))) fun y5 =>
              iteP (decide ((0 : Int) ≤ Prod.fst y3 ∧ Prod.fst y3 ≤ (↑(List.length (Prod.fst (Prod.snd (Prod.snd (Prod.snd (Prod.snd (Prod.snd (Prod.snd y3)))))))) : Int))) (
                iteP (decide ((0 : Int) ≤ Prod.fst (Prod.snd (Prod.snd y3)) ∧ Prod.fst (Prod.snd (Prod.snd y3)) ≤ (↑(ByteArray.size (Prod.fst (Prod.snd y3))) : Int))) (
                  Option.bind (f (false, Prod.fst (Prod.snd (Prod.snd (Prod.snd y3))), ByteArray.extract (Prod.fst (Prod.snd y3)) (Int.toNat (Prod.fst (Prod.snd (Prod.snd y3)))) (ByteArray.size (Prod.fst (Prod.snd y3))), Int.toNat (Prod.fst y3), List.length (Prod.fst (Prod.snd (Prod.snd (Prod.snd (Prod.snd (Prod.snd (Prod.snd y3))))))) - Int.toNat (Prod.fst y3), Prod.fst y5, Prod.fst (Prod.snd y5), Prod.fst (Prod.snd (Prod.snd (Prod.snd (Prod.snd (Prod.snd (Prod.snd y3)))))), Prod.snd (Prod.snd y5))) fun r => some r) (
                  none)) (
                none))) (
            none)) (
          none)) (
        none)) (
      some ((x3, x4, x6))))

noncomputable def F75_14 (N : Nat) (k : Nat) : (Bool × Bool × ByteArray × Int × Int × (List (Int × (Int × (Int × Unit)))) × (List Int)) → Option (Int × Int × (List Int)) := B75_14 N (F75_14n N k)

noncomputable def C75_14 (N : Nat) (k : Nat) : Cut := ⟨[9, 3, 0, 2, 8], X75_14, tellX I75_14 (F75_14 N k) O75_14⟩

theorem B75_14_eq (N : Nat) (f : (Bool × Bool × ByteArray × Nat × Nat × Int × Int × (List (Int × (Int × (Int × Unit)))) × (List Int)) → Option (Int × Int × (List Int))) (g : (Bool × Bool × ByteArray × Int × Int × (List (Int × (Int × (Int × Unit)))) × (List Int)) → Tr (Ex × Pk)) (x0 : Bool) (x1 : Bool) (x2 : ByteArray) (x3 : Int) (x4 : Int) (x5 : (List (Int × (Int × (Int × Unit))))) (x6 : (List Int)) : (roundEv (mkE Tryz.prog ownT (tab75 N) [(7322, (orC I75_7322 (C75_7322 N N) (C75_7322b N N))), (14, (C75_14n N N))]) Tryz.f75.ntmps A75 (loopAt (bod Tryz.f75) 14) 14 ⟨[9, 3, 0, 2, 8], X75_14, orc2 I75_14 g (tellX I75_14n f O75_14n)⟩ (J75_14 (x0, x1, x2, x3, x4, x5, x6))).run D75_14n = B75_14 N f (x0, x1, x2, x3, x4, x5, x6) := by kernel_rfl

theorem B75_14_eqn (N : Nat) (f : (Bool × Bool × ByteArray × Nat × Nat × Int × Int × (List (Int × (Int × (Int × Unit)))) × (List Int)) → Option (Int × Int × (List Int))) (g : (Bool × Bool × ByteArray × Int × Int × (List (Int × (Int × (Int × Unit)))) × (List Int)) → Tr (Ex × Pk)) (x0 : Bool) (x1 : Bool) (x2 : ByteArray) (x3 : Nat) (x4 : Nat) (x5 : Int) (x6 : Int) (x7 : (List (Int × (Int × (Int × Unit))))) (x8 : (List Int)) : (roundEv (mkE Tryz.prog ownT (tab75 N) [(7322, (orC I75_7322 (C75_7322 N N) (C75_7322b N N))), (14, (C75_14n N N))]) Tryz.f75.ntmps A75 (loopAt (bod Tryz.f75) 14) 14 ⟨[9, 3, 0, 2, 8], X75_14, orc2 I75_14 g (tellX I75_14n f O75_14n)⟩ (J75_14n (x0, x1, x2, x3, x4, x5, x6, x7, x8))).run D75_14n = B75_14n N f (x0, x1, x2, x3, x4, x5, x6, x7, x8) := by kernel_rfl

theorem C75_14_ok (N : Nat) (k : Nat) : ∀ c', At (bod Tryz.f75) 14 c' → CutOK Tryz.prog Tryz.f75.ntmps (idsL A75) c' (C75_14 N k) :=
  loop_ok2 (E := (mkE Tryz.prog ownT (tab75 N) [(7322, (orC I75_7322 (C75_7322 N N) (C75_7322b N N))), (14, (C75_14n N N))])) (mkE_ok mix (tab75_ok N)) (cutsIn_ok ⟨fun c' h => (orC_ok (C75_7322_ok N N c' h) (C75_7322b_ok N N c' h) rfl rfl), ⟨fun c' h => (C75_14n_ok N N c' h), trivial⟩⟩) (fuel := 200) (by decide +kernel) (by kernel_rfl) I75_14_ok I75_14n_ok D75_14n_ok (B75_14 N) (B75_14n N) (F75_14n N) (fun _ => rfl) (fun _ _ => rfl) (fun f g x => match x with | (x0, x1, x2, x3, x4, x5, x6) => B75_14_eq N f g x0 x1 x2 x3 x4 x5 x6) (fun f g x => match x with | (x0, x1, x2, x3, x4, x5, x6, x7, x8) => B75_14_eqn N f g x0 x1 x2 x3 x4 x5 x6 x7 x8) k

noncomputable def O75 (r : Int × Int × (List Int)) : Tr (Pk) := .ret ⟨[.tup []], [some (.var (.agg [.sl 1 (none), .v (.int .i64 (r.1)), .v (.int .i64 (r.2.1))])), some (.row (Ty.int IntKind.u8) 5 (r.2.2))]⟩

noncomputable def D75 : Pk → Option (Int × Int × (List Int))
  | ⟨[.tup []], [some (.var (.agg [.sl 1 (none), .v (.int .i64 x0), .v (.int .i64 x1)])), some (.row (Ty.int IntKind.u8) 5 x2)]⟩ => some ((x0, x1, x2))
  | _ => none

theorem D75_ok : ∀ y r, D75 y = some r → ∀ z, (O75 r).to z → y = z := by
  intro y r h
  unfold D75 at h
  split at h <;> first | (cases h; intro z hz; exact Option.some.inj hz) | cases h

noncomputable def F75 (N : Nat) : (ByteArray × ByteArray × Bool × Int × Int × (List Int)) → Option (Int × Int × (List Int))
  | (x0, x1, x2, x3, x4, x5) =>
  Option.bind (F110 N (x0, x1)) fun y0 =>
  Option.bind (F75_14 N N (true, x2, x1, x3, x4, y0, x5)) fun y1 =>
  some ((Prod.fst y1, Prod.fst (Prod.snd y1), Prod.snd (Prod.snd y1)))

theorem F75_eq (N : Nat) (x0 : ByteArray) (x1 : ByteArray) (x2 : Bool) (x3 : Int) (x4 : Int) (x5 : (List Int)) : (fnEv (mkE Tryz.prog ownT (tab75 N) [(7322, (orC I75_7322 (C75_7322 N N) (C75_7322b N N))), (14, (orC I75_14n (C75_14n N N) (C75_14 N N)))]) Tryz.f75 (J75 (x0, x1, x2, x3, x4, x5))).run D75 = F75 N (x0, x1, x2, x3, x4, x5) := by kernel_rfl

noncomputable def T75 (N : Nat) : Pk → Tr Pk := tell I75 (F75 N) O75

theorem T75_ok (N : Nat) : FOK Tryz.prog 75 (T75 N) :=
  (tell_ok (E := (mkE Tryz.prog ownT (tab75 N) [(7322, (orC I75_7322 (C75_7322 N N) (C75_7322b N N))), (14, (orC I75_14n (C75_14n N N) (C75_14 N N)))])) (mkE_ok mix (tab75_ok N)) Tryz.func75 (show Tryz.f75.body = some (bod Tryz.f75) by kernel_rfl) (by decide +kernel) (F := F75 N) I75_ok D75_ok (args := A75) (fun _ => by kernel_rfl) (fun _ => by show 4 ≤ Tryz.f75.ntmps; exact of_decide_eq_true (by kernel_rfl)) (cutsIn_ok ⟨fun c' h => (orC_ok (C75_7322_ok N N c' h) (C75_7322b_ok N N c' h) rfl rfl), ⟨fun c' h => (orC_ok (C75_14n_ok N N c' h) (C75_14_ok N N c' h) rfl rfl), trivial⟩⟩) (fun x => match x with | (x0, x1, x2, x3, x4, x5) => F75_eq N x0 x1 x2 x3 x4 x5))


end Go.Proofs.YteddgkplkjldcaaGreat.Am

set_option linter.unusedVariables false
set_option maxRecDepth 100000
namespace Go.Proofs.YteddgkplkjldcaaGreat.Am
open Go.Am

/-! ## f19: (*mirador/bitio.Writer).String -/

noncomputable def I19 : Pk → Option (((List Int) × (Int × (Int × Unit))))
  | ⟨[.radr (.cons (.sl (.int .u8)) (.cons (.int .i64) (.cons (.int .i64) .unit))) [x0] [.i 0 3]], []⟩ => some x0
  | _ => none

noncomputable def J19 (x : ((List Int) × (Int × (Int × Unit)))) : Pk := ⟨[.radr (.cons (.sl (.int .u8)) (.cons (.int .i64) (.cons (.int .i64) .unit))) [(x)] [.i 0 3]], []⟩

theorem I19_ok : ∀ pk x, I19 pk = some x → pk = J19 x := by
  intro pk x h
  unfold I19 at h
  split at h <;> first | (cases h; rfl) | cases h

noncomputable def A19 : List TV := []

noncomputable def tab19 (N : Nat) : List (Nat × (Pk → Tr Pk)) := []

theorem tab19_ok (N : Nat) : TabOK Tryz.prog (tab19 N) := trivial

noncomputable def O19 (r : ByteArray) : Tr (Pk) := .ret ⟨[.v (.string (r))], []⟩

noncomputable def D19 : Pk → Option (ByteArray)
  | ⟨[.v (.string x0)], []⟩ => some (x0)
  | _ => none

theorem D19_ok : ∀ y r, D19 y = some r → ∀ z, (O19 r).to z → y = z := by
  intro y r h
  unfold D19 at h
  split at h <;> first | (cases h; intro z hz; exact Option.some.inj hz) | cases h

noncomputable def F19 (N : Nat) : (((List Int) × (Int × (Int × Unit)))) → Option (ByteArray)
  | x0 =>
  iteP (decide (Prod.fst (Prod.snd (Prod.snd x0)) > (0 : Int))) (
    iteP (decide ((↑(ByteArray.size (stringOf (Prod.fst x0)) + ByteArray.size (stringOf [IntKind.wrap IntKind.u8 (Prod.fst (Prod.snd x0))])) : Int) > (9223372036854775807 : Int))) (
      none) (
      some (stringOf (Prod.fst x0) ++ stringOf [IntKind.wrap IntKind.u8 (Prod.fst (Prod.snd x0))]))) (
    some (stringOf (Prod.fst x0)))

theorem F19_eq (N : Nat) (x0 : ((List Int) × (Int × (Int × Unit)))) : (fnEv (mkE Tryz.prog ownT (tab19 N) []) Tryz.f19 (J19 x0)).run D19 = F19 N x0 := by kernel_rfl

noncomputable def T19 (N : Nat) : Pk → Tr Pk := tell I19 (F19 N) O19

theorem T19_ok (N : Nat) : FOK Tryz.prog 19 (T19 N) :=
  (tell_ok (E := (mkE Tryz.prog ownT (tab19 N) [])) (mkE_ok mix (tab19_ok N)) Tryz.func19 (show Tryz.f19.body = some (bod Tryz.f19) by kernel_rfl) (by decide +kernel) (F := F19 N) I19_ok D19_ok (args := A19) (fun _ => by kernel_rfl) (fun _ => by show 1 ≤ Tryz.f19.ntmps; exact of_decide_eq_true (by kernel_rfl)) (cutsIn_ok trivial) (fun x => match x with | x0 => F19_eq N x0))

/-! ## f30: mirador/deflate.Whole -/

noncomputable def I30 : Pk → Option (ByteArray × ByteArray)
  | ⟨[.v (.string x0), .v (.string x1)], []⟩ => some (x0, x1)
  | _ => none

noncomputable def J30 (x : ByteArray × ByteArray) : Pk := ⟨[.v (.string (x.1)), .v (.string (x.2))], []⟩

theorem I30_ok : ∀ pk x, I30 pk = some x → pk = J30 x := by
  intro pk x h
  unfold I30 at h
  split at h <;> first | (cases h; rfl) | cases h

noncomputable def A30 : List TV := []

noncomputable def tab30 (N : Nat) : List (Nat × (Pk → Tr Pk)) := [(75, T75 N), (19, T19 N)]

theorem tab30_ok (N : Nat) : TabOK Tryz.prog (tab30 N) := ⟨T75_ok N, ⟨T19_ok N, trivial⟩⟩

noncomputable def O30 (r : ByteArray) : Tr (Pk) := .ret ⟨[.v (.string (r))], []⟩

noncomputable def D30 : Pk → Option (ByteArray)
  | ⟨[.v (.string x0)], []⟩ => some (x0)
  | _ => none

theorem D30_ok : ∀ y r, D30 y = some r → ∀ z, (O30 r).to z → y = z := by
  intro y r h
  unfold D30 at h
  split at h <;> first | (cases h; intro z hz; exact Option.some.inj hz) | cases h

noncomputable def F30 (N : Nat) : (ByteArray × ByteArray) → Option (ByteArray)
  | (x0, x1) =>
  Option.bind (F75 N (x0, x1, true, (0 : Int), (0 : Int), [])) fun y0 =>
  Option.bind (F19 N (Prod.snd (Prod.snd y0), Prod.fst y0, Prod.fst (Prod.snd y0), ())) fun y1 =>
  some (y1)

theorem F30_eq (N : Nat) (x0 : ByteArray) (x1 : ByteArray) : (fnEv (mkE Tryz.prog ownT (tab30 N) []) Tryz.f30 (J30 (x0, x1))).run D30 = F30 N (x0, x1) := by kernel_rfl

noncomputable def T30 (N : Nat) : Pk → Tr Pk := tell I30 (F30 N) O30

theorem T30_ok (N : Nat) : FOK Tryz.prog 30 (T30 N) :=
  (tell_ok (E := (mkE Tryz.prog ownT (tab30 N) [])) (mkE_ok mix (tab30_ok N)) Tryz.func30 (show Tryz.f30.body = some (bod Tryz.f30) by kernel_rfl) (by decide +kernel) (F := F30 N) I30_ok D30_ok (args := A30) (fun _ => by kernel_rfl) (fun _ => by show 2 ≤ Tryz.f30.ntmps; exact of_decide_eq_true (by kernel_rfl)) (cutsIn_ok trivial) (fun x => match x with | (x0, x1) => F30_eq N x0 x1))

/-! ## f50: mirador/miradorref02.Count -/

noncomputable def I50 : Pk → Option (Int)
  | ⟨[.v (.int .i64 x0)], []⟩ => some x0
  | _ => none

noncomputable def J50 (x : Int) : Pk := ⟨[.v (.int .i64 (x))], []⟩

theorem I50_ok : ∀ pk x, I50 pk = some x → pk = J50 x := by
  intro pk x h
  unfold I50 at h
  split at h <;> first | (cases h; rfl) | cases h

noncomputable def A50 : List TV := []

noncomputable def tab50 (N : Nat) : List (Nat × (Pk → Tr Pk)) := []

theorem tab50_ok (N : Nat) : TabOK Tryz.prog (tab50 N) := trivial

noncomputable def O50 (r : Int) : Tr (Pk) := .ret ⟨[.v (.int .i64 (r))], []⟩

noncomputable def D50 : Pk → Option (Int)
  | ⟨[.v (.int .i64 x0)], []⟩ => some (x0)
  | _ => none

theorem D50_ok : ∀ y r, D50 y = some r → ∀ z, (O50 r).to z → y = z := by
  intro y r h
  unfold D50 at h
  split at h <;> first | (cases h; intro z hz; exact Option.some.inj hz) | cases h

noncomputable def F50 (N : Nat) : (Int) → Option (Int)
  | x0 =>
  some (if (32 : Int) < if (0 : Int) > x0 then (0 : Int) else x0 then (32 : Int) else if (0 : Int) > x0 then (0 : Int) else x0)

theorem F50_eq (N : Nat) (x0 : Int) : (fnEv (mkE Tryz.prog ownT (tab50 N) []) Tryz.f50 (J50 x0)).run D50 = F50 N x0 := by kernel_rfl

noncomputable def T50 (N : Nat) : Pk → Tr Pk := tell I50 (F50 N) O50

theorem T50_ok (N : Nat) : FOK Tryz.prog 50 (T50 N) :=
  (tell_ok (E := (mkE Tryz.prog ownT (tab50 N) [])) (mkE_ok mix (tab50_ok N)) Tryz.func50 (show Tryz.f50.body = some (bod Tryz.f50) by kernel_rfl) (by decide +kernel) (F := F50 N) I50_ok D50_ok (args := A50) (fun _ => by kernel_rfl) (fun _ => by show 1 ≤ Tryz.f50.ntmps; exact of_decide_eq_true (by kernel_rfl)) (cutsIn_ok trivial) (fun x => match x with | x0 => F50_eq N x0))

/-! ## f17: mirador/miradorref02.Of -/

noncomputable def I17 : Pk → Option (Int × Int)
  | ⟨[.v (.int .i64 x0), .v (.int .i64 x1)], []⟩ => some (x0, x1)
  | _ => none

noncomputable def J17 (x : Int × Int) : Pk := ⟨[.v (.int .i64 (x.1)), .v (.int .i64 (x.2))], []⟩

theorem I17_ok : ∀ pk x, I17 pk = some x → pk = J17 x := by
  intro pk x h
  unfold I17 at h
  split at h <;> first | (cases h; rfl) | cases h

noncomputable def A17 : List TV := []

noncomputable def tab17 (N : Nat) : List (Nat × (Pk → Tr Pk)) := [(50, T50 N)]

theorem tab17_ok (N : Nat) : TabOK Tryz.prog (tab17 N) := ⟨T50_ok N, trivial⟩

def X17_58 : Ex → List Nat
  | .ret => [4]
  | .exit 0 => [5]
  | _ => []

noncomputable def I17_58 : Pk → Option (Int × Int × Int × (List Bool))
  | ⟨[.sl 0 (none), .v (.int .i64 x0), .v (.int .i64 x1), .v (.int .i64 x2)], [some (.row (Ty.bool) 4 x3)]⟩ => some (x0, x1, x2, x3)
  | _ => none

noncomputable def J17_58 (x : Int × Int × Int × (List Bool)) : Pk := ⟨[.sl 0 (none), .v (.int .i64 (x.1)), .v (.int .i64 (x.2.1)), .v (.int .i64 (x.2.2.1))], [some (.row (Ty.bool) 4 (x.2.2.2))]⟩

theorem I17_58_ok : ∀ pk x, I17_58 pk = some x → pk = J17_58 x := by
  intro pk x h
  unfold I17_58 at h
  split at h <;> first | (cases h; rfl) | cases h

noncomputable def O17_58 (r : (List Bool)) : Tr (Ex × Pk) := .ret (.exit 0, ⟨[.sl 0 (none)], [some (.row (Ty.bool) 4 (r))]⟩)

noncomputable def D17_58 : Ex × Pk → Option ((List Bool))
  | (.exit 0, ⟨[.sl 0 (none)], [some (.row (Ty.bool) 4 x0)]⟩) => some (x0)
  | _ => none

theorem D17_58_ok : ∀ y r, D17_58 y = some r → ∀ z, (O17_58 r).to z → y = z := by
  intro y r h
  unfold D17_58 at h
  split at h <;> first | (cases h; intro z hz; exact Option.some.inj hz) | cases h

noncomputable def B17_58 (N : Nat) (f : (Int × Int × Int × (List Bool)) → Option ((List Bool))) : (Int × Int × Int × (List Bool)) → Option ((List Bool))
  | (x0, x1, x2, x3) =>
  Option.bind (F50 N x2) fun y0 =>
  iteP (decide (x1 < y0)) (
    iteP (decide ((List.length x3 + List.length [IntKind.wrap IntKind.i64 (↑(BitVec.toNat (BitVec.ofInt (64 : Nat) x0 &&& BitVec.ofInt (64 : Nat) (1 : Int))) : Int) == (1 : Int)]) * (1 : Nat) ≤ (140737488355328 : Nat) ∧ List.length x3 + List.length [IntKind.wrap IntKind.i64 (↑(BitVec.toNat (BitVec.ofInt (64 : Nat) x0 &&& BitVec.ofInt (64 : Nat) (1 : Int))) : Int) == (1 : Int)] ≤ (140737488355328 : Nat))) (
      Option.bind (f (Int.fdiv x0 (2 : Int), IntKind.wrap IntKind.i64 (x1 + (1 : Int)), x2, x3 ++ [IntKind.wrap IntKind.i64 (↑(BitVec.toNat (BitVec.ofInt (64 : Nat) x0 &&& BitVec.ofInt (64 : Nat) (1 : Int))) : Int) == (1 : Int)])) fun r => some r) (
      none)) (
    some (x3))

noncomputable def F17_58 (N : Nat) : Nat → (Int × Int × Int × (List Bool)) → Option ((List Bool))
  | 0, _ => none
  | k + 1, x => B17_58 N (F17_58 N k) x

noncomputable def C17_58 (N : Nat) (k : Nat) : Cut := ⟨[5, 1, 6, 0], X17_58, tellX I17_58 (F17_58 N k) O17_58⟩

theorem B17_58_eq (N : Nat) (f : (Int × Int × Int × (List Bool)) → Option ((List Bool))) (x0 : Int) (x1 : Int) (x2 : Int) (x3 : (List Bool)) : (roundEv (mkE Tryz.prog ownT (tab17 N) []) Tryz.f17.ntmps A17 (loopAt (bod Tryz.f17) 58) 58 ⟨[5, 1, 6, 0], X17_58, tellX I17_58 f O17_58⟩ (J17_58 (x0, x1, x2, x3))).run D17_58 = B17_58 N f (x0, x1, x2, x3) := by kernel_rfl

theorem C17_58_ok (N : Nat) (k : Nat) : ∀ c', At (bod Tryz.f17) 58 c' → CutOK Tryz.prog Tryz.f17.ntmps (idsL A17) c' (C17_58 N k) :=
  loop_ok (E := (mkE Tryz.prog ownT (tab17 N) [])) (mkE_ok mix (tab17_ok N)) (cutsIn_ok trivial) (fuel := 200) (by decide +kernel) (by kernel_rfl) I17_58_ok D17_58_ok (B17_58 N) (F17_58 N) (fun _ => rfl) (fun _ _ => rfl) (fun f x => match x with | (x0, x1, x2, x3) => B17_58_eq N f x0 x1 x2 x3) k

noncomputable def O17 (r : (List Bool)) : Tr (Pk) := .ret ⟨[.sl 0 (none)], [some (.row (Ty.bool) 4 (r))]⟩

noncomputable def D17 : Pk → Option ((List Bool))
  | ⟨[.sl 0 (none)], [some (.row (Ty.bool) 4 x0)]⟩ => some (x0)
  | _ => none

theorem D17_ok : ∀ y r, D17 y = some r → ∀ z, (O17 r).to z → y = z := by
  intro y r h
  unfold D17 at h
  split at h <;> first | (cases h; intro z hz; exact Option.some.inj hz) | cases h

noncomputable def F17 (N : Nat) : (Int × Int) → Option ((List Bool))
  | (x0, x1) =>
  Option.bind (F17_58 N N (x1, (0 : Int), x0, [])) fun y0 =>
  some (y0)

theorem F17_eq (N : Nat) (x0 : Int) (x1 : Int) : (fnEv (mkE Tryz.prog ownT (tab17 N) [(58, (C17_58 N N))]) Tryz.f17 (J17 (x0, x1))).run D17 = F17 N (x0, x1) := by kernel_rfl

noncomputable def T17 (N : Nat) : Pk → Tr Pk := tell I17 (F17 N) O17

theorem T17_ok (N : Nat) : FOK Tryz.prog 17 (T17 N) :=
  (tell_ok (E := (mkE Tryz.prog ownT (tab17 N) [(58, (C17_58 N N))])) (mkE_ok mix (tab17_ok N)) Tryz.func17 (show Tryz.f17.body = some (bod Tryz.f17) by kernel_rfl) (by decide +kernel) (F := F17 N) I17_ok D17_ok (args := A17) (fun _ => by kernel_rfl) (fun _ => by show 2 ≤ Tryz.f17.ntmps; exact of_decide_eq_true (by kernel_rfl)) (cutsIn_ok ⟨fun c' h => (C17_58_ok N N c' h), trivial⟩) (fun x => match x with | (x0, x1) => F17_eq N x0 x1))

/-! ## f22: mirador/miradorref02.All -/

noncomputable def I22 : Pk → Option (ByteArray)
  | ⟨[.v (.string x0)], []⟩ => some x0
  | _ => none

noncomputable def J22 (x : ByteArray) : Pk := ⟨[.v (.string (x))], []⟩

theorem I22_ok : ∀ pk x, I22 pk = some x → pk = J22 x := by
  intro pk x h
  unfold I22 at h
  split at h <;> first | (cases h; rfl) | cases h

noncomputable def A22 : List TV := []

noncomputable def tab22 (N : Nat) : List (Nat × (Pk → Tr Pk)) := [(17, T17 N)]

theorem tab22_ok (N : Nat) : TabOK Tryz.prog (tab22 N) := ⟨T17_ok N, trivial⟩

def X22_58 : Ex → List Nat
  | .ret => [2]
  | .exit 0 => [3]
  | _ => []

noncomputable def I22_58 : Pk → Option (Int × ByteArray × (List Bool))
  | ⟨[.sl 0 (none), .v (.int .i64 x0), .v (.string x1)], [some (.row (Ty.bool) 4 x2)]⟩ => some (x0, x1, x2)
  | _ => none

noncomputable def J22_58 (x : Int × ByteArray × (List Bool)) : Pk := ⟨[.sl 0 (none), .v (.int .i64 (x.1)), .v (.string (x.2.1))], [some (.row (Ty.bool) 4 (x.2.2))]⟩

theorem I22_58_ok : ∀ pk x, I22_58 pk = some x → pk = J22_58 x := by
  intro pk x h
  unfold I22_58 at h
  split at h <;> first | (cases h; rfl) | cases h

noncomputable def O22_58 (r : (List Bool)) : Tr (Ex × Pk) := .ret (.exit 0, ⟨[.sl 0 (none)], [some (.row (Ty.bool) 4 (r))]⟩)

noncomputable def D22_58 : Ex × Pk → Option ((List Bool))
  | (.exit 0, ⟨[.sl 0 (none)], [some (.row (Ty.bool) 4 x0)]⟩) => some (x0)
  | _ => none

theorem D22_58_ok : ∀ y r, D22_58 y = some r → ∀ z, (O22_58 r).to z → y = z := by
  intro y r h
  unfold D22_58 at h
  split at h <;> first | (cases h; intro z hz; exact Option.some.inj hz) | cases h

noncomputable def B22_58 (N : Nat) (f : (Int × ByteArray × (List Bool)) → Option ((List Bool))) : (Int × ByteArray × (List Bool)) → Option ((List Bool))
  | (x0, x1, x2) =>
  iteP (decide (x0 < (↑(ByteArray.size x1) : Int))) (
    iteP (decide ((0 : Int) ≤ x0)) (
      Option.bind (x1[Int.toNat x0]?) fun y0 =>
      Option.bind (F17 N ((8 : Int), IntKind.wrap IntKind.i64 (↑(UInt8.toNat y0) : Int))) fun y1 =>
      iteP (decide ((List.length x2 + List.length y1) * (1 : Nat) ≤ (140737488355328 : Nat) ∧ List.length x2 + List.length y1 ≤ (140737488355328 : Nat))) (
        Option.bind (f (IntKind.wrap IntKind.i64 (x0 + (1 : Int)), x1, x2 ++ y1)) fun r => some r) (
        none)) (
      none)) (
    some (x2))

noncomputable def F22_58 (N : Nat) : Nat → (Int × ByteArray × (List Bool)) → Option ((List Bool))
  | 0, _ => none
  | k + 1, x => B22_58 N (F22_58 N k) x

noncomputable def C22_58 (N : Nat) (k : Nat) : Cut := ⟨[3, 4, 0], X22_58, tellX I22_58 (F22_58 N k) O22_58⟩

theorem B22_58_eq (N : Nat) (f : (Int × ByteArray × (List Bool)) → Option ((List Bool))) (x0 : Int) (x1 : ByteArray) (x2 : (List Bool)) : (roundEv (mkE Tryz.prog ownT (tab22 N) []) Tryz.f22.ntmps A22 (loopAt (bod Tryz.f22) 58) 58 ⟨[3, 4, 0], X22_58, tellX I22_58 f O22_58⟩ (J22_58 (x0, x1, x2))).run D22_58 = B22_58 N f (x0, x1, x2) := by kernel_rfl

theorem C22_58_ok (N : Nat) (k : Nat) : ∀ c', At (bod Tryz.f22) 58 c' → CutOK Tryz.prog Tryz.f22.ntmps (idsL A22) c' (C22_58 N k) :=
  loop_ok (E := (mkE Tryz.prog ownT (tab22 N) [])) (mkE_ok mix (tab22_ok N)) (cutsIn_ok trivial) (fuel := 200) (by decide +kernel) (by kernel_rfl) I22_58_ok D22_58_ok (B22_58 N) (F22_58 N) (fun _ => rfl) (fun _ _ => rfl) (fun f x => match x with | (x0, x1, x2) => B22_58_eq N f x0 x1 x2) k

noncomputable def O22 (r : (List Bool)) : Tr (Pk) := .ret ⟨[.sl 0 (none)], [some (.row (Ty.bool) 4 (r))]⟩

noncomputable def D22 : Pk → Option ((List Bool))
  | ⟨[.sl 0 (none)], [some (.row (Ty.bool) 4 x0)]⟩ => some (x0)
  | _ => none

theorem D22_ok : ∀ y r, D22 y = some r → ∀ z, (O22 r).to z → y = z := by
  intro y r h
  unfold D22 at h
  split at h <;> first | (cases h; intro z hz; exact Option.some.inj hz) | cases h

noncomputable def F22 (N : Nat) : (ByteArray) → Option ((List Bool))
  | x0 =>
  Option.bind (F22_58 N N ((0 : Int), x0, [])) fun y0 =>
  some (y0)

theorem F22_eq (N : Nat) (x0 : ByteArray) : (fnEv (mkE Tryz.prog ownT (tab22 N) [(58, (C22_58 N N))]) Tryz.f22 (J22 x0)).run D22 = F22 N x0 := by kernel_rfl

noncomputable def T22 (N : Nat) : Pk → Tr Pk := tell I22 (F22 N) O22

theorem T22_ok (N : Nat) : FOK Tryz.prog 22 (T22 N) :=
  (tell_ok (E := (mkE Tryz.prog ownT (tab22 N) [(58, (C22_58 N N))])) (mkE_ok mix (tab22_ok N)) Tryz.func22 (show Tryz.f22.body = some (bod Tryz.f22) by kernel_rfl) (by decide +kernel) (F := F22 N) I22_ok D22_ok (args := A22) (fun _ => by kernel_rfl) (fun _ => by show 1 ≤ Tryz.f22.ntmps; exact of_decide_eq_true (by kernel_rfl)) (cutsIn_ok ⟨fun c' h => (C22_58_ok N N c' h), trivial⟩) (fun x => match x with | x0 => F22_eq N x0))

/-! ## f51: mirador/miradorref02.Number -/

noncomputable def I51 : Pk → Option ((List Bool))
  | ⟨[.ro .bool x0], []⟩ => some x0
  | _ => none

noncomputable def J51 (x : (List Bool)) : Pk := ⟨[.ro .bool (x)], []⟩

theorem I51_ok : ∀ pk x, I51 pk = some x → pk = J51 x := by
  intro pk x h
  unfold I51 at h
  split at h <;> first | (cases h; rfl) | cases h

noncomputable def A51 : List TV := []

noncomputable def tab51 (N : Nat) : List (Nat × (Pk → Tr Pk)) := []

theorem tab51_ok (N : Nat) : TabOK Tryz.prog (tab51 N) := trivial

def X51_58 : Ex → List Nat
  | .ret => [2]
  | .exit 0 => [3]
  | _ => []

noncomputable def I51_58 : Pk → Option (Int × Int × (List Bool))
  | ⟨[.v (.int .i64 x0), .v (.int .i64 x1), .ro (Ty.bool) x2], []⟩ => some (x0, x1, x2)
  | _ => none

noncomputable def J51_58 (x : Int × Int × (List Bool)) : Pk := ⟨[.v (.int .i64 (x.1)), .v (.int .i64 (x.2.1)), .ro (Ty.bool) (x.2.2)], []⟩

theorem I51_58_ok : ∀ pk x, I51_58 pk = some x → pk = J51_58 x := by
  intro pk x h
  unfold I51_58 at h
  split at h <;> first | (cases h; rfl) | cases h

noncomputable def O51_58 (r : Int) : Tr (Ex × Pk) := .ret (.exit 0, ⟨[.v (.int .i64 (r))], []⟩)

noncomputable def D51_58 : Ex × Pk → Option (Int)
  | (.exit 0, ⟨[.v (.int .i64 x0)], []⟩) => some (x0)
  | _ => none

theorem D51_58_ok : ∀ y r, D51_58 y = some r → ∀ z, (O51_58 r).to z → y = z := by
  intro y r h
  unfold D51_58 at h
  split at h <;> first | (cases h; intro z hz; exact Option.some.inj hz) | cases h

noncomputable def B51_58 (N : Nat) (f : (Int × Int × (List Bool)) → Option (Int)) : (Int × Int × (List Bool)) → Option (Int)
  | (x0, x1, x2) =>
  iteP (decide (x1 ≥ (0 : Int))) (
    iteP (within x1 (List.length x2)) (
      Option.bind (x2[Int.toNat x1]?) fun y0 =>
      iteP (y0) (
        Option.bind (f (IntKind.wrap IntKind.i64 (IntKind.wrap IntKind.i64 (x0 * (2 : Int)) + (1 : Int)), IntKind.wrap IntKind.i64 (x1 - (1 : Int)), x2)) fun r => some r) (
        Option.bind (f (IntKind.wrap IntKind.i64 (x0 * (2 : Int)), IntKind.wrap IntKind.i64 (x1 - (1 : Int)), x2)) fun r => some r)) (
      none)) (
    some (x0))

noncomputable def F51_58 (N : Nat) : Nat → (Int × Int × (List Bool)) → Option (Int)
  | 0, _ => none
  | k + 1, x => B51_58 N (F51_58 N k) x

noncomputable def C51_58 (N : Nat) (k : Nat) : Cut := ⟨[3, 4, 0], X51_58, tellX I51_58 (F51_58 N k) O51_58⟩

theorem B51_58_eq (N : Nat) (f : (Int × Int × (List Bool)) → Option (Int)) (x0 : Int) (x1 : Int) (x2 : (List Bool)) : (roundEv (mkE Tryz.prog ownT (tab51 N) []) Tryz.f51.ntmps A51 (loopAt (bod Tryz.f51) 58) 58 ⟨[3, 4, 0], X51_58, tellX I51_58 f O51_58⟩ (J51_58 (x0, x1, x2))).run D51_58 = B51_58 N f (x0, x1, x2) := by kernel_rfl

theorem C51_58_ok (N : Nat) (k : Nat) : ∀ c', At (bod Tryz.f51) 58 c' → CutOK Tryz.prog Tryz.f51.ntmps (idsL A51) c' (C51_58 N k) :=
  loop_ok (E := (mkE Tryz.prog ownT (tab51 N) [])) (mkE_ok mix (tab51_ok N)) (cutsIn_ok trivial) (fuel := 200) (by decide +kernel) (by kernel_rfl) I51_58_ok D51_58_ok (B51_58 N) (F51_58 N) (fun _ => rfl) (fun _ _ => rfl) (fun f x => match x with | (x0, x1, x2) => B51_58_eq N f x0 x1 x2) k

noncomputable def O51 (r : Int) : Tr (Pk) := .ret ⟨[.v (.int .i64 (r))], []⟩

noncomputable def D51 : Pk → Option (Int)
  | ⟨[.v (.int .i64 x0)], []⟩ => some (x0)
  | _ => none

theorem D51_ok : ∀ y r, D51 y = some r → ∀ z, (O51 r).to z → y = z := by
  intro y r h
  unfold D51 at h
  split at h <;> first | (cases h; intro z hz; exact Option.some.inj hz) | cases h

noncomputable def F51 (N : Nat) : ((List Bool)) → Option (Int)
  | x0 =>
  Option.bind (F51_58 N N ((0 : Int), IntKind.wrap IntKind.i64 ((↑(List.length x0) : Int) - (1 : Int)), x0)) fun y0 =>
  some (y0)

theorem F51_eq (N : Nat) (x0 : (List Bool)) : (fnEv (mkE Tryz.prog ownT (tab51 N) [(58, (C51_58 N N))]) Tryz.f51 (J51 x0)).run D51 = F51 N x0 := by kernel_rfl

noncomputable def T51 (N : Nat) : Pk → Tr Pk := tell I51 (F51 N) O51

theorem T51_ok (N : Nat) : FOK Tryz.prog 51 (T51 N) :=
  (tell_ok (E := (mkE Tryz.prog ownT (tab51 N) [(58, (C51_58 N N))])) (mkE_ok mix (tab51_ok N)) Tryz.func51 (show Tryz.f51.body = some (bod Tryz.f51) by kernel_rfl) (by decide +kernel) (F := F51 N) I51_ok D51_ok (args := A51) (fun _ => by kernel_rfl) (fun _ => by show 1 ≤ Tryz.f51.ntmps; exact of_decide_eq_true (by kernel_rfl)) (cutsIn_ok ⟨fun c' h => (C51_58_ok N N c' h), trivial⟩) (fun x => match x with | x0 => F51_eq N x0))

/-! ## f23: (*mirador/miradorref02.Reader).Bits -/

noncomputable def I23 : Pk → Option (Int × Int × Int × (List Bool))
  | ⟨[.adr 0 [], .v (.int .i64 x0)], [some (.var (.agg [.sl 1 none, .v (.int .i64 x1), .v (.int .i64 x2)])), some (.row .bool 4 x3)]⟩ => some (x0, x1, x2, x3)
  | _ => none

noncomputable def J23 (x : Int × Int × Int × (List Bool)) : Pk := ⟨[.adr 0 [], .v (.int .i64 (x.1))], [some (.var (.agg [.sl 1 none, .v (.int .i64 (x.2.1)), .v (.int .i64 (x.2.2.1))])), some (.row .bool 4 (x.2.2.2))]⟩

theorem I23_ok : ∀ pk x, I23 pk = some x → pk = J23 x := by
  intro pk x h
  unfold I23 at h
  split at h <;> first | (cases h; rfl) | cases h

noncomputable def A23 : List TV := [.adr 0 []]

noncomputable def tab23 (N : Nat) : List (Nat × (Pk → Tr Pk)) := [(50, T50 N), (51, T51 N)]

theorem tab23_ok (N : Nat) : TabOK Tryz.prog (tab23 N) := ⟨T50_ok N, ⟨T51_ok N, trivial⟩⟩

noncomputable def O23 (r : Int × Int × Int × (List Bool)) : Tr (Pk) := .ret ⟨[.v (.int .i64 (r.1))], [some (.var (.agg [.sl 1 (none), .v (.int .i64 (r.2.1)), .v (.int .i64 (r.2.2.1))])), some (.row (Ty.bool) 4 (r.2.2.2))]⟩

noncomputable def D23 : Pk → Option (Int × Int × Int × (List Bool))
  | ⟨[.v (.int .i64 x0)], [some (.var (.agg [.sl 1 (none), .v (.int .i64 x1), .v (.int .i64 x2)])), some (.row (Ty.bool) 4 x3)]⟩ => some ((x0, x1, x2, x3))
  | _ => none

theorem D23_ok : ∀ y r, D23 y = some r → ∀ z, (O23 r).to z → y = z := by
  intro y r h
  unfold D23 at h
  split at h <;> first | (cases h; intro z hz; exact Option.some.inj hz) | cases h

noncomputable def F23 (N : Nat) : (Int × Int × Int × (List Bool)) → Option (Int × Int × Int × (List Bool))
  | (x0, x1, x2, x3) =>
  Option.bind (F50 N x0) fun y0 =>
  iteP (x2 == (0 : Int)) (
    iteP (decide (y0 > IntKind.wrap IntKind.i64 ((↑(List.length x3) : Int) - x1))) (
      some (((0 : Int), x1, (2 : Int), x3))) (
      iteP (x2 != (0 : Int)) (
        some (((0 : Int), x1, x2, x3))) (
        iteP (decide ((0 : Int) ≤ IntKind.wrap IntKind.i64 (x1 + y0) ∧ IntKind.wrap IntKind.i64 (x1 + y0) ≤ (↑(List.length x3) : Int))) (
          iteP (decide ((0 : Int) ≤ IntKind.wrap IntKind.i64 (IntKind.wrap IntKind.i64 (x1 + y0) - y0) ∧ IntKind.wrap IntKind.i64 (IntKind.wrap IntKind.i64 (x1 + y0) - y0) ≤ (↑(Int.toNat (IntKind.wrap IntKind.i64 (x1 + y0))) : Int))) (
            Option.bind (F51 N (List.take (Int.toNat (IntKind.wrap IntKind.i64 (x1 + y0)) - Int.toNat (IntKind.wrap IntKind.i64 (IntKind.wrap IntKind.i64 (x1 + y0) - y0))) (List.drop (Int.toNat (IntKind.wrap IntKind.i64 (IntKind.wrap IntKind.i64 (x1 + y0) - y0))) x3))) fun y1 =>
            some ((y1, IntKind.wrap IntKind.i64 (x1 + y0), x2, x3))) (
            none)) (
          none)))) (
    iteP (x2 != (0 : Int)) (
      some (((0 : Int), x1, x2, x3))) (
      iteP (decide ((0 : Int) ≤ IntKind.wrap IntKind.i64 (x1 + y0) ∧ IntKind.wrap IntKind.i64 (x1 + y0) ≤ (↑(List.length x3) : Int))) (
        iteP (decide ((0 : Int) ≤ IntKind.wrap IntKind.i64 (IntKind.wrap IntKind.i64 (x1 + y0) - y0) ∧ IntKind.wrap IntKind.i64 (IntKind.wrap IntKind.i64 (x1 + y0) - y0) ≤ (↑(Int.toNat (IntKind.wrap IntKind.i64 (x1 + y0))) : Int))) (
          Option.bind (F51 N (List.take (Int.toNat (IntKind.wrap IntKind.i64 (x1 + y0)) - Int.toNat (IntKind.wrap IntKind.i64 (IntKind.wrap IntKind.i64 (x1 + y0) - y0))) (List.drop (Int.toNat (IntKind.wrap IntKind.i64 (IntKind.wrap IntKind.i64 (x1 + y0) - y0))) x3))) fun y2 =>
          some ((y2, IntKind.wrap IntKind.i64 (x1 + y0), x2, x3))) (
          none)) (
        none)))

theorem F23_eq (N : Nat) (x0 : Int) (x1 : Int) (x2 : Int) (x3 : (List Bool)) : (fnEv (mkE Tryz.prog ownT (tab23 N) []) Tryz.f23 (J23 (x0, x1, x2, x3))).run D23 = F23 N (x0, x1, x2, x3) := by kernel_rfl

noncomputable def T23 (N : Nat) : Pk → Tr Pk := tell I23 (F23 N) O23

theorem T23_ok (N : Nat) : FOK Tryz.prog 23 (T23 N) :=
  (tell_ok (E := (mkE Tryz.prog ownT (tab23 N) [])) (mkE_ok mix (tab23_ok N)) Tryz.func23 (show Tryz.f23.body = some (bod Tryz.f23) by kernel_rfl) (by decide +kernel) (F := F23 N) I23_ok D23_ok (args := A23) (fun _ => by kernel_rfl) (fun _ => by show 2 ≤ Tryz.f23.ntmps; exact of_decide_eq_true (by kernel_rfl)) (cutsIn_ok trivial) (fun x => match x with | (x0, x1, x2, x3) => F23_eq N x0 x1 x2 x3))

/-! ## f133: (*mirador/miradorref02.Reader).gap -/

noncomputable def I133 : Pk → Option (((List Bool) × (Int × (Int × Unit))))
  | ⟨[.radr (.cons (.sl .bool) (.cons (.int .i64) (.cons (.int .i64) .unit))) [x0] [.i 0 3]], []⟩ => some x0
  | _ => none

noncomputable def J133 (x : ((List Bool) × (Int × (Int × Unit)))) : Pk := ⟨[.radr (.cons (.sl .bool) (.cons (.int .i64) (.cons (.int .i64) .unit))) [(x)] [.i 0 3]], []⟩

theorem I133_ok : ∀ pk x, I133 pk = some x → pk = J133 x := by
  intro pk x h
  unfold I133 at h
  split at h <;> first | (cases h; rfl) | cases h

noncomputable def A133 : List TV := []

noncomputable def tab133 (N : Nat) : List (Nat × (Pk → Tr Pk)) := []

theorem tab133_ok (N : Nat) : TabOK Tryz.prog (tab133 N) := trivial

noncomputable def O133 (r : Int) : Tr (Pk) := .ret ⟨[.v (.int .i64 (r))], []⟩

noncomputable def D133 : Pk → Option (Int)
  | ⟨[.v (.int .i64 x0)], []⟩ => some (x0)
  | _ => none

theorem D133_ok : ∀ y r, D133 y = some r → ∀ z, (O133 r).to z → y = z := by
  intro y r h
  unfold D133 at h
  split at h <;> first | (cases h; intro z hz; exact Option.some.inj hz) | cases h

noncomputable def F133 (N : Nat) : (((List Bool) × (Int × (Int × Unit)))) → Option (Int)
  | x0 =>
  some (Int.tmod (IntKind.wrap IntKind.i64 ((8 : Int) - Int.tmod (Prod.fst (Prod.snd x0)) (8 : Int))) (8 : Int))

theorem F133_eq (N : Nat) (x0 : ((List Bool) × (Int × (Int × Unit)))) : (fnEv (mkE Tryz.prog ownT (tab133 N) []) Tryz.f133 (J133 x0)).run D133 = F133 N x0 := by kernel_rfl

noncomputable def T133 (N : Nat) : Pk → Tr Pk := tell I133 (F133 N) O133

theorem T133_ok (N : Nat) : FOK Tryz.prog 133 (T133 N) :=
  (tell_ok (E := (mkE Tryz.prog ownT (tab133 N) [])) (mkE_ok mix (tab133_ok N)) Tryz.func133 (show Tryz.f133.body = some (bod Tryz.f133) by kernel_rfl) (by decide +kernel) (F := F133 N) I133_ok D133_ok (args := A133) (fun _ => by kernel_rfl) (fun _ => by show 1 ≤ Tryz.f133.ntmps; exact of_decide_eq_true (by kernel_rfl)) (cutsIn_ok trivial) (fun x => match x with | x0 => F133_eq N x0))

/-! ## f49: mirador/miradorref02.Align -/

noncomputable def I49 : Pk → Option ((List Bool))
  | ⟨[.sl 0 none], [some (.row .bool 4 x0)]⟩ => some x0
  | _ => none

noncomputable def J49 (x : (List Bool)) : Pk := ⟨[.sl 0 none], [some (.row .bool 4 (x))]⟩

theorem I49_ok : ∀ pk x, I49 pk = some x → pk = J49 x := by
  intro pk x h
  unfold I49 at h
  split at h <;> first | (cases h; rfl) | cases h

noncomputable def A49 : List TV := []

noncomputable def tab49 (N : Nat) : List (Nat × (Pk → Tr Pk)) := []

theorem tab49_ok (N : Nat) : TabOK Tryz.prog (tab49 N) := trivial

def X49_12 : Ex → List Nat
  | .ret => [2]
  | .exit 0 => [0]
  | _ => []

noncomputable def I49_12 : Pk → Option ((List Bool))
  | ⟨[.sl 0 (none)], [some (.row (Ty.bool) 4 x0)]⟩ => some x0
  | _ => none

noncomputable def J49_12 (x : (List Bool)) : Pk := ⟨[.sl 0 (none)], [some (.row (Ty.bool) 4 (x))]⟩

theorem I49_12_ok : ∀ pk x, I49_12 pk = some x → pk = J49_12 x := by
  intro pk x h
  unfold I49_12 at h
  split at h <;> first | (cases h; rfl) | cases h

noncomputable def O49_12 (r : (List Bool)) : Tr (Ex × Pk) := .ret (.exit 0, ⟨[.sl 0 (none)], [some (.row (Ty.bool) 4 (r))]⟩)

noncomputable def D49_12 : Ex × Pk → Option ((List Bool))
  | (.exit 0, ⟨[.sl 0 (none)], [some (.row (Ty.bool) 4 x0)]⟩) => some (x0)
  | _ => none

theorem D49_12_ok : ∀ y r, D49_12 y = some r → ∀ z, (O49_12 r).to z → y = z := by
  intro y r h
  unfold D49_12 at h
  split at h <;> first | (cases h; intro z hz; exact Option.some.inj hz) | cases h

noncomputable def B49_12 (N : Nat) (f : ((List Bool)) → Option ((List Bool))) : ((List Bool)) → Option ((List Bool))
  | x0 =>
  iteP (Int.tmod (↑(List.length x0) : Int) (8 : Int) != (0 : Int)) (
    iteP (decide ((List.length x0 + (1 : Nat)) * (1 : Nat) ≤ (140737488355328 : Nat) ∧ List.length x0 + (1 : Nat) ≤ (140737488355328 : Nat))) (
      Option.bind (f (x0 ++ [false])) fun r => some r) (
      none)) (
    some (x0))

noncomputable def F49_12 (N : Nat) : Nat → ((List Bool)) → Option ((List Bool))
  | 0, _ => none
  | k + 1, x => B49_12 N (F49_12 N k) x

noncomputable def C49_12 (N : Nat) (k : Nat) : Cut := ⟨[0], X49_12, tellX I49_12 (F49_12 N k) O49_12⟩

theorem B49_12_eq (N : Nat) (f : ((List Bool)) → Option ((List Bool))) (x0 : (List Bool)) : (roundEv (mkE Tryz.prog ownT (tab49 N) []) Tryz.f49.ntmps A49 (loopAt (bod Tryz.f49) 12) 12 ⟨[0], X49_12, tellX I49_12 f O49_12⟩ (J49_12 x0)).run D49_12 = B49_12 N f x0 := by kernel_rfl

theorem C49_12_ok (N : Nat) (k : Nat) : ∀ c', At (bod Tryz.f49) 12 c' → CutOK Tryz.prog Tryz.f49.ntmps (idsL A49) c' (C49_12 N k) :=
  loop_ok (E := (mkE Tryz.prog ownT (tab49 N) [])) (mkE_ok mix (tab49_ok N)) (cutsIn_ok trivial) (fuel := 200) (by decide +kernel) (by kernel_rfl) I49_12_ok D49_12_ok (B49_12 N) (F49_12 N) (fun _ => rfl) (fun _ _ => rfl) (fun f x => match x with | x0 => B49_12_eq N f x0) k

noncomputable def O49 (r : (List Bool)) : Tr (Pk) := .ret ⟨[.sl 0 (none)], [some (.row (Ty.bool) 4 (r))]⟩

noncomputable def D49 : Pk → Option ((List Bool))
  | ⟨[.sl 0 (none)], [some (.row (Ty.bool) 4 x0)]⟩ => some (x0)
  | _ => none

theorem D49_ok : ∀ y r, D49 y = some r → ∀ z, (O49 r).to z → y = z := by
  intro y r h
  unfold D49 at h
  split at h <;> first | (cases h; intro z hz; exact Option.some.inj hz) | cases h

noncomputable def F49 (N : Nat) : ((List Bool)) → Option ((List Bool))
  | x0 =>
  Option.bind (F49_12 N N x0) fun y0 =>
  some (y0)

theorem F49_eq (N : Nat) (x0 : (List Bool)) : (fnEv (mkE Tryz.prog ownT (tab49 N) [(12, (C49_12 N N))]) Tryz.f49 (J49 x0)).run D49 = F49 N x0 := by kernel_rfl

noncomputable def T49 (N : Nat) : Pk → Tr Pk := tell I49 (F49 N) O49

theorem T49_ok (N : Nat) : FOK Tryz.prog 49 (T49 N) :=
  (tell_ok (E := (mkE Tryz.prog ownT (tab49 N) [(12, (C49_12 N N))])) (mkE_ok mix (tab49_ok N)) Tryz.func49 (show Tryz.f49.body = some (bod Tryz.f49) by kernel_rfl) (by decide +kernel) (F := F49 N) I49_ok D49_ok (args := A49) (fun _ => by kernel_rfl) (fun _ => by show 1 ≤ Tryz.f49.ntmps; exact of_decide_eq_true (by kernel_rfl)) (cutsIn_ok ⟨fun c' h => (C49_12_ok N N c' h), trivial⟩) (fun x => match x with | x0 => F49_eq N x0))

/-! ## f20: mirador/miradorref02.Text -/

noncomputable def I20 : Pk → Option ((List Bool))
  | ⟨[.ro .bool x0], []⟩ => some x0
  | _ => none

noncomputable def J20 (x : (List Bool)) : Pk := ⟨[.ro .bool (x)], []⟩

theorem I20_ok : ∀ pk x, I20 pk = some x → pk = J20 x := by
  intro pk x h
  unfold I20 at h
  split at h <;> first | (cases h; rfl) | cases h

noncomputable def A20 : List TV := []

noncomputable def tab20 (N : Nat) : List (Nat × (Pk → Tr Pk)) := [(49, T49 N), (51, T51 N)]

theorem tab20_ok (N : Nat) : TabOK Tryz.prog (tab20 N) := ⟨T49_ok N, ⟨T51_ok N, trivial⟩⟩

def X20_506 : Ex → List Nat
  | .ret => [2]
  | .exit 0 => [4]
  | _ => []

noncomputable def I20_506 : Pk → Option (ByteArray × Int × (List Bool))
  | ⟨[.v (.string x0), .v (.int .i64 x1), .sl 0 (none)], [some (.row (Ty.bool) 4 x2)]⟩ => some (x0, x1, x2)
  | _ => none

noncomputable def J20_506 (x : ByteArray × Int × (List Bool)) : Pk := ⟨[.v (.string (x.1)), .v (.int .i64 (x.2.1)), .sl 0 (none)], [some (.row (Ty.bool) 4 (x.2.2))]⟩

theorem I20_506_ok : ∀ pk x, I20_506 pk = some x → pk = J20_506 x := by
  intro pk x h
  unfold I20_506 at h
  split at h <;> first | (cases h; rfl) | cases h

noncomputable def O20_506 (r : ByteArray) : Tr (Ex × Pk) := .ret (.exit 0, ⟨[.v (.string (r))], []⟩)

noncomputable def D20_506 : Ex × Pk → Option (ByteArray)
  | (.exit 0, ⟨[.v (.string x0)], []⟩) => some (x0)
  | _ => none

theorem D20_506_ok : ∀ y r, D20_506 y = some r → ∀ z, (O20_506 r).to z → y = z := by
  intro y r h
  unfold D20_506 at h
  split at h <;> first | (cases h; intro z hz; exact Option.some.inj hz) | cases h

noncomputable def B20_506 (N : Nat) (f : (ByteArray × Int × (List Bool)) → Option (ByteArray)) : (ByteArray × Int × (List Bool)) → Option (ByteArray)
  | (x0, x1, x2) =>
  iteP (decide (x1 < (↑(List.length x2) : Int))) (
    iteP (decide ((0 : Int) ≤ IntKind.wrap IntKind.i64 (x1 + (8 : Int)) ∧ IntKind.wrap IntKind.i64 (x1 + (8 : Int)) ≤ (↑(List.length x2) : Int))) (
      iteP (decide ((0 : Int) ≤ x1 ∧ x1 ≤ (↑(Int.toNat (IntKind.wrap IntKind.i64 (x1 + (8 : Int)))) : Int))) (
        Option.bind (F51 N (List.take (Int.toNat (IntKind.wrap IntKind.i64 (x1 + (8 : Int))) - Int.toNat x1) (List.drop (Int.toNat x1) x2))) fun y0 =>
        iteP (decide ((↑(ByteArray.size x0 + ByteArray.size (stringOf [IntKind.wrap IntKind.u8 y0])) : Int) > (9223372036854775807 : Int))) (
          none) (
          Option.bind (f (x0 ++ stringOf [IntKind.wrap IntKind.u8 y0], IntKind.wrap IntKind.i64 (x1 + (8 : Int)), x2)) fun r => some r)) (
        none)) (
      none)) (
    some (x0))

noncomputable def F20_506 (N : Nat) : Nat → (ByteArray × Int × (List Bool)) → Option (ByteArray)
  | 0, _ => none
  | k + 1, x => B20_506 N (F20_506 N k) x

noncomputable def C20_506 (N : Nat) (k : Nat) : Cut := ⟨[4, 5, 3], X20_506, tellX I20_506 (F20_506 N k) O20_506⟩

theorem B20_506_eq (N : Nat) (f : (ByteArray × Int × (List Bool)) → Option (ByteArray)) (x0 : ByteArray) (x1 : Int) (x2 : (List Bool)) : (roundEv (mkE Tryz.prog ownT (tab20 N) []) Tryz.f20.ntmps A20 (loopAt (bod Tryz.f20) 506) 506 ⟨[4, 5, 3], X20_506, tellX I20_506 f O20_506⟩ (J20_506 (x0, x1, x2))).run D20_506 = B20_506 N f (x0, x1, x2) := by kernel_rfl

theorem C20_506_ok (N : Nat) (k : Nat) : ∀ c', At (bod Tryz.f20) 506 c' → CutOK Tryz.prog Tryz.f20.ntmps (idsL A20) c' (C20_506 N k) :=
  loop_ok (E := (mkE Tryz.prog ownT (tab20 N) [])) (mkE_ok mix (tab20_ok N)) (cutsIn_ok trivial) (fuel := 200) (by decide +kernel) (by kernel_rfl) I20_506_ok D20_506_ok (B20_506 N) (F20_506 N) (fun _ => rfl) (fun _ _ => rfl) (fun f x => match x with | (x0, x1, x2) => B20_506_eq N f x0 x1 x2) k

noncomputable def O20 (r : ByteArray) : Tr (Pk) := .ret ⟨[.v (.string (r))], []⟩

noncomputable def D20 : Pk → Option (ByteArray)
  | ⟨[.v (.string x0)], []⟩ => some (x0)
  | _ => none

theorem D20_ok : ∀ y r, D20 y = some r → ∀ z, (O20 r).to z → y = z := by
  intro y r h
  unfold D20 at h
  split at h <;> first | (cases h; intro z hz; exact Option.some.inj hz) | cases h

noncomputable def F20 (N : Nat) : ((List Bool)) → Option (ByteArray)
  | x0 =>
  iteP (decide (((0 : Nat) + List.length x0) * (1 : Nat) ≤ (140737488355328 : Nat) ∧ (0 : Nat) + List.length x0 ≤ (140737488355328 : Nat))) (
    Option.bind (F49 N x0) fun y0 =>
    Option.bind (F20_506 N N (ByteArray.mk #[], (0 : Int), y0)) fun y1 =>
    some (y1)) (
    none)

theorem F20_eq (N : Nat) (x0 : (List Bool)) : (fnEv (mkE Tryz.prog ownT (tab20 N) [(506, (C20_506 N N))]) Tryz.f20 (J20 x0)).run D20 = F20 N x0 := by kernel_rfl

noncomputable def T20 (N : Nat) : Pk → Tr Pk := tell I20 (F20 N) O20

theorem T20_ok (N : Nat) : FOK Tryz.prog 20 (T20 N) :=
  (tell_ok (E := (mkE Tryz.prog ownT (tab20 N) [(506, (C20_506 N N))])) (mkE_ok mix (tab20_ok N)) Tryz.func20 (show Tryz.f20.body = some (bod Tryz.f20) by kernel_rfl) (by decide +kernel) (F := F20 N) I20_ok D20_ok (args := A20) (fun _ => by kernel_rfl) (fun _ => by show 1 ≤ Tryz.f20.ntmps; exact of_decide_eq_true (by kernel_rfl)) (cutsIn_ok ⟨fun c' h => (C20_506_ok N N c' h), trivial⟩) (fun x => match x with | x0 => F20_eq N x0))

/-! ## f105: (*mirador/miradorref02.Reader).Bytes -/

noncomputable def I105 : Pk → Option (Int × Int × Int × (List Bool))
  | ⟨[.adr 0 [], .v (.int .i64 x0)], [some (.var (.agg [.sl 1 none, .v (.int .i64 x1), .v (.int .i64 x2)])), some (.row .bool 4 x3)]⟩ => some (x0, x1, x2, x3)
  | _ => none

noncomputable def J105 (x : Int × Int × Int × (List Bool)) : Pk := ⟨[.adr 0 [], .v (.int .i64 (x.1))], [some (.var (.agg [.sl 1 none, .v (.int .i64 (x.2.1)), .v (.int .i64 (x.2.2.1))])), some (.row .bool 4 (x.2.2.2))]⟩

theorem I105_ok : ∀ pk x, I105 pk = some x → pk = J105 x := by
  intro pk x h
  unfold I105 at h
  split at h <;> first | (cases h; rfl) | cases h

noncomputable def A105 : List TV := [.adr 0 []]

noncomputable def tab105 (N : Nat) : List (Nat × (Pk → Tr Pk)) := [(133, T133 N), (20, T20 N)]

theorem tab105_ok (N : Nat) : TabOK Tryz.prog (tab105 N) := ⟨T133_ok N, ⟨T20_ok N, trivial⟩⟩

noncomputable def O105 (r : ByteArray × Int × Int × (List Bool)) : Tr (Pk) := .ret ⟨[.v (.string (r.1))], [some (.var (.agg [.sl 1 (none), .v (.int .i64 (r.2.1)), .v (.int .i64 (r.2.2.1))])), some (.row (Ty.bool) 4 (r.2.2.2))]⟩

noncomputable def D105 : Pk → Option (ByteArray × Int × Int × (List Bool))
  | ⟨[.v (.string x0)], [some (.var (.agg [.sl 1 (none), .v (.int .i64 x1), .v (.int .i64 x2)])), some (.row (Ty.bool) 4 x3)]⟩ => some ((x0, x1, x2, x3))
  | _ => none

theorem D105_ok : ∀ y r, D105 y = some r → ∀ z, (O105 r).to z → y = z := by
  intro y r h
  unfold D105 at h
  split at h <;> first | (cases h; intro z hz; exact Option.some.inj hz) | cases h

noncomputable def F105 (N : Nat) : (Int × Int × Int × (List Bool)) → Option (ByteArray × Int × Int × (List Bool))
  | (x0, x1, x2, x3) =>
  iteP (x2 == (0 : Int)) (
    Option.bind (F133 N (x3, x1, x2, ())) fun y0 =>
    iteP (decide ((if (0 : Int) > x0 then (0 : Int) else x0) > IntKind.wrap IntKind.i64 (Int.tdiv (IntKind.wrap IntKind.i64 (IntKind.wrap IntKind.i64 ((↑(List.length x3) : Int) - x1) - y0)) (8 : Int)))) (
      some ((ByteArray.mk #[], x1, (2 : Int), x3))) (
      iteP (x2 != (0 : Int)) (
        some ((ByteArray.mk #[], x1, x2, x3))) (
        Option.bind (F133 N (x3, x1, x2, ())) fun y1 =>
        iteP (decide ((0 : Int) ≤ IntKind.wrap IntKind.i64 (IntKind.wrap IntKind.i64 (x1 + y1) + IntKind.wrap IntKind.i64 ((8 : Int) * if (0 : Int) > x0 then (0 : Int) else x0)) ∧ IntKind.wrap IntKind.i64 (IntKind.wrap IntKind.i64 (x1 + y1) + IntKind.wrap IntKind.i64 ((8 : Int) * if (0 : Int) > x0 then (0 : Int) else x0)) ≤ (↑(List.length x3) : Int))) (
          iteP (decide ((0 : Int) ≤ IntKind.wrap IntKind.i64 (IntKind.wrap IntKind.i64 (IntKind.wrap IntKind.i64 (x1 + y1) + IntKind.wrap IntKind.i64 ((8 : Int) * if (0 : Int) > x0 then (0 : Int) else x0)) - IntKind.wrap IntKind.i64 ((8 : Int) * if (0 : Int) > x0 then (0 : Int) else x0)) ∧ IntKind.wrap IntKind.i64 (IntKind.wrap IntKind.i64 (IntKind.wrap IntKind.i64 (x1 + y1) + IntKind.wrap IntKind.i64 ((8 : Int) * if (0 : Int) > x0 then (0 : Int) else x0)) - IntKind.wrap IntKind.i64 ((8 : Int) * if (0 : Int) > x0 then (0 : Int) else x0)) ≤ (↑(Int.toNat (IntKind.wrap IntKind.i64 (IntKind.wrap IntKind.i64 (x1 + y1) + IntKind.wrap IntKind.i64 ((8 : Int) * if (0 : Int) > x0 then (0 : Int) else x0)))) : Int))) (
            Option.bind (F20 N (List.take (Int.toNat (IntKind.wrap IntKind.i64 (IntKind.wrap IntKind.i64 (x1 + y1) + IntKind.wrap IntKind.i64 ((8 : Int) * if (0 : Int) > x0 then (0 : Int) else x0))) - Int.toNat (IntKind.wrap IntKind.i64 (IntKind.wrap IntKind.i64 (IntKind.wrap IntKind.i64 (x1 + y1) + IntKind.wrap IntKind.i64 ((8 : Int) * if (0 : Int) > x0 then (0 : Int) else x0)) - IntKind.wrap IntKind.i64 ((8 : Int) * if (0 : Int) > x0 then (0 : Int) else x0)))) (List.drop (Int.toNat (IntKind.wrap IntKind.i64 (IntKind.wrap IntKind.i64 (IntKind.wrap IntKind.i64 (x1 + y1) + IntKind.wrap IntKind.i64 ((8 : Int) * if (0 : Int) > x0 then (0 : Int) else x0)) - IntKind.wrap IntKind.i64 ((8 : Int) * if (0 : Int) > x0 then (0 : Int) else x0)))) x3))) fun y2 =>
            some ((y2, IntKind.wrap IntKind.i64 (IntKind.wrap IntKind.i64 (x1 + y1) + IntKind.wrap IntKind.i64 ((8 : Int) * if (0 : Int) > x0 then (0 : Int) else x0)), x2, x3))) (
            none)) (
          none)))) (
    iteP (x2 != (0 : Int)) (
      some ((ByteArray.mk #[], x1, x2, x3))) (
      Option.bind (F133 N (x3, x1, x2, ())) fun y3 =>
      iteP (decide ((0 : Int) ≤ IntKind.wrap IntKind.i64 (IntKind.wrap IntKind.i64 (x1 + y3) + IntKind.wrap IntKind.i64 ((8 : Int) * if (0 : Int) > x0 then (0 : Int) else x0)) ∧ IntKind.wrap IntKind.i64 (IntKind.wrap IntKind.i64 (x1 + y3) + IntKind.wrap IntKind.i64 ((8 : Int) * if (0 : Int) > x0 then (0 : Int) else x0)) ≤ (↑(List.length x3) : Int))) (
        iteP (decide ((0 : Int) ≤ IntKind.wrap IntKind.i64 (IntKind.wrap IntKind.i64 (IntKind.wrap IntKind.i64 (x1 + y3) + IntKind.wrap IntKind.i64 ((8 : Int) * if (0 : Int) > x0 then (0 : Int) else x0)) - IntKind.wrap IntKind.i64 ((8 : Int) * if (0 : Int) > x0 then (0 : Int) else x0)) ∧ IntKind.wrap IntKind.i64 (IntKind.wrap IntKind.i64 (IntKind.wrap IntKind.i64 (x1 + y3) + IntKind.wrap IntKind.i64 ((8 : Int) * if (0 : Int) > x0 then (0 : Int) else x0)) - IntKind.wrap IntKind.i64 ((8 : Int) * if (0 : Int) > x0 then (0 : Int) else x0)) ≤ (↑(Int.toNat (IntKind.wrap IntKind.i64 (IntKind.wrap IntKind.i64 (x1 + y3) + IntKind.wrap IntKind.i64 ((8 : Int) * if (0 : Int) > x0 then (0 : Int) else x0)))) : Int))) (
          Option.bind (F20 N (List.take (Int.toNat (IntKind.wrap IntKind.i64 (IntKind.wrap IntKind.i64 (x1 + y3) + IntKind.wrap IntKind.i64 ((8 : Int) * if (0 : Int) > x0 then (0 : Int) else x0))) - Int.toNat (IntKind.wrap IntKind.i64 (IntKind.wrap IntKind.i64 (IntKind.wrap IntKind.i64 (x1 + y3) + IntKind.wrap IntKind.i64 ((8 : Int) * if (0 : Int) > x0 then (0 : Int) else x0)) - IntKind.wrap IntKind.i64 ((8 : Int) * if (0 : Int) > x0 then (0 : Int) else x0)))) (List.drop (Int.toNat (IntKind.wrap IntKind.i64 (IntKind.wrap IntKind.i64 (IntKind.wrap IntKind.i64 (x1 + y3) + IntKind.wrap IntKind.i64 ((8 : Int) * if (0 : Int) > x0 then (0 : Int) else x0)) - IntKind.wrap IntKind.i64 ((8 : Int) * if (0 : Int) > x0 then (0 : Int) else x0)))) x3))) fun y4 =>
          some ((y4, IntKind.wrap IntKind.i64 (IntKind.wrap IntKind.i64 (x1 + y3) + IntKind.wrap IntKind.i64 ((8 : Int) * if (0 : Int) > x0 then (0 : Int) else x0)), x2, x3))) (
          none)) (
        none)))

theorem F105_eq (N : Nat) (x0 : Int) (x1 : Int) (x2 : Int) (x3 : (List Bool)) : (fnEv (mkE Tryz.prog ownT (tab105 N) []) Tryz.f105 (J105 (x0, x1, x2, x3))).run D105 = F105 N (x0, x1, x2, x3) := by kernel_rfl

noncomputable def T105 (N : Nat) : Pk → Tr Pk := tell I105 (F105 N) O105

theorem T105_ok (N : Nat) : FOK Tryz.prog 105 (T105 N) :=
  (tell_ok (E := (mkE Tryz.prog ownT (tab105 N) [])) (mkE_ok mix (tab105_ok N)) Tryz.func105 (show Tryz.f105.body = some (bod Tryz.f105) by kernel_rfl) (by decide +kernel) (F := F105 N) I105_ok D105_ok (args := A105) (fun _ => by kernel_rfl) (fun _ => by show 2 ≤ Tryz.f105.ntmps; exact of_decide_eq_true (by kernel_rfl)) (cutsIn_ok trivial) (fun x => match x with | (x0, x1, x2, x3) => F105_eq N x0 x1 x2 x3))

/-! ## f72: mirador/miradorref08.plain -/

noncomputable def I72 : Pk → Option (Int × Int × Int × (List Bool))
  | ⟨[.adr 0 [], .v (.int .i64 x0)], [some (.var (.agg [.sl 1 none, .v (.int .i64 x1), .v (.int .i64 x2)])), some (.row .bool 4 x3)]⟩ => some (x0, x1, x2, x3)
  | _ => none

noncomputable def J72 (x : Int × Int × Int × (List Bool)) : Pk := ⟨[.adr 0 [], .v (.int .i64 (x.1))], [some (.var (.agg [.sl 1 none, .v (.int .i64 (x.2.1)), .v (.int .i64 (x.2.2.1))])), some (.row .bool 4 (x.2.2.2))]⟩

theorem I72_ok : ∀ pk x, I72 pk = some x → pk = J72 x := by
  intro pk x h
  unfold I72 at h
  split at h <;> first | (cases h; rfl) | cases h

noncomputable def A72 : List TV := [.adr 0 []]

noncomputable def tab72 (N : Nat) : List (Nat × (Pk → Tr Pk)) := [(105, T105 N)]

theorem tab72_ok (N : Nat) : TabOK Tryz.prog (tab72 N) := ⟨T105_ok N, trivial⟩

noncomputable def O72 (r : ByteArray × Int × Int × Int × (List Bool)) : Tr (Pk) := .ret ⟨[.tup [.v (.string (r.1)), .v (.int .i64 (r.2.1))]], [some (.var (.agg [.sl 1 (none), .v (.int .i64 (r.2.2.1)), .v (.int .i64 (r.2.2.2.1))])), some (.row (Ty.bool) 4 (r.2.2.2.2))]⟩

noncomputable def D72 : Pk → Option (ByteArray × Int × Int × Int × (List Bool))
  | ⟨[.tup [.v (.string x0), .v (.int .i64 x1)]], [some (.var (.agg [.sl 1 (none), .v (.int .i64 x2), .v (.int .i64 x3)])), some (.row (Ty.bool) 4 x4)]⟩ => some ((x0, x1, x2, x3, x4))
  | _ => none

theorem D72_ok : ∀ y r, D72 y = some r → ∀ z, (O72 r).to z → y = z := by
  intro y r h
  unfold D72 at h
  split at h <;> first | (cases h; intro z hz; exact Option.some.inj hz) | cases h

noncomputable def F72 (N : Nat) : (Int × Int × Int × (List Bool)) → Option (ByteArray × Int × Int × Int × (List Bool))
  | (x0, x1, x2, x3) =>
  Option.bind (F105 N ((4 : Int), x1, x2, x3)) fun y0 =>
  iteP (Prod.fst (Prod.snd (Prod.snd y0)) != (0 : Int)) (
    some ((ByteArray.mk #[], Prod.fst (Prod.snd (Prod.snd y0)), Prod.fst (Prod.snd y0), Prod.fst (Prod.snd (Prod.snd y0)), Prod.snd (Prod.snd (Prod.snd y0))))) (
    Option.bind ((Prod.fst y0)[(0 : Nat)]?) fun y1 =>
    Option.bind ((Prod.fst y0)[(1 : Nat)]?) fun y2 =>
    Option.bind ((Prod.fst y0)[(2 : Nat)]?) fun y3 =>
    Option.bind ((Prod.fst y0)[(3 : Nat)]?) fun y4 =>
    iteP (IntKind.wrap IntKind.i64 (IntKind.wrap IntKind.i64 (IntKind.wrap IntKind.i64 (↑(UInt8.toNat y1) : Int) + IntKind.wrap IntKind.i64 ((256 : Int) * IntKind.wrap IntKind.i64 (↑(UInt8.toNat y2) : Int))) + IntKind.wrap IntKind.i64 (IntKind.wrap IntKind.i64 (↑(UInt8.toNat y3) : Int) + IntKind.wrap IntKind.i64 ((256 : Int) * IntKind.wrap IntKind.i64 (↑(UInt8.toNat y4) : Int)))) != (65535 : Int)) (
      some ((ByteArray.mk #[], (80 : Int), Prod.fst (Prod.snd y0), Prod.fst (Prod.snd (Prod.snd y0)), Prod.snd (Prod.snd (Prod.snd y0))))) (
      iteP (IntKind.wrap IntKind.i64 (↑(BitVec.toNat (BitVec.ofInt (64 : Nat) (IntKind.wrap IntKind.i64 (IntKind.wrap IntKind.i64 (↑(UInt8.toNat y1) : Int) + IntKind.wrap IntKind.i64 ((256 : Int) * IntKind.wrap IntKind.i64 (↑(UInt8.toNat y2) : Int)))) ^^^ BitVec.ofInt (64 : Nat) (IntKind.wrap IntKind.i64 (IntKind.wrap IntKind.i64 (↑(UInt8.toNat y3) : Int) + IntKind.wrap IntKind.i64 ((256 : Int) * IntKind.wrap IntKind.i64 (↑(UInt8.toNat y4) : Int)))))) : Int) != (65535 : Int)) (
        some ((ByteArray.mk #[], (80 : Int), Prod.fst (Prod.snd y0), Prod.fst (Prod.snd (Prod.snd y0)), Prod.snd (Prod.snd (Prod.snd y0))))) (
        iteP (decide (IntKind.wrap IntKind.i64 (IntKind.wrap IntKind.i64 (↑(UInt8.toNat y1) : Int) + IntKind.wrap IntKind.i64 ((256 : Int) * IntKind.wrap IntKind.i64 (↑(UInt8.toNat y2) : Int))) > x0)) (
          some ((ByteArray.mk #[], (4 : Int), Prod.fst (Prod.snd y0), Prod.fst (Prod.snd (Prod.snd y0)), Prod.snd (Prod.snd (Prod.snd y0))))) (
          Option.bind (F105 N (IntKind.wrap IntKind.i64 (IntKind.wrap IntKind.i64 (↑(UInt8.toNat y1) : Int) + IntKind.wrap IntKind.i64 ((256 : Int) * IntKind.wrap IntKind.i64 (↑(UInt8.toNat y2) : Int))), Prod.fst (Prod.snd y0), Prod.fst (Prod.snd (Prod.snd y0)), Prod.snd (Prod.snd (Prod.snd y0)))) fun y5 =>
          some ((Prod.fst y5, Prod.fst (Prod.snd (Prod.snd y5)), Prod.fst (Prod.snd y5), Prod.fst (Prod.snd (Prod.snd y5)), Prod.snd (Prod.snd (Prod.snd y5))))))))

theorem F72_eq (N : Nat) (x0 : Int) (x1 : Int) (x2 : Int) (x3 : (List Bool)) : (fnEv (mkE Tryz.prog ownT (tab72 N) []) Tryz.f72 (J72 (x0, x1, x2, x3))).run D72 = F72 N (x0, x1, x2, x3) := by kernel_rfl

noncomputable def T72 (N : Nat) : Pk → Tr Pk := tell I72 (F72 N) O72

theorem T72_ok (N : Nat) : FOK Tryz.prog 72 (T72 N) :=
  (tell_ok (E := (mkE Tryz.prog ownT (tab72 N) [])) (mkE_ok mix (tab72_ok N)) Tryz.func72 (show Tryz.f72.body = some (bod Tryz.f72) by kernel_rfl) (by decide +kernel) (F := F72 N) I72_ok D72_ok (args := A72) (fun _ => by kernel_rfl) (fun _ => by show 2 ≤ Tryz.f72.ntmps; exact of_decide_eq_true (by kernel_rfl)) (cutsIn_ok trivial) (fun x => match x with | (x0, x1, x2, x3) => F72_eq N x0 x1 x2 x3))

/-! ## f73: mirador/miradorref07.Fixed -/

noncomputable def I73 : Pk → Option (Unit)
  | ⟨[], []⟩ => some ()
  | _ => none

noncomputable def J73 (x : Unit) : Pk := ⟨[], []⟩

theorem I73_ok : ∀ pk x, I73 pk = some x → pk = J73 x := by
  intro pk x h
  unfold I73 at h
  split at h <;> first | (cases h; rfl) | cases h

noncomputable def A73 : List TV := []

noncomputable def tab73 (N : Nat) : List (Nat × (Pk → Tr Pk)) := []

theorem tab73_ok (N : Nat) : TabOK Tryz.prog (tab73 N) := trivial

def X73_122 : Ex → List Nat
  | .ret => [0, 1]
  | .exit 0 => [3, 2]
  | _ => []

def X73_250 : Ex → List Nat
  | .ret => [0, 1]
  | .exit 2 => [2, 3]
  | _ => []

noncomputable def I73_122 : Pk → Option (Int × (List Int) × (List Int))
  | ⟨[.sl 0 (none), .v (.int .i64 x0), .sl 1 (none)], [some (.row (Ty.int IntKind.i64) 3 x1), some (.row (Ty.int IntKind.i64) 3 x2)]⟩ => some (x0, x1, x2)
  | _ => none

noncomputable def J73_122 (x : Int × (List Int) × (List Int)) : Pk := ⟨[.sl 0 (none), .v (.int .i64 (x.1)), .sl 1 (none)], [some (.row (Ty.int IntKind.i64) 3 (x.2.1)), some (.row (Ty.int IntKind.i64) 3 (x.2.2))]⟩

theorem I73_122_ok : ∀ pk x, I73_122 pk = some x → pk = J73_122 x := by
  intro pk x h
  unfold I73_122 at h
  split at h <;> first | (cases h; rfl) | cases h

noncomputable def O73_122 (r : (List Int) × (List Int)) : Tr (Ex × Pk) := .ret (.exit 0, ⟨[.sl 0 (none), .sl 1 (none)], [some (.row (Ty.int IntKind.i64) 3 (r.1)), some (.row (Ty.int IntKind.i64) 3 (r.2))]⟩)

noncomputable def D73_122 : Ex × Pk → Option ((List Int) × (List Int))
  | (.exit 0, ⟨[.sl 0 (none), .sl 1 (none)], [some (.row (Ty.int IntKind.i64) 3 x0), some (.row (Ty.int IntKind.i64) 3 x1)]⟩) => some ((x0, x1))
  | _ => none

theorem D73_122_ok : ∀ y r, D73_122 y = some r → ∀ z, (O73_122 r).to z → y = z := by
  intro y r h
  unfold D73_122 at h
  split at h <;> first | (cases h; intro z hz; exact Option.some.inj hz) | cases h

noncomputable def B73_122 (N : Nat) (f : (Int × (List Int) × (List Int)) → Option ((List Int) × (List Int))) : (Int × (List Int) × (List Int)) → Option ((List Int) × (List Int))
  | (x0, x1, x2) =>
  iteP (decide (x0 < (288 : Int))) (
    iteP (decide (x0 ≥ (144 : Int))) (
      iteP (decide (x0 ≤ (255 : Int))) (
        iteP (decide (x0 ≥ (256 : Int))) (
          iteP (decide (x0 ≤ (279 : Int))) (
            iteP (decide ((List.length x1 + (1 : Nat)) * (8 : Nat) ≤ (140737488355328 : Nat) ∧ List.length x1 + (1 : Nat) ≤ (140737488355328 : Nat))) (
              Option.bind (f (IntKind.wrap IntKind.i64 (x0 + (1 : Int)), x1 ++ [(7 : Int)], x2)) fun r => some r) (
              none)) (
            iteP (decide ((List.length x1 + (1 : Nat)) * (8 : Nat) ≤ (140737488355328 : Nat) ∧ List.length x1 + (1 : Nat) ≤ (140737488355328 : Nat))) (
              Option.bind (f (IntKind.wrap IntKind.i64 (x0 + (1 : Int)), x1 ++ [(9 : Int)], x2)) fun r => some r) (
              none))) (
          iteP (decide ((List.length x1 + (1 : Nat)) * (8 : Nat) ≤ (140737488355328 : Nat) ∧ List.length x1 + (1 : Nat) ≤ (140737488355328 : Nat))) (
            Option.bind (f (IntKind.wrap IntKind.i64 (x0 + (1 : Int)), x1 ++ [(9 : Int)], x2)) fun r => some r) (
            none))) (
        iteP (decide (x0 ≥ (256 : Int))) (
          iteP (decide (x0 ≤ (279 : Int))) (
            iteP (decide ((List.length x1 + (1 : Nat)) * (8 : Nat) ≤ (140737488355328 : Nat) ∧ List.length x1 + (1 : Nat) ≤ (140737488355328 : Nat))) (
              Option.bind (f (IntKind.wrap IntKind.i64 (x0 + (1 : Int)), x1 ++ [(7 : Int)], x2)) fun r => some r) (
              none)) (
            iteP (decide ((List.length x1 + (1 : Nat)) * (8 : Nat) ≤ (140737488355328 : Nat) ∧ List.length x1 + (1 : Nat) ≤ (140737488355328 : Nat))) (
              Option.bind (f (IntKind.wrap IntKind.i64 (x0 + (1 : Int)), x1 ++ [(8 : Int)], x2)) fun r => some r) (
              none))) (
          iteP (decide ((List.length x1 + (1 : Nat)) * (8 : Nat) ≤ (140737488355328 : Nat) ∧ List.length x1 + (1 : Nat) ≤ (140737488355328 : Nat))) (
            Option.bind (f (IntKind.wrap IntKind.i64 (x0 + (1 : Int)), x1 ++ [(8 : Int)], x2)) fun r => some r) (
            none)))) (
      iteP (decide (x0 ≥ (256 : Int))) (
        iteP (decide (x0 ≤ (279 : Int))) (
          iteP (decide ((List.length x1 + (1 : Nat)) * (8 : Nat) ≤ (140737488355328 : Nat) ∧ List.length x1 + (1 : Nat) ≤ (140737488355328 : Nat))) (
            Option.bind (f (IntKind.wrap IntKind.i64 (x0 + (1 : Int)), x1 ++ [(7 : Int)], x2)) fun r => some r) (
            none)) (
          iteP (decide ((List.length x1 + (1 : Nat)) * (8 : Nat) ≤ (140737488355328 : Nat) ∧ List.length x1 + (1 : Nat) ≤ (140737488355328 : Nat))) (
            Option.bind (f (IntKind.wrap IntKind.i64 (x0 + (1 : Int)), x1 ++ [(8 : Int)], x2)) fun r => some r) (
            none))) (
        iteP (decide ((List.length x1 + (1 : Nat)) * (8 : Nat) ≤ (140737488355328 : Nat) ∧ List.length x1 + (1 : Nat) ≤ (140737488355328 : Nat))) (
          Option.bind (f (IntKind.wrap IntKind.i64 (x0 + (1 : Int)), x1 ++ [(8 : Int)], x2)) fun r => some r) (
          none)))) (
    some ((x2, x1)))

noncomputable def F73_122 (N : Nat) : Nat → (Int × (List Int) × (List Int)) → Option ((List Int) × (List Int))
  | 0, _ => none
  | k + 1, x => B73_122 N (F73_122 N k) x

noncomputable def C73_122 (N : Nat) (k : Nat) : Cut := ⟨[2, 4, 3], X73_122, tellX I73_122 (F73_122 N k) O73_122⟩

theorem B73_122_eq (N : Nat) (f : (Int × (List Int) × (List Int)) → Option ((List Int) × (List Int))) (x0 : Int) (x1 : (List Int)) (x2 : (List Int)) : (roundEv (mkE Tryz.prog ownT (tab73 N) []) Tryz.f73.ntmps A73 (loopAt (bod Tryz.f73) 122) 122 ⟨[2, 4, 3], X73_122, tellX I73_122 f O73_122⟩ (J73_122 (x0, x1, x2))).run D73_122 = B73_122 N f (x0, x1, x2) := by kernel_rfl

theorem C73_122_ok (N : Nat) (k : Nat) : ∀ c', At (bod Tryz.f73) 122 c' → CutOK Tryz.prog Tryz.f73.ntmps (idsL A73) c' (C73_122 N k) :=
  loop_ok (E := (mkE Tryz.prog ownT (tab73 N) [])) (mkE_ok mix (tab73_ok N)) (cutsIn_ok trivial) (fuel := 200) (by decide +kernel) (by kernel_rfl) I73_122_ok D73_122_ok (B73_122 N) (F73_122 N) (fun _ => rfl) (fun _ _ => rfl) (fun f x => match x with | (x0, x1, x2) => B73_122_eq N f x0 x1 x2) k

noncomputable def I73_250 : Pk → Option (Int × (List Int) × (List Int))
  | ⟨[.sl 0 (none), .v (.int .i64 x0), .sl 1 (none)], [some (.row (Ty.int IntKind.i64) 3 x1), some (.row (Ty.int IntKind.i64) 3 x2)]⟩ => some (x0, x1, x2)
  | _ => none

noncomputable def J73_250 (x : Int × (List Int) × (List Int)) : Pk := ⟨[.sl 0 (none), .v (.int .i64 (x.1)), .sl 1 (none)], [some (.row (Ty.int IntKind.i64) 3 (x.2.1)), some (.row (Ty.int IntKind.i64) 3 (x.2.2))]⟩

theorem I73_250_ok : ∀ pk x, I73_250 pk = some x → pk = J73_250 x := by
  intro pk x h
  unfold I73_250 at h
  split at h <;> first | (cases h; rfl) | cases h

noncomputable def O73_250 (r : (List Int) × (List Int)) : Tr (Ex × Pk) := .ret (.exit 2, ⟨[.sl 0 (none), .sl 1 (none)], [some (.row (Ty.int IntKind.i64) 3 (r.1)), some (.row (Ty.int IntKind.i64) 3 (r.2))]⟩)

noncomputable def D73_250 : Ex × Pk → Option ((List Int) × (List Int))
  | (.exit 2, ⟨[.sl 0 (none), .sl 1 (none)], [some (.row (Ty.int IntKind.i64) 3 x0), some (.row (Ty.int IntKind.i64) 3 x1)]⟩) => some ((x0, x1))
  | _ => none

theorem D73_250_ok : ∀ y r, D73_250 y = some r → ∀ z, (O73_250 r).to z → y = z := by
  intro y r h
  unfold D73_250 at h
  split at h <;> first | (cases h; intro z hz; exact Option.some.inj hz) | cases h

noncomputable def B73_250 (N : Nat) (f : (Int × (List Int) × (List Int)) → Option ((List Int) × (List Int))) : (Int × (List Int) × (List Int)) → Option ((List Int) × (List Int))
  | (x0, x1, x2) =>
  iteP (decide (x0 < (30 : Int))) (
    iteP (decide ((List.length x1 + (1 : Nat)) * (8 : Nat) ≤ (140737488355328 : Nat) ∧ List.length x1 + (1 : Nat) ≤ (140737488355328 : Nat))) (
      Option.bind (f (IntKind.wrap IntKind.i64 (x0 + (1 : Int)), x1 ++ [(5 : Int)], x2)) fun r => some r) (
      none)) (
    some ((x2, x1)))

noncomputable def F73_250 (N : Nat) : Nat → (Int × (List Int) × (List Int)) → Option ((List Int) × (List Int))
  | 0, _ => none
  | k + 1, x => B73_250 N (F73_250 N k) x

noncomputable def C73_250 (N : Nat) (k : Nat) : Cut := ⟨[3, 6, 2], X73_250, tellX I73_250 (F73_250 N k) O73_250⟩

theorem B73_250_eq (N : Nat) (f : (Int × (List Int) × (List Int)) → Option ((List Int) × (List Int))) (x0 : Int) (x1 : (List Int)) (x2 : (List Int)) : (roundEv (mkE Tryz.prog ownT (tab73 N) [(122, (C73_122 N N))]) Tryz.f73.ntmps A73 (loopAt (bod Tryz.f73) 250) 250 ⟨[3, 6, 2], X73_250, tellX I73_250 f O73_250⟩ (J73_250 (x0, x1, x2))).run D73_250 = B73_250 N f (x0, x1, x2) := by kernel_rfl

theorem C73_250_ok (N : Nat) (k : Nat) : ∀ c', At (bod Tryz.f73) 250 c' → CutOK Tryz.prog Tryz.f73.ntmps (idsL A73) c' (C73_250 N k) :=
  loop_ok (E := (mkE Tryz.prog ownT (tab73 N) [(122, (C73_122 N N))])) (mkE_ok mix (tab73_ok N)) (cutsIn_ok ⟨fun c' h => (C73_122_ok N N c' h), trivial⟩) (fuel := 200) (by decide +kernel) (by kernel_rfl) I73_250_ok D73_250_ok (B73_250 N) (F73_250 N) (fun _ => rfl) (fun _ _ => rfl) (fun f x => match x with | (x0, x1, x2) => B73_250_eq N f x0 x1 x2) k

noncomputable def O73 (r : (List Int) × (List Int)) : Tr (Pk) := .ret ⟨[.tup [.sl 0 (none), .sl 1 (none)]], [some (.row (Ty.int IntKind.i64) 3 (r.1)), some (.row (Ty.int IntKind.i64) 3 (r.2))]⟩

noncomputable def D73 : Pk → Option ((List Int) × (List Int))
  | ⟨[.tup [.sl 0 (none), .sl 1 (none)]], [some (.row (Ty.int IntKind.i64) 3 x0), some (.row (Ty.int IntKind.i64) 3 x1)]⟩ => some ((x0, x1))
  | _ => none

theorem D73_ok : ∀ y r, D73 y = some r → ∀ z, (O73 r).to z → y = z := by
  intro y r h
  unfold D73 at h
  split at h <;> first | (cases h; intro z hz; exact Option.some.inj hz) | cases h

noncomputable def F73 (N : Nat) : (Unit) → Option ((List Int) × (List Int))
  | () =>
  Option.bind (F73_122 N N ((0 : Int), [], [])) fun y0 =>
  Option.bind (F73_250 N N ((0 : Int), Prod.fst y0, Prod.snd y0)) fun y1 =>
  some ((Prod.fst y1, Prod.snd y1))

theorem F73_eq (N : Nat)  : (fnEv (mkE Tryz.prog ownT (tab73 N) [(122, (C73_122 N N)), (250, (C73_250 N N))]) Tryz.f73 (J73 ())).run D73 = F73 N () := by kernel_rfl

noncomputable def T73 (N : Nat) : Pk → Tr Pk := tell I73 (F73 N) O73

theorem T73_ok (N : Nat) : FOK Tryz.prog 73 (T73 N) :=
  (tell_ok (E := (mkE Tryz.prog ownT (tab73 N) [(122, (C73_122 N N)), (250, (C73_250 N N))])) (mkE_ok mix (tab73_ok N)) Tryz.func73 (show Tryz.f73.body = some (bod Tryz.f73) by kernel_rfl) (by decide +kernel) (F := F73 N) I73_ok D73_ok (args := A73) (fun _ => by kernel_rfl) (fun _ => by show 0 ≤ Tryz.f73.ntmps; exact of_decide_eq_true (by kernel_rfl)) (cutsIn_ok ⟨fun c' h => (C73_122_ok N N c' h), ⟨fun c' h => (C73_250_ok N N c' h), trivial⟩⟩) (fun x => match x with | () => F73_eq N ))


end Go.Proofs.YteddgkplkjldcaaGreat.Am

set_option linter.unusedVariables false
set_option maxRecDepth 100000
namespace Go.Proofs.YteddgkplkjldcaaGreat.Am
open Go.Am

/-! ## f60: mirador/miradorref08.Order -/

noncomputable def I60 : Pk → Option (Unit)
  | ⟨[], []⟩ => some ()
  | _ => none

noncomputable def J60 (x : Unit) : Pk := ⟨[], []⟩

theorem I60_ok : ∀ pk x, I60 pk = some x → pk = J60 x := by
  intro pk x h
  unfold I60 at h
  split at h <;> first | (cases h; rfl) | cases h

noncomputable def A60 : List TV := []

noncomputable def tab60 (N : Nat) : List (Nat × (Pk → Tr Pk)) := []

theorem tab60_ok (N : Nat) : TabOK Tryz.prog (tab60 N) := trivial

noncomputable def O60 (r : (List Int)) : Tr (Pk) := .ret ⟨[.sl 0 (none)], [some (.row (Ty.int IntKind.i64) 3 (r))]⟩

noncomputable def D60 : Pk → Option ((List Int))
  | ⟨[.sl 0 (none)], [some (.row (Ty.int IntKind.i64) 3 x0)]⟩ => some (x0)
  | _ => none

theorem D60_ok : ∀ y r, D60 y = some r → ∀ z, (O60 r).to z → y = z := by
  intro y r h
  unfold D60 at h
  split at h <;> first | (cases h; intro z hz; exact Option.some.inj hz) | cases h

noncomputable def F60 (N : Nat) : (Unit) → Option ((List Int))
  | () =>
  some ([(16 : Int), (17 : Int), (18 : Int), (0 : Int), (8 : Int), (7 : Int), (9 : Int), (6 : Int), (10 : Int), (5 : Int), (11 : Int), (4 : Int), (12 : Int), (3 : Int), (13 : Int), (2 : Int), (14 : Int), (1 : Int), (15 : Int)])

theorem F60_eq (N : Nat)  : (fnEv (mkE Tryz.prog ownT (tab60 N) []) Tryz.f60 (J60 ())).run D60 = F60 N () := by kernel_rfl

noncomputable def T60 (N : Nat) : Pk → Tr Pk := tell I60 (F60 N) O60

theorem T60_ok (N : Nat) : FOK Tryz.prog 60 (T60 N) :=
  (tell_ok (E := (mkE Tryz.prog ownT (tab60 N) [])) (mkE_ok mix (tab60_ok N)) Tryz.func60 (show Tryz.f60.body = some (bod Tryz.f60) by kernel_rfl) (by decide +kernel) (F := F60 N) I60_ok D60_ok (args := A60) (fun _ => by kernel_rfl) (fun _ => by show 0 ≤ Tryz.f60.ntmps; exact of_decide_eq_true (by kernel_rfl)) (cutsIn_ok trivial) (fun x => match x with | () => F60_eq N ))

/-! ## f99: mirador/miradorref05.Power -/

noncomputable def I99 : Pk → Option (Int)
  | ⟨[.v (.int .i64 x0)], []⟩ => some x0
  | _ => none

noncomputable def J99 (x : Int) : Pk := ⟨[.v (.int .i64 (x))], []⟩

theorem I99_ok : ∀ pk x, I99 pk = some x → pk = J99 x := by
  intro pk x h
  unfold I99 at h
  split at h <;> first | (cases h; rfl) | cases h

noncomputable def A99 : List TV := []

noncomputable def tab99 (N : Nat) : List (Nat × (Pk → Tr Pk)) := []

theorem tab99_ok (N : Nat) : TabOK Tryz.prog (tab99 N) := trivial

def X99_58 : Ex → List Nat
  | .ret => [2]
  | .exit 0 => [3]
  | _ => []

noncomputable def I99_58 : Pk → Option (Int × Int × Int)
  | ⟨[.v (.int .i64 x0), .v (.int .i64 x1), .v (.int .i64 x2)], []⟩ => some (x0, x1, x2)
  | _ => none

noncomputable def J99_58 (x : Int × Int × Int) : Pk := ⟨[.v (.int .i64 (x.1)), .v (.int .i64 (x.2.1)), .v (.int .i64 (x.2.2))], []⟩

theorem I99_58_ok : ∀ pk x, I99_58 pk = some x → pk = J99_58 x := by
  intro pk x h
  unfold I99_58 at h
  split at h <;> first | (cases h; rfl) | cases h

noncomputable def O99_58 (r : Int) : Tr (Ex × Pk) := .ret (.exit 0, ⟨[.v (.int .i64 (r))], []⟩)

noncomputable def D99_58 : Ex × Pk → Option (Int)
  | (.exit 0, ⟨[.v (.int .i64 x0)], []⟩) => some (x0)
  | _ => none

theorem D99_58_ok : ∀ y r, D99_58 y = some r → ∀ z, (O99_58 r).to z → y = z := by
  intro y r h
  unfold D99_58 at h
  split at h <;> first | (cases h; intro z hz; exact Option.some.inj hz) | cases h

noncomputable def B99_58 (N : Nat) (f : (Int × Int × Int) → Option (Int)) : (Int × Int × Int) → Option (Int)
  | (x0, x1, x2) =>
  iteP (decide (x1 < x2)) (
    Option.bind (f (IntKind.wrap IntKind.i64 (x0 * (2 : Int)), IntKind.wrap IntKind.i64 (x1 + (1 : Int)), x2)) fun r => some r) (
    some (x0))

noncomputable def F99_58 (N : Nat) : Nat → (Int × Int × Int) → Option (Int)
  | 0, _ => none
  | k + 1, x => B99_58 N (F99_58 N k) x

noncomputable def C99_58 (N : Nat) (k : Nat) : Cut := ⟨[3, 4, 0], X99_58, tellX I99_58 (F99_58 N k) O99_58⟩

theorem B99_58_eq (N : Nat) (f : (Int × Int × Int) → Option (Int)) (x0 : Int) (x1 : Int) (x2 : Int) : (roundEv (mkE Tryz.prog ownT (tab99 N) []) Tryz.f99.ntmps A99 (loopAt (bod Tryz.f99) 58) 58 ⟨[3, 4, 0], X99_58, tellX I99_58 f O99_58⟩ (J99_58 (x0, x1, x2))).run D99_58 = B99_58 N f (x0, x1, x2) := by kernel_rfl

theorem C99_58_ok (N : Nat) (k : Nat) : ∀ c', At (bod Tryz.f99) 58 c' → CutOK Tryz.prog Tryz.f99.ntmps (idsL A99) c' (C99_58 N k) :=
  loop_ok (E := (mkE Tryz.prog ownT (tab99 N) [])) (mkE_ok mix (tab99_ok N)) (cutsIn_ok trivial) (fuel := 200) (by decide +kernel) (by kernel_rfl) I99_58_ok D99_58_ok (B99_58 N) (F99_58 N) (fun _ => rfl) (fun _ _ => rfl) (fun f x => match x with | (x0, x1, x2) => B99_58_eq N f x0 x1 x2) k

noncomputable def O99 (r : Int) : Tr (Pk) := .ret ⟨[.v (.int .i64 (r))], []⟩

noncomputable def D99 : Pk → Option (Int)
  | ⟨[.v (.int .i64 x0)], []⟩ => some (x0)
  | _ => none

theorem D99_ok : ∀ y r, D99 y = some r → ∀ z, (O99 r).to z → y = z := by
  intro y r h
  unfold D99 at h
  split at h <;> first | (cases h; intro z hz; exact Option.some.inj hz) | cases h

noncomputable def F99 (N : Nat) : (Int) → Option (Int)
  | x0 =>
  Option.bind (F99_58 N N ((1 : Int), (0 : Int), x0)) fun y0 =>
  some (y0)

theorem F99_eq (N : Nat) (x0 : Int) : (fnEv (mkE Tryz.prog ownT (tab99 N) [(58, (C99_58 N N))]) Tryz.f99 (J99 x0)).run D99 = F99 N x0 := by kernel_rfl

noncomputable def T99 (N : Nat) : Pk → Tr Pk := tell I99 (F99 N) O99

theorem T99_ok (N : Nat) : FOK Tryz.prog 99 (T99 N) :=
  (tell_ok (E := (mkE Tryz.prog ownT (tab99 N) [(58, (C99_58 N N))])) (mkE_ok mix (tab99_ok N)) Tryz.func99 (show Tryz.f99.body = some (bod Tryz.f99) by kernel_rfl) (by decide +kernel) (F := F99 N) I99_ok D99_ok (args := A99) (fun _ => by kernel_rfl) (fun _ => by show 1 ≤ Tryz.f99.ntmps; exact of_decide_eq_true (by kernel_rfl)) (cutsIn_ok ⟨fun c' h => (C99_58_ok N N c' h), trivial⟩) (fun x => match x with | x0 => F99_eq N x0))

/-! ## f61: mirador/miradorref05.Check -/

noncomputable def I61 : Pk → Option ((List Int))
  | ⟨[.ro (.int .i64) x0], []⟩ => some x0
  | _ => none

noncomputable def J61 (x : (List Int)) : Pk := ⟨[.ro (.int .i64) (x)], []⟩

theorem I61_ok : ∀ pk x, I61 pk = some x → pk = J61 x := by
  intro pk x h
  unfold I61 at h
  split at h <;> first | (cases h; rfl) | cases h

noncomputable def A61 : List TV := []

noncomputable def tab61 (N : Nat) : List (Nat × (Pk → Tr Pk)) := [(99, T99 N)]

theorem tab61_ok (N : Nat) : TabOK Tryz.prog (tab61 N) := ⟨T99_ok N, trivial⟩

def X61_122 : Ex → List Nat
  | .ret => [2, 3]
  | .exit 0 => [4]
  | _ => []

noncomputable def I61_122 : Pk → Option ((List Int) × Int × Int)
  | ⟨[.ro (Ty.int IntKind.i64) x0, .v (.int .i64 x1), .v (.int .i64 x2)], []⟩ => some (x0, x1, x2)
  | _ => none

noncomputable def J61_122 (x : (List Int) × Int × Int) : Pk := ⟨[.ro (Ty.int IntKind.i64) (x.1), .v (.int .i64 (x.2.1)), .v (.int .i64 (x.2.2))], []⟩

theorem I61_122_ok : ∀ pk x, I61_122 pk = some x → pk = J61_122 x := by
  intro pk x h
  unfold I61_122 at h
  split at h <;> first | (cases h; rfl) | cases h

noncomputable def O61_122 (r : ((Int × Int) ⊕ (Int))) : Tr (Ex × Pk) := .sum _ _ r (fun u => .ret (.ret, ⟨[.v (.int .i64 (u.1)), .v (.int .i64 (u.2))], []⟩)) (fun v => .ret (.exit 0, ⟨[.v (.int .i64 (v))], []⟩))

noncomputable def D61_122 : Ex × Pk → Option (((Int × Int) ⊕ (Int)))
  | (.ret, ⟨[.v (.int .i64 x0), .v (.int .i64 x1)], []⟩) => some (.inl ((x0, x1)))
  | (.exit 0, ⟨[.v (.int .i64 x0)], []⟩) => some (.inr (x0))
  | _ => none

theorem D61_122_ok : ∀ y r, D61_122 y = some r → ∀ z, (O61_122 r).to z → y = z := by
  intro y r h
  unfold D61_122 at h
  split at h <;> first | (cases h; intro z hz; exact Option.some.inj hz) | cases h

noncomputable def B61_122 (N : Nat) (f : ((List Int) × Int × Int) → Option (((Int × Int) ⊕ (Int)))) : ((List Int) × Int × Int) → Option (((Int × Int) ⊕ (Int)))
  | (x0, x1, x2) =>
  iteP (decide (x1 < (↑(List.length x0) : Int))) (
    iteP (within x1 (List.length x0)) (
      Option.bind (x0[Int.toNat x1]?) fun y0 =>
      iteP (decide (y0 < (0 : Int))) (
        some (.inl (((0 : Int), (50 : Int))))) (
        iteP (within x1 (List.length x0)) (
          Option.bind (x0[Int.toNat x1]?) fun y1 =>
          iteP (decide (y1 > (15 : Int))) (
            some (.inl (((0 : Int), (50 : Int))))) (
            iteP (within x1 (List.length x0)) (
              Option.bind (x0[Int.toNat x1]?) fun y2 =>
              iteP (decide (y2 > (0 : Int))) (
                iteP (within x1 (List.length x0)) (
                  Option.bind (x0[Int.toNat x1]?) fun y3 =>
                  Option.bind (F99 N (IntKind.wrap IntKind.i64 ((15 : Int) - y3))) fun y4 =>
                  Option.bind (f (x0, IntKind.wrap IntKind.i64 (x1 + (1 : Int)), IntKind.wrap IntKind.i64 (x2 - y4))) fun r => match r with | .inl (y) => some (.inl (y)) | .inr (y) => some (.inr (y))) (
                  none)) (
                Option.bind (f (x0, IntKind.wrap IntKind.i64 (x1 + (1 : Int)), x2)) fun r => match r with | .inl (y) => some (.inl (y)) | .inr (y) => some (.inr (y)))) (
              none))) (
          none))) (
      none)) (
    some (.inr (x2)))

noncomputable def F61_122 (N : Nat) : Nat → ((List Int) × Int × Int) → Option (((Int × Int) ⊕ (Int)))
  | 0, _ => none
  | k + 1, x => B61_122 N (F61_122 N k) x

noncomputable def C61_122 (N : Nat) (k : Nat) : Cut := ⟨[0, 5, 4], X61_122, tellX I61_122 (F61_122 N k) O61_122⟩

theorem B61_122_eq (N : Nat) (f : ((List Int) × Int × Int) → Option (((Int × Int) ⊕ (Int)))) (x0 : (List Int)) (x1 : Int) (x2 : Int) : (roundEv (mkE Tryz.prog ownT (tab61 N) []) Tryz.f61.ntmps A61 (loopAt (bod Tryz.f61) 122) 122 ⟨[0, 5, 4], X61_122, tellX I61_122 f O61_122⟩ (J61_122 (x0, x1, x2))).run D61_122 = B61_122 N f (x0, x1, x2) := by kernel_rfl

theorem C61_122_ok (N : Nat) (k : Nat) : ∀ c', At (bod Tryz.f61) 122 c' → CutOK Tryz.prog Tryz.f61.ntmps (idsL A61) c' (C61_122 N k) :=
  loop_ok (E := (mkE Tryz.prog ownT (tab61 N) [])) (mkE_ok mix (tab61_ok N)) (cutsIn_ok trivial) (fuel := 200) (by decide +kernel) (by kernel_rfl) I61_122_ok D61_122_ok (B61_122 N) (F61_122 N) (fun _ => rfl) (fun _ _ => rfl) (fun f x => match x with | (x0, x1, x2) => B61_122_eq N f x0 x1 x2) k

noncomputable def O61 (r : Int × Int) : Tr (Pk) := .ret ⟨[.tup [.v (.int .i64 (r.1)), .v (.int .i64 (r.2))]], []⟩

noncomputable def D61 : Pk → Option (Int × Int)
  | ⟨[.tup [.v (.int .i64 x0), .v (.int .i64 x1)]], []⟩ => some ((x0, x1))
  | _ => none

theorem D61_ok : ∀ y r, D61 y = some r → ∀ z, (O61 r).to z → y = z := by
  intro y r h
  unfold D61 at h
  split at h <;> first | (cases h; intro z hz; exact Option.some.inj hz) | cases h

noncomputable def F61 (N : Nat) : ((List Int)) → Option (Int × Int)
  | x0 =>
  iteP (decide ((↑(List.length x0) : Int) > (320 : Int))) (
    some (((0 : Int), (50 : Int)))) (
    Option.bind (F61_122 N N (x0, (0 : Int), (32768 : Int))) fun y0 =>
    match y0 with
    | .inl y1 =>
      some ((Prod.fst y1, Prod.snd y1))
    | .inr y1 =>
      iteP (decide (y1 < (0 : Int))) (
        some (((0 : Int), (50 : Int)))) (
        some ((y1, (0 : Int)))))

theorem F61_eq (N : Nat) (x0 : (List Int)) : (fnEv (mkE Tryz.prog ownT (tab61 N) [(122, (C61_122 N N))]) Tryz.f61 (J61 x0)).run D61 = F61 N x0 := by kernel_rfl

noncomputable def T61 (N : Nat) : Pk → Tr Pk := tell I61 (F61 N) O61

theorem T61_ok (N : Nat) : FOK Tryz.prog 61 (T61 N) :=
  (tell_ok (E := (mkE Tryz.prog ownT (tab61 N) [(122, (C61_122 N N))])) (mkE_ok mix (tab61_ok N)) Tryz.func61 (show Tryz.f61.body = some (bod Tryz.f61) by kernel_rfl) (by decide +kernel) (F := F61 N) I61_ok D61_ok (args := A61) (fun _ => by kernel_rfl) (fun _ => by show 1 ≤ Tryz.f61.ntmps; exact of_decide_eq_true (by kernel_rfl)) (cutsIn_ok ⟨fun c' h => (C61_122_ok N N c' h), trivial⟩) (fun x => match x with | x0 => F61_eq N x0))

/-! ## f62: mirador/miradorref05.Codes -/

noncomputable def I62 : Pk → Option ((List Int))
  | ⟨[.ro (.int .i64) x0], []⟩ => some x0
  | _ => none

noncomputable def J62 (x : (List Int)) : Pk := ⟨[.ro (.int .i64) (x)], []⟩

theorem I62_ok : ∀ pk x, I62 pk = some x → pk = J62 x := by
  intro pk x h
  unfold I62 at h
  split at h <;> first | (cases h; rfl) | cases h

noncomputable def A62 : List TV := []

noncomputable def tab62 (N : Nat) : List (Nat × (Pk → Tr Pk)) := []

theorem tab62_ok (N : Nat) : TabOK Tryz.prog (tab62 N) := trivial

def X62_15654 : Ex → List Nat
  | .ret => [2]
  | .exit 2 => [5, 4, 0, 3]
  | .exit 1 => [5, 4, 0, 3]
  | .exit 0 => [3]
  | _ => []

def X62_122 : Ex → List Nat
  | .ret => [2]
  | .exit 0 => [3]
  | _ => []

noncomputable def I62_122 : Pk → Option (Int × (List Int) × Int × (List (Int × (Int × Unit))))
  | ⟨[.v (.int .i64 x0), .ro (Ty.int IntKind.i64) x1, .sl 0 (none), .v (.int .i64 x2)], [some (.row (Ty.cons (Ty.int IntKind.i64) (Ty.cons (Ty.int IntKind.i64) Ty.unit)) 105 x3)]⟩ => some (x0, x1, x2, x3)
  | _ => none

noncomputable def J62_122 (x : Int × (List Int) × Int × (List (Int × (Int × Unit)))) : Pk := ⟨[.v (.int .i64 (x.1)), .ro (Ty.int IntKind.i64) (x.2.1), .sl 0 (none), .v (.int .i64 (x.2.2.1))], [some (.row (Ty.cons (Ty.int IntKind.i64) (Ty.cons (Ty.int IntKind.i64) Ty.unit)) 105 (x.2.2.2))]⟩

theorem I62_122_ok : ∀ pk x, I62_122 pk = some x → pk = J62_122 x := by
  intro pk x h
  unfold I62_122 at h
  split at h <;> first | (cases h; rfl) | cases h

noncomputable def I62_15654 : Pk → Option (Int × Int × (List Int) × Int × (List (Int × (Int × Unit))))
  | ⟨[.v (.int .i64 x0), .v (.int .i64 x1), .ro (Ty.int IntKind.i64) x2, .sl 0 (none), .v (.int .i64 x3)], [some (.row (Ty.cons (Ty.int IntKind.i64) (Ty.cons (Ty.int IntKind.i64) Ty.unit)) 105 x4)]⟩ => some (x0, x1, x2, x3, x4)
  | _ => none

noncomputable def J62_15654 (x : Int × Int × (List Int) × Int × (List (Int × (Int × Unit)))) : Pk := ⟨[.v (.int .i64 (x.1)), .v (.int .i64 (x.2.1)), .ro (Ty.int IntKind.i64) (x.2.2.1), .sl 0 (none), .v (.int .i64 (x.2.2.2.1))], [some (.row (Ty.cons (Ty.int IntKind.i64) (Ty.cons (Ty.int IntKind.i64) Ty.unit)) 105 (x.2.2.2.2))]⟩

theorem I62_15654_ok : ∀ pk x, I62_15654 pk = some x → pk = J62_15654 x := by
  intro pk x h
  unfold I62_15654 at h
  split at h <;> first | (cases h; rfl) | cases h

noncomputable def O62_15654 (r : Int × Int × (List Int) × (List (Int × (Int × Unit)))) : Tr (Ex × Pk) := .ret (.exit 2, ⟨[.v (.int .i64 (r.1)), .v (.int .i64 (r.2.1)), .ro (Ty.int IntKind.i64) (r.2.2.1), .sl 0 (none)], [some (.row (Ty.cons (Ty.int IntKind.i64) (Ty.cons (Ty.int IntKind.i64) Ty.unit)) 105 (r.2.2.2))]⟩)

noncomputable def D62_15654 : Ex × Pk → Option (Int × Int × (List Int) × (List (Int × (Int × Unit))))
  | (.exit 2, ⟨[.v (.int .i64 x0), .v (.int .i64 x1), .ro (Ty.int IntKind.i64) x2, .sl 0 (none)], [some (.row (Ty.cons (Ty.int IntKind.i64) (Ty.cons (Ty.int IntKind.i64) Ty.unit)) 105 x3)]⟩) => some ((x0, x1, x2, x3))
  | _ => none

theorem D62_15654_ok : ∀ y r, D62_15654 y = some r → ∀ z, (O62_15654 r).to z → y = z := by
  intro y r h
  unfold D62_15654 at h
  split at h <;> first | (cases h; intro z hz; exact Option.some.inj hz) | cases h

noncomputable def B62_15654 (N : Nat) (f : (Int × Int × (List Int) × Int × (List (Int × (Int × Unit)))) → Option (Int × Int × (List Int) × (List (Int × (Int × Unit))))) : (Int × Int × (List Int) × Int × (List (Int × (Int × Unit)))) → Option (Int × Int × (List Int) × (List (Int × (Int × Unit))))
  | (x0, x1, x2, x3, x4) =>
  iteP (decide (x1 < (↑(List.length x2) : Int))) (
    iteP (within x1 (List.length x2)) (
      Option.bind (x2[Int.toNat x1]?) fun y0 =>
      iteP (y0 == x3) (
        iteP (within x1 (List.length x4)) (
          Option.bind (x4[Int.toNat x1]?) fun y1 =>
          Option.bind (f (IntKind.wrap IntKind.i64 (x0 + (1 : Int)), IntKind.wrap IntKind.i64 (x1 + (1 : Int)), x2, x3, List.set x4 (Int.toNat x1) (x0, x3, ()))) fun r => some r) (
          none)) (
        Option.bind (f (x0, IntKind.wrap IntKind.i64 (x1 + (1 : Int)), x2, x3, x4)) fun r => some r)) (
      none)) (
    some ((x3, x0, x2, x4)))

noncomputable def F62_15654 (N : Nat) : Nat → (Int × Int × (List Int) × Int × (List (Int × (Int × Unit)))) → Option (Int × Int × (List Int) × (List (Int × (Int × Unit))))
  | 0, _ => none
  | k + 1, x => B62_15654 N (F62_15654 N k) x

noncomputable def C62_15654 (N : Nat) (k : Nat) : Cut := ⟨[4, 6, 0, 3, 5], X62_15654, tellX I62_15654 (F62_15654 N k) O62_15654⟩

theorem B62_15654_eq (N : Nat) (f : (Int × Int × (List Int) × Int × (List (Int × (Int × Unit)))) → Option (Int × Int × (List Int) × (List (Int × (Int × Unit))))) (x0 : Int) (x1 : Int) (x2 : (List Int)) (x3 : Int) (x4 : (List (Int × (Int × Unit)))) : (roundEv (mkE Tryz.prog ownT (tab62 N) []) Tryz.f62.ntmps A62 (loopAt (bod Tryz.f62) 15654) 15654 ⟨[4, 6, 0, 3, 5], X62_15654, tellX I62_15654 f O62_15654⟩ (J62_15654 (x0, x1, x2, x3, x4))).run D62_15654 = B62_15654 N f (x0, x1, x2, x3, x4) := by kernel_rfl

theorem C62_15654_ok (N : Nat) (k : Nat) : ∀ c', At (bod Tryz.f62) 15654 c' → CutOK Tryz.prog Tryz.f62.ntmps (idsL A62) c' (C62_15654 N k) :=
  loop_ok (E := (mkE Tryz.prog ownT (tab62 N) [])) (mkE_ok mix (tab62_ok N)) (cutsIn_ok trivial) (fuel := 200) (by decide +kernel) (by kernel_rfl) I62_15654_ok D62_15654_ok (B62_15654 N) (F62_15654 N) (fun _ => rfl) (fun _ _ => rfl) (fun f x => match x with | (x0, x1, x2, x3, x4) => B62_15654_eq N f x0 x1 x2 x3 x4) k

noncomputable def O62_122 (r : (List (Int × (Int × Unit)))) : Tr (Ex × Pk) := .ret (.exit 0, ⟨[.sl 0 (none)], [some (.row (Ty.cons (Ty.int IntKind.i64) (Ty.cons (Ty.int IntKind.i64) Ty.unit)) 105 (r))]⟩)

noncomputable def D62_122 : Ex × Pk → Option ((List (Int × (Int × Unit))))
  | (.exit 0, ⟨[.sl 0 (none)], [some (.row (Ty.cons (Ty.int IntKind.i64) (Ty.cons (Ty.int IntKind.i64) Ty.unit)) 105 x0)]⟩) => some (x0)
  | _ => none

theorem D62_122_ok : ∀ y r, D62_122 y = some r → ∀ z, (O62_122 r).to z → y = z := by
  intro y r h
  unfold D62_122 at h
  split at h <;> first | (cases h; intro z hz; exact Option.some.inj hz) | cases h

noncomputable def B62_122 (N : Nat) (f : (Int × (List Int) × Int × (List (Int × (Int × Unit)))) → Option ((List (Int × (Int × Unit))))) : (Int × (List Int) × Int × (List (Int × (Int × Unit)))) → Option ((List (Int × (Int × Unit))))
  | (x0, x1, x2, x3) =>
  iteP (decide (x2 ≤ (15 : Int))) (
    Option.bind (F62_15654 N N (IntKind.wrap IntKind.i64 (x0 * (2 : Int)), (0 : Int), x1, x2, x3)) fun y0 =>
    Option.bind (f (Prod.fst (Prod.snd y0), Prod.fst (Prod.snd (Prod.snd y0)), IntKind.wrap IntKind.i64 (Prod.fst y0 + (1 : Int)), Prod.snd (Prod.snd (Prod.snd y0)))) fun r => some r) (
    some (x3))

noncomputable def F62_122 (N : Nat) : Nat → (Int × (List Int) × Int × (List (Int × (Int × Unit)))) → Option ((List (Int × (Int × Unit))))
  | 0, _ => none
  | k + 1, x => B62_122 N (F62_122 N k) x

noncomputable def C62_122 (N : Nat) (k : Nat) : Cut := ⟨[4, 0, 3, 5], X62_122, tellX I62_122 (F62_122 N k) O62_122⟩

theorem B62_122_eq (N : Nat) (f : (Int × (List Int) × Int × (List (Int × (Int × Unit)))) → Option ((List (Int × (Int × Unit))))) (x0 : Int) (x1 : (List Int)) (x2 : Int) (x3 : (List (Int × (Int × Unit)))) : (roundEv (mkE Tryz.prog ownT (tab62 N) [(15654, (C62_15654 N N))]) Tryz.f62.ntmps A62 (loopAt (bod Tryz.f62) 122) 122 ⟨[4, 0, 3, 5], X62_122, tellX I62_122 f O62_122⟩ (J62_122 (x0, x1, x2, x3))).run D62_122 = B62_122 N f (x0, x1, x2, x3) := by kernel_rfl

theorem C62_122_ok (N : Nat) (k : Nat) : ∀ c', At (bod Tryz.f62) 122 c' → CutOK Tryz.prog Tryz.f62.ntmps (idsL A62) c' (C62_122 N k) :=
  loop_ok (E := (mkE Tryz.prog ownT (tab62 N) [(15654, (C62_15654 N N))])) (mkE_ok mix (tab62_ok N)) (cutsIn_ok ⟨fun c' h => (C62_15654_ok N N c' h), trivial⟩) (fuel := 200) (by decide +kernel) (by kernel_rfl) I62_122_ok D62_122_ok (B62_122 N) (F62_122 N) (fun _ => rfl) (fun _ _ => rfl) (fun f x => match x with | (x0, x1, x2, x3) => B62_122_eq N f x0 x1 x2 x3) k

noncomputable def O62 (r : (List (Int × (Int × Unit)))) : Tr (Pk) := .ret ⟨[.sl 0 (none)], [some (.row (Ty.cons (Ty.int IntKind.i64) (Ty.cons (Ty.int IntKind.i64) Ty.unit)) 105 (r))]⟩

noncomputable def D62 : Pk → Option ((List (Int × (Int × Unit))))
  | ⟨[.sl 0 (none)], [some (.row (Ty.cons (Ty.int IntKind.i64) (Ty.cons (Ty.int IntKind.i64) Ty.unit)) 105 x0)]⟩ => some (x0)
  | _ => none

theorem D62_ok : ∀ y r, D62 y = some r → ∀ z, (O62 r).to z → y = z := by
  intro y r h
  unfold D62 at h
  split at h <;> first | (cases h; intro z hz; exact Option.some.inj hz) | cases h

noncomputable def F62 (N : Nat) : ((List Int)) → Option ((List (Int × (Int × Unit))))
  | x0 =>
  iteP (decide ((0 : Int) ≤ (↑(List.length x0) : Int) ∧ (↑(List.length x0) : Int) ≤ (↑(List.length x0) : Int) ∧ (↑(List.length x0) : Int) * (16 : Int) ≤ (140737488355328 : Int) ∧ (↑(List.length x0) : Int) ≤ (140737488355328 : Int))) (
    Option.bind (F62_122 N N ((0 : Int), x0, (1 : Int), List.replicate (Int.toNat (↑(List.length x0) : Int)) ((0 : Int), (0 : Int), ()))) fun y0 =>
    some (y0)) (
    none)

theorem F62_eq (N : Nat) (x0 : (List Int)) : (fnEv (mkE Tryz.prog ownT (tab62 N) [(15654, (C62_15654 N N)), (122, (C62_122 N N))]) Tryz.f62 (J62 x0)).run D62 = F62 N x0 := by kernel_rfl

noncomputable def T62 (N : Nat) : Pk → Tr Pk := tell I62 (F62 N) O62

theorem T62_ok (N : Nat) : FOK Tryz.prog 62 (T62 N) :=
  (tell_ok (E := (mkE Tryz.prog ownT (tab62 N) [(15654, (C62_15654 N N)), (122, (C62_122 N N))])) (mkE_ok mix (tab62_ok N)) Tryz.func62 (show Tryz.f62.body = some (bod Tryz.f62) by kernel_rfl) (by decide +kernel) (F := F62 N) I62_ok D62_ok (args := A62) (fun _ => by kernel_rfl) (fun _ => by show 1 ≤ Tryz.f62.ntmps; exact of_decide_eq_true (by kernel_rfl)) (cutsIn_ok ⟨fun c' h => (C62_15654_ok N N c' h), ⟨fun c' h => (C62_122_ok N N c' h), trivial⟩⟩) (fun x => match x with | x0 => F62_eq N x0))

/-! ## f157: mirador/miradorref05.Bit -/

noncomputable def I157 : Pk → Option (Int × Int × Int)
  | ⟨[.agg [.v (.int .i64 x0), .v (.int .i64 x1)], .v (.int .i64 x2)], []⟩ => some (x0, x1, x2)
  | _ => none

noncomputable def J157 (x : Int × Int × Int) : Pk := ⟨[.agg [.v (.int .i64 (x.1)), .v (.int .i64 (x.2.1))], .v (.int .i64 (x.2.2))], []⟩

theorem I157_ok : ∀ pk x, I157 pk = some x → pk = J157 x := by
  intro pk x h
  unfold I157 at h
  split at h <;> first | (cases h; rfl) | cases h

noncomputable def A157 : List TV := []

noncomputable def tab157 (N : Nat) : List (Nat × (Pk → Tr Pk)) := [(99, T99 N)]

theorem tab157_ok (N : Nat) : TabOK Tryz.prog (tab157 N) := ⟨T99_ok N, trivial⟩

noncomputable def O157 (r : Bool) : Tr (Pk) := .ret ⟨[.v (.bool (r))], []⟩

noncomputable def D157 : Pk → Option (Bool)
  | ⟨[.v (.bool x0)], []⟩ => some (x0)
  | _ => none

theorem D157_ok : ∀ y r, D157 y = some r → ∀ z, (O157 r).to z → y = z := by
  intro y r h
  unfold D157 at h
  split at h <;> first | (cases h; intro z hz; exact Option.some.inj hz) | cases h

noncomputable def F157 (N : Nat) : (Int × Int × Int) → Option (Bool)
  | (x0, x1, x2) =>
  Option.bind (F99 N (IntKind.wrap IntKind.i64 (IntKind.wrap IntKind.i64 (x1 - (1 : Int)) - x2))) fun y0 =>
  iteP (decide (y0 = (0 : Int))) (
    none) (
    some (Int.tmod (IntKind.wrap IntKind.i64 (Int.tdiv x0 y0)) (2 : Int) == (1 : Int)))

theorem F157_eq (N : Nat) (x0 : Int) (x1 : Int) (x2 : Int) : (fnEv (mkE Tryz.prog ownT (tab157 N) []) Tryz.f157 (J157 (x0, x1, x2))).run D157 = F157 N (x0, x1, x2) := by kernel_rfl

noncomputable def T157 (N : Nat) : Pk → Tr Pk := tell I157 (F157 N) O157

theorem T157_ok (N : Nat) : FOK Tryz.prog 157 (T157 N) :=
  (tell_ok (E := (mkE Tryz.prog ownT (tab157 N) [])) (mkE_ok mix (tab157_ok N)) Tryz.func157 (show Tryz.f157.body = some (bod Tryz.f157) by kernel_rfl) (by decide +kernel) (F := F157 N) I157_ok D157_ok (args := A157) (fun _ => by kernel_rfl) (fun _ => by show 2 ≤ Tryz.f157.ntmps; exact of_decide_eq_true (by kernel_rfl)) (cutsIn_ok trivial) (fun x => match x with | (x0, x1, x2) => F157_eq N x0 x1 x2))

/-! ## f129: mirador/miradorref05.begins -/

noncomputable def I129 : Pk → Option (Int × Int × (List Bool))
  | ⟨[.agg [.v (.int .i64 x0), .v (.int .i64 x1)], .ro .bool x2], []⟩ => some (x0, x1, x2)
  | _ => none

noncomputable def J129 (x : Int × Int × (List Bool)) : Pk := ⟨[.agg [.v (.int .i64 (x.1)), .v (.int .i64 (x.2.1))], .ro .bool (x.2.2)], []⟩

theorem I129_ok : ∀ pk x, I129 pk = some x → pk = J129 x := by
  intro pk x h
  unfold I129 at h
  split at h <;> first | (cases h; rfl) | cases h

noncomputable def A129 : List TV := []

noncomputable def tab129 (N : Nat) : List (Nat × (Pk → Tr Pk)) := [(157, T157 N)]

theorem tab129_ok (N : Nat) : TabOK Tryz.prog (tab129 N) := ⟨T157_ok N, trivial⟩

def X129_58 : Ex → List Nat
  | .ret => [4]
  | .exit 0 => []
  | _ => []

noncomputable def I129_58 : Pk → Option ((List Bool) × Int × Int × Int)
  | ⟨[.adr 0 [], .ro (Ty.bool) x0, .v (.int .i64 x1)], [some (.var (.agg [.v (.int .i64 x2), .v (.int .i64 x3)]))]⟩ => some (x0, x1, x2, x3)
  | _ => none

noncomputable def J129_58 (x : (List Bool) × Int × Int × Int) : Pk := ⟨[.adr 0 [], .ro (Ty.bool) (x.1), .v (.int .i64 (x.2.1))], [some (.var (.agg [.v (.int .i64 (x.2.2.1)), .v (.int .i64 (x.2.2.2))]))]⟩

theorem I129_58_ok : ∀ pk x, I129_58 pk = some x → pk = J129_58 x := by
  intro pk x h
  unfold I129_58 at h
  split at h <;> first | (cases h; rfl) | cases h

noncomputable def O129_58 (r : ((Bool) ⊕ (Unit))) : Tr (Ex × Pk) := .sum _ _ r (fun u => .ret (.ret, ⟨[.v (.bool (u))], []⟩)) (fun v => .ret (.exit 0, ⟨[], []⟩))

noncomputable def D129_58 : Ex × Pk → Option (((Bool) ⊕ (Unit)))
  | (.ret, ⟨[.v (.bool x0)], []⟩) => some (.inl (x0))
  | (.exit 0, ⟨[], []⟩) => some (.inr (()))
  | _ => none

theorem D129_58_ok : ∀ y r, D129_58 y = some r → ∀ z, (O129_58 r).to z → y = z := by
  intro y r h
  unfold D129_58 at h
  split at h <;> first | (cases h; intro z hz; exact Option.some.inj hz) | cases h

noncomputable def B129_58 (N : Nat) (f : ((List Bool) × Int × Int × Int) → Option (((Bool) ⊕ (Unit)))) : ((List Bool) × Int × Int × Int) → Option (((Bool) ⊕ (Unit)))
  | (x0, x1, x2, x3) =>
  iteP (decide (x1 < (↑(List.length x0) : Int))) (
    Option.bind (F157 N (x2, x3, x1)) fun y0 =>
    iteP (within x1 (List.length x0)) (
      Option.bind (x0[Int.toNat x1]?) fun y1 =>
      iteP (!y0 == y1) (
        some (.inl (false))) (
        Option.bind (f (x0, IntKind.wrap IntKind.i64 (x1 + (1 : Int)), x2, x3)) fun r => match r with | .inl (y) => some (.inl (y)) | .inr (y) => some (.inr (y)))) (
      none)) (
    some (.inr (())))

noncomputable def F129_58 (N : Nat) : Nat → ((List Bool) × Int × Int × Int) → Option (((Bool) ⊕ (Unit)))
  | 0, _ => none
  | k + 1, x => B129_58 N (F129_58 N k) x

noncomputable def C129_58 (N : Nat) (k : Nat) : Cut := ⟨[2, 1, 5], X129_58, tellX I129_58 (F129_58 N k) O129_58⟩

theorem B129_58_eq (N : Nat) (f : ((List Bool) × Int × Int × Int) → Option (((Bool) ⊕ (Unit)))) (x0 : (List Bool)) (x1 : Int) (x2 : Int) (x3 : Int) : (roundEv (mkE Tryz.prog ownT (tab129 N) []) Tryz.f129.ntmps A129 (loopAt (bod Tryz.f129) 58) 58 ⟨[2, 1, 5], X129_58, tellX I129_58 f O129_58⟩ (J129_58 (x0, x1, x2, x3))).run D129_58 = B129_58 N f (x0, x1, x2, x3) := by kernel_rfl

theorem C129_58_ok (N : Nat) (k : Nat) : ∀ c', At (bod Tryz.f129) 58 c' → CutOK Tryz.prog Tryz.f129.ntmps (idsL A129) c' (C129_58 N k) :=
  loop_ok (E := (mkE Tryz.prog ownT (tab129 N) [])) (mkE_ok mix (tab129_ok N)) (cutsIn_ok trivial) (fuel := 200) (by decide +kernel) (by kernel_rfl) I129_58_ok D129_58_ok (B129_58 N) (F129_58 N) (fun _ => rfl) (fun _ _ => rfl) (fun f x => match x with | (x0, x1, x2, x3) => B129_58_eq N f x0 x1 x2 x3) k

noncomputable def O129 (r : Bool) : Tr (Pk) := .ret ⟨[.v (.bool (r))], []⟩

noncomputable def D129 : Pk → Option (Bool)
  | ⟨[.v (.bool x0)], []⟩ => some (x0)
  | _ => none

theorem D129_ok : ∀ y r, D129 y = some r → ∀ z, (O129 r).to z → y = z := by
  intro y r h
  unfold D129 at h
  split at h <;> first | (cases h; intro z hz; exact Option.some.inj hz) | cases h

noncomputable def F129 (N : Nat) : (Int × Int × (List Bool)) → Option (Bool)
  | (x0, x1, x2) =>
  iteP (decide (x1 < (↑(List.length x2) : Int))) (
    some (false)) (
    Option.bind (F129_58 N N (x2, (0 : Int), x0, x1)) fun y0 =>
    match y0 with
    | .inl y1 =>
      some (y1)
    | .inr y1 =>
      some (true))

theorem F129_eq (N : Nat) (x0 : Int) (x1 : Int) (x2 : (List Bool)) : (fnEv (mkE Tryz.prog ownT (tab129 N) [(58, (C129_58 N N))]) Tryz.f129 (J129 (x0, x1, x2))).run D129 = F129 N (x0, x1, x2) := by kernel_rfl

noncomputable def T129 (N : Nat) : Pk → Tr Pk := tell I129 (F129 N) O129

theorem T129_ok (N : Nat) : FOK Tryz.prog 129 (T129 N) :=
  (tell_ok (E := (mkE Tryz.prog ownT (tab129 N) [(58, (C129_58 N N))])) (mkE_ok mix (tab129_ok N)) Tryz.func129 (show Tryz.f129.body = some (bod Tryz.f129) by kernel_rfl) (by decide +kernel) (F := F129 N) I129_ok D129_ok (args := A129) (fun _ => by kernel_rfl) (fun _ => by show 2 ≤ Tryz.f129.ntmps; exact of_decide_eq_true (by kernel_rfl)) (cutsIn_ok ⟨fun c' h => (C129_58_ok N N c' h), trivial⟩) (fun x => match x with | (x0, x1, x2) => F129_eq N x0 x1 x2))

/-! ## f100: mirador/miradorref05.Find -/

noncomputable def I100 : Pk → Option ((List (Int × (Int × Unit))) × (List Bool))
  | ⟨[.ro (.cons (.int .i64) (.cons (.int .i64) .unit)) x0, .ro .bool x1], []⟩ => some (x0, x1)
  | _ => none

noncomputable def J100 (x : (List (Int × (Int × Unit))) × (List Bool)) : Pk := ⟨[.ro (.cons (.int .i64) (.cons (.int .i64) .unit)) (x.1), .ro .bool (x.2)], []⟩

theorem I100_ok : ∀ pk x, I100 pk = some x → pk = J100 x := by
  intro pk x h
  unfold I100 at h
  split at h <;> first | (cases h; rfl) | cases h

noncomputable def A100 : List TV := []

noncomputable def tab100 (N : Nat) : List (Nat × (Pk → Tr Pk)) := [(129, T129 N)]

theorem tab100_ok (N : Nat) : TabOK Tryz.prog (tab100 N) := ⟨T129_ok N, trivial⟩

def X100_58 : Ex → List Nat
  | .ret => [4]
  | .exit 0 => [5]
  | _ => []

noncomputable def I100_58 : Pk → Option (Int × Int × (List Bool) × (List (Int × (Int × Unit))))
  | ⟨[.v (.int .i64 x0), .v (.int .i64 x1), .ro (Ty.bool) x2, .ro (Ty.cons (Ty.int IntKind.i64) (Ty.cons (Ty.int IntKind.i64) Ty.unit)) x3], []⟩ => some (x0, x1, x2, x3)
  | _ => none

noncomputable def J100_58 (x : Int × Int × (List Bool) × (List (Int × (Int × Unit)))) : Pk := ⟨[.v (.int .i64 (x.1)), .v (.int .i64 (x.2.1)), .ro (Ty.bool) (x.2.2.1), .ro (Ty.cons (Ty.int IntKind.i64) (Ty.cons (Ty.int IntKind.i64) Ty.unit)) (x.2.2.2)], []⟩

theorem I100_58_ok : ∀ pk x, I100_58 pk = some x → pk = J100_58 x := by
  intro pk x h
  unfold I100_58 at h
  split at h <;> first | (cases h; rfl) | cases h

noncomputable def O100_58 (r : ((Int) ⊕ (Int))) : Tr (Ex × Pk) := .sum _ _ r (fun u => .ret (.ret, ⟨[.v (.int .i64 (u))], []⟩)) (fun v => .ret (.exit 0, ⟨[.v (.int .i64 (v))], []⟩))

noncomputable def D100_58 : Ex × Pk → Option (((Int) ⊕ (Int)))
  | (.ret, ⟨[.v (.int .i64 x0)], []⟩) => some (.inl (x0))
  | (.exit 0, ⟨[.v (.int .i64 x0)], []⟩) => some (.inr (x0))
  | _ => none

theorem D100_58_ok : ∀ y r, D100_58 y = some r → ∀ z, (O100_58 r).to z → y = z := by
  intro y r h
  unfold D100_58 at h
  split at h <;> first | (cases h; intro z hz; exact Option.some.inj hz) | cases h

noncomputable def B100_58 (N : Nat) (f : (Int × Int × (List Bool) × (List (Int × (Int × Unit)))) → Option (((Int) ⊕ (Int)))) : (Int × Int × (List Bool) × (List (Int × (Int × Unit)))) → Option (((Int) ⊕ (Int)))
  | (x0, x1, x2, x3) =>
  iteP (decide (x0 < (↑(List.length x3) : Int))) (
    iteP (within x0 (List.length x3)) (
      Option.bind (x3[Int.toNat x0]?) fun y0 =>
      iteP (Prod.fst (Prod.snd y0) == (0 : Int)) (
        Option.bind (f (IntKind.wrap IntKind.i64 (x0 + (1 : Int)), x1, x2, x3)) fun r => match r with | .inl (y) => some (.inl (y)) | .inr (y) => some (.inr (y))) (
        iteP (within x0 (List.length x3)) (
          Option.bind (x3[Int.toNat x0]?) fun y1 =>
          Option.bind (F129 N (Prod.fst y1, Prod.fst (Prod.snd y1), x2)) fun y2 =>
          iteP (y2) (
            iteP (within x0 (List.length x3)) (
              Option.bind (x3[Int.toNat x0]?) fun y3 =>
              iteP (Prod.fst (Prod.snd y3) == (↑(List.length x2) : Int)) (
                some (.inl (x0))) (
                iteP (y2) (
                  Option.bind (f (IntKind.wrap IntKind.i64 (x0 + (1 : Int)), (-1 : Int), x2, x3)) fun r => match r with | .inl (y) => some (.inl (y)) | .inr (y) => some (.inr (y))) (
                  Option.bind (f (IntKind.wrap IntKind.i64 (x0 + (1 : Int)), x1, x2, x3)) fun r => match r with | .inl (y) => some (.inl (y)) | .inr (y) => some (.inr (y))))) (
              none)) (
            iteP (y2) (
              Option.bind (f (IntKind.wrap IntKind.i64 (x0 + (1 : Int)), (-1 : Int), x2, x3)) fun r => match r with | .inl (y) => some (.inl (y)) | .inr (y) => some (.inr (y))) (
              Option.bind (f (IntKind.wrap IntKind.i64 (x0 + (1 : Int)), x1, x2, x3)) fun r => match r with | .inl (y) => some (.inl (y)) | .inr (y) => some (.inr (y))))) (
          none))) (
      none)) (
    some (.inr (x1)))

noncomputable def F100_58 (N : Nat) : Nat → (Int × Int × (List Bool) × (List (Int × (Int × Unit)))) → Option (((Int) ⊕ (Int)))
  | 0, _ => none
  | k + 1, x => B100_58 N (F100_58 N k) x

noncomputable def C100_58 (N : Nat) (k : Nat) : Cut := ⟨[6, 5, 1, 0], X100_58, tellX I100_58 (F100_58 N k) O100_58⟩

theorem B100_58_eq (N : Nat) (f : (Int × Int × (List Bool) × (List (Int × (Int × Unit)))) → Option (((Int) ⊕ (Int)))) (x0 : Int) (x1 : Int) (x2 : (List Bool)) (x3 : (List (Int × (Int × Unit)))) : (roundEv (mkE Tryz.prog ownT (tab100 N) []) Tryz.f100.ntmps A100 (loopAt (bod Tryz.f100) 58) 58 ⟨[6, 5, 1, 0], X100_58, tellX I100_58 f O100_58⟩ (J100_58 (x0, x1, x2, x3))).run D100_58 = B100_58 N f (x0, x1, x2, x3) := by kernel_rfl

theorem C100_58_ok (N : Nat) (k : Nat) : ∀ c', At (bod Tryz.f100) 58 c' → CutOK Tryz.prog Tryz.f100.ntmps (idsL A100) c' (C100_58 N k) :=
  loop_ok (E := (mkE Tryz.prog ownT (tab100 N) [])) (mkE_ok mix (tab100_ok N)) (cutsIn_ok trivial) (fuel := 200) (by decide +kernel) (by kernel_rfl) I100_58_ok D100_58_ok (B100_58 N) (F100_58 N) (fun _ => rfl) (fun _ _ => rfl) (fun f x => match x with | (x0, x1, x2, x3) => B100_58_eq N f x0 x1 x2 x3) k

noncomputable def O100 (r : Int) : Tr (Pk) := .ret ⟨[.v (.int .i64 (r))], []⟩

noncomputable def D100 : Pk → Option (Int)
  | ⟨[.v (.int .i64 x0)], []⟩ => some (x0)
  | _ => none

theorem D100_ok : ∀ y r, D100 y = some r → ∀ z, (O100 r).to z → y = z := by
  intro y r h
  unfold D100 at h
  split at h <;> first | (cases h; intro z hz; exact Option.some.inj hz) | cases h

noncomputable def F100 (N : Nat) : ((List (Int × (Int × Unit))) × (List Bool)) → Option (Int)
  | (x0, x1) =>
  Option.bind (F100_58 N N ((0 : Int), (-2 : Int), x1, x0)) fun y0 =>
  match y0 with
  | .inl y1 =>
    some (y1)
  | .inr y1 =>
    some (y1)

theorem F100_eq (N : Nat) (x0 : (List (Int × (Int × Unit)))) (x1 : (List Bool)) : (fnEv (mkE Tryz.prog ownT (tab100 N) [(58, (C100_58 N N))]) Tryz.f100 (J100 (x0, x1))).run D100 = F100 N (x0, x1) := by kernel_rfl

noncomputable def T100 (N : Nat) : Pk → Tr Pk := tell I100 (F100 N) O100

theorem T100_ok (N : Nat) : FOK Tryz.prog 100 (T100 N) :=
  (tell_ok (E := (mkE Tryz.prog ownT (tab100 N) [(58, (C100_58 N N))])) (mkE_ok mix (tab100_ok N)) Tryz.func100 (show Tryz.f100.body = some (bod Tryz.f100) by kernel_rfl) (by decide +kernel) (F := F100 N) I100_ok D100_ok (args := A100) (fun _ => by kernel_rfl) (fun _ => by show 2 ≤ Tryz.f100.ntmps; exact of_decide_eq_true (by kernel_rfl)) (cutsIn_ok ⟨fun c' h => (C100_58_ok N N c' h), trivial⟩) (fun x => match x with | (x0, x1) => F100_eq N x0 x1))

/-! ## f63: mirador/miradorref08.symbol -/

noncomputable def I63 : Pk → Option ((List (Int × (Int × Unit))) × Int × Int × (List Bool))
  | ⟨[.ro (.cons (.int .i64) (.cons (.int .i64) .unit)) x0, .adr 0 []], [some (.var (.agg [.sl 1 none, .v (.int .i64 x1), .v (.int .i64 x2)])), some (.row .bool 4 x3)]⟩ => some (x0, x1, x2, x3)
  | _ => none

noncomputable def J63 (x : (List (Int × (Int × Unit))) × Int × Int × (List Bool)) : Pk := ⟨[.ro (.cons (.int .i64) (.cons (.int .i64) .unit)) (x.1), .adr 0 []], [some (.var (.agg [.sl 1 none, .v (.int .i64 (x.2.1)), .v (.int .i64 (x.2.2.1))])), some (.row .bool 4 (x.2.2.2))]⟩

theorem I63_ok : ∀ pk x, I63 pk = some x → pk = J63 x := by
  intro pk x h
  unfold I63 at h
  split at h <;> first | (cases h; rfl) | cases h

noncomputable def A63 : List TV := [.adr 0 []]

noncomputable def tab63 (N : Nat) : List (Nat × (Pk → Tr Pk)) := [(100, T100 N), (23, T23 N)]

theorem tab63_ok (N : Nat) : TabOK Tryz.prog (tab63 N) := ⟨T100_ok N, ⟨T23_ok N, trivial⟩⟩

def X63_14 : Ex → List Nat
  | .ret => [4, 5]
  | .exit 0 => [4, 5]
  | _ => []

noncomputable def I63_14 : Pk → Option ((List (Int × (Int × Unit))) × Int × Int × (List Bool) × (List Bool))
  | ⟨[.ro (Ty.cons (Ty.int IntKind.i64) (Ty.cons (Ty.int IntKind.i64) Ty.unit)) x0, .sl 1 (none), .adr 0 []], [some (.var (.agg [.sl 2 (none), .v (.int .i64 x1), .v (.int .i64 x2)])), some (.row (Ty.bool) 4 x3), some (.row (Ty.bool) 4 x4)]⟩ => some (x0, x1, x2, x3, x4)
  | _ => none

noncomputable def J63_14 (x : (List (Int × (Int × Unit))) × Int × Int × (List Bool) × (List Bool)) : Pk := ⟨[.ro (Ty.cons (Ty.int IntKind.i64) (Ty.cons (Ty.int IntKind.i64) Ty.unit)) (x.1), .sl 1 (none), .adr 0 []], [some (.var (.agg [.sl 2 (none), .v (.int .i64 (x.2.1)), .v (.int .i64 (x.2.2.1))])), some (.row (Ty.bool) 4 (x.2.2.2.1)), some (.row (Ty.bool) 4 (x.2.2.2.2))]⟩

theorem I63_14_ok : ∀ pk x, I63_14 pk = some x → pk = J63_14 x := by
  intro pk x h
  unfold I63_14 at h
  split at h <;> first | (cases h; rfl) | cases h

noncomputable def O63_14 (r : Int × Int × Int × Int × (List Bool)) : Tr (Ex × Pk) := .ret (.ret, ⟨[.v (.int .i64 (r.1)), .v (.int .i64 (r.2.1))], [some (.var (.agg [.sl 1 (none), .v (.int .i64 (r.2.2.1)), .v (.int .i64 (r.2.2.2.1))])), some (.row (Ty.bool) 4 (r.2.2.2.2))]⟩)

noncomputable def D63_14 : Ex × Pk → Option (Int × Int × Int × Int × (List Bool))
  | (.ret, ⟨[.v (.int .i64 x0), .v (.int .i64 x1)], [some (.var (.agg [.sl 1 (none), .v (.int .i64 x2), .v (.int .i64 x3)])), some (.row (Ty.bool) 4 x4)]⟩) => some ((x0, x1, x2, x3, x4))
  | _ => none

theorem D63_14_ok : ∀ y r, D63_14 y = some r → ∀ z, (O63_14 r).to z → y = z := by
  intro y r h
  unfold D63_14 at h
  split at h <;> first | (cases h; intro z hz; exact Option.some.inj hz) | cases h

noncomputable def B63_14 (N : Nat) (f : ((List (Int × (Int × Unit))) × Int × Int × (List Bool) × (List Bool)) → Option (Int × Int × Int × Int × (List Bool))) : ((List (Int × (Int × Unit))) × Int × Int × (List Bool) × (List Bool)) → Option (Int × Int × Int × Int × (List Bool))
  | (x0, x1, x2, x3, x4) =>
  Option.bind (F100 N (x0, x3)) fun y0 =>
  iteP (decide (y0 ≥ (0 : Int))) (
    some ((y0, (0 : Int), x1, x2, x4))) (
    iteP (y0 == (-2 : Int)) (
      some (((0 : Int), (80 : Int), x1, x2, x4))) (
      Option.bind (F23 N ((1 : Int), x1, x2, x4)) fun y1 =>
      iteP (Prod.fst (Prod.snd (Prod.snd y1)) != (0 : Int)) (
        some (((0 : Int), Prod.fst (Prod.snd (Prod.snd y1)), Prod.fst (Prod.snd y1), Prod.fst (Prod.snd (Prod.snd y1)), Prod.snd (Prod.snd (Prod.snd y1))))) (
        iteP (decide ((List.length x3 + List.length [Prod.fst y1 == (1 : Int)]) * (1 : Nat) ≤ (140737488355328 : Nat) ∧ List.length x3 + List.length [Prod.fst y1 == (1 : Int)] ≤ (140737488355328 : Nat))) (
          Option.bind (f (x0, Prod.fst (Prod.snd y1), Prod.fst (Prod.snd (Prod.snd y1)), x3 ++ [Prod.fst y1 == (1 : Int)], Prod.snd (Prod.snd (Prod.snd y1)))) fun r => some r) (
          none))))

noncomputable def F63_14 (N : Nat) : Nat → ((List (Int × (Int × Unit))) × Int × Int × (List Bool) × (List Bool)) → Option (Int × Int × Int × Int × (List Bool))
  | 0, _ => none
  | k + 1, x => B63_14 N (F63_14 N k) x

noncomputable def C63_14 (N : Nat) (k : Nat) : Cut := ⟨[0, 6, 1], X63_14, tellX I63_14 (F63_14 N k) O63_14⟩

theorem B63_14_eq (N : Nat) (f : ((List (Int × (Int × Unit))) × Int × Int × (List Bool) × (List Bool)) → Option (Int × Int × Int × Int × (List Bool))) (x0 : (List (Int × (Int × Unit)))) (x1 : Int) (x2 : Int) (x3 : (List Bool)) (x4 : (List Bool)) : (roundEv (mkE Tryz.prog ownT (tab63 N) []) Tryz.f63.ntmps A63 (loopAt (bod Tryz.f63) 14) 14 ⟨[0, 6, 1], X63_14, tellX I63_14 f O63_14⟩ (J63_14 (x0, x1, x2, x3, x4))).run D63_14 = B63_14 N f (x0, x1, x2, x3, x4) := by kernel_rfl

theorem C63_14_ok (N : Nat) (k : Nat) : ∀ c', At (bod Tryz.f63) 14 c' → CutOK Tryz.prog Tryz.f63.ntmps (idsL A63) c' (C63_14 N k) :=
  loop_ok (E := (mkE Tryz.prog ownT (tab63 N) [])) (mkE_ok mix (tab63_ok N)) (cutsIn_ok trivial) (fuel := 200) (by decide +kernel) (by kernel_rfl) I63_14_ok D63_14_ok (B63_14 N) (F63_14 N) (fun _ => rfl) (fun _ _ => rfl) (fun f x => match x with | (x0, x1, x2, x3, x4) => B63_14_eq N f x0 x1 x2 x3 x4) k

noncomputable def O63 (r : Int × Int × Int × Int × (List Bool)) : Tr (Pk) := .ret ⟨[.tup [.v (.int .i64 (r.1)), .v (.int .i64 (r.2.1))]], [some (.var (.agg [.sl 1 (none), .v (.int .i64 (r.2.2.1)), .v (.int .i64 (r.2.2.2.1))])), some (.row (Ty.bool) 4 (r.2.2.2.2))]⟩

noncomputable def D63 : Pk → Option (Int × Int × Int × Int × (List Bool))
  | ⟨[.tup [.v (.int .i64 x0), .v (.int .i64 x1)]], [some (.var (.agg [.sl 1 (none), .v (.int .i64 x2), .v (.int .i64 x3)])), some (.row (Ty.bool) 4 x4)]⟩ => some ((x0, x1, x2, x3, x4))
  | _ => none

theorem D63_ok : ∀ y r, D63 y = some r → ∀ z, (O63 r).to z → y = z := by
  intro y r h
  unfold D63 at h
  split at h <;> first | (cases h; intro z hz; exact Option.some.inj hz) | cases h

noncomputable def F63 (N : Nat) : ((List (Int × (Int × Unit))) × Int × Int × (List Bool)) → Option (Int × Int × Int × Int × (List Bool))
  | (x0, x1, x2, x3) =>
  Option.bind (F63_14 N N (x0, x1, x2, [], x3)) fun y0 =>
  some ((Prod.fst y0, Prod.fst (Prod.snd y0), Prod.fst (Prod.snd (Prod.snd y0)), Prod.fst (Prod.snd (Prod.snd (Prod.snd y0))), Prod.snd (Prod.snd (Prod.snd (Prod.snd y0)))))

theorem F63_eq (N : Nat) (x0 : (List (Int × (Int × Unit)))) (x1 : Int) (x2 : Int) (x3 : (List Bool)) : (fnEv (mkE Tryz.prog ownT (tab63 N) [(14, (C63_14 N N))]) Tryz.f63 (J63 (x0, x1, x2, x3))).run D63 = F63 N (x0, x1, x2, x3) := by kernel_rfl

noncomputable def T63 (N : Nat) : Pk → Tr Pk := tell I63 (F63 N) O63

theorem T63_ok (N : Nat) : FOK Tryz.prog 63 (T63 N) :=
  (tell_ok (E := (mkE Tryz.prog ownT (tab63 N) [(14, (C63_14 N N))])) (mkE_ok mix (tab63_ok N)) Tryz.func63 (show Tryz.f63.body = some (bod Tryz.f63) by kernel_rfl) (by decide +kernel) (F := F63 N) I63_ok D63_ok (args := A63) (fun _ => by kernel_rfl) (fun _ => by show 2 ≤ Tryz.f63.ntmps; exact of_decide_eq_true (by kernel_rfl)) (cutsIn_ok ⟨fun c' h => (C63_14_ok N N c' h), trivial⟩) (fun x => match x with | (x0, x1, x2, x3) => F63_eq N x0 x1 x2 x3))


end Go.Proofs.YteddgkplkjldcaaGreat.Am
