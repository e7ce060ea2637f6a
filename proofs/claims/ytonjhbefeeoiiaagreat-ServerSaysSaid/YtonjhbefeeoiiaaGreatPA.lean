/- A server is made, greeted and started; bells and texts are said: the Lean function that ServerSays comes to answers true at every input. -/
import Derived.Test.YtonjhbefeeoiiaaGreatSC
import Derived.KernelRfl
import Derived.Test.YtonjhbefeeoiiaaGreatAmC
set_option linter.unusedSimpArgs false
set_option linter.unusedVariables false
set_option linter.unusedSectionVars false
set_option maxRecDepth 100000
namespace Go.Proofs.YtonjhbefeeoiiaaGreat.Am
open Go.Am
theorem works5 : F6 200000 () = some true := by kernel_rfl
noncomputable def pairs : List (Nat × Nat) := (List.range 101).flatMap fun w => (List.range 101).filterMap fun h => bif Nat.ble 1 w && (Nat.ble 1 h && Nat.ble (w * h) 100) then some (w, h) else none
noncomputable def ok97 (p : Nat × Nat) : Bool := (F97 200000 [(0, 0, (p.1 : Int), (p.2 : Int), ())]).isSome
noncomputable def ok139 (p : Nat × Nat) : Bool := match (F138 200000 ()) with
  | some (a, b, c, d, e, f, g, h, i, j) => (match F139 200000 ((p.1 : Int), (p.2 : Int), a, b, c, d, e, f, g, h, i, j, ByteArray.mk #[120]) with
    | some (b, _) => Nat.blt 0 b.size && Nat.ble b.size 1000
    | none => false)
  | none => false
set_option maxRecDepth 100000
theorem a139 : pairs.all ok139 = true := by kernel_rfl
set_option maxRecDepth 100000
theorem a97 : pairs.all ok97 = true := by kernel_rfl
end Go.Proofs.YtonjhbefeeoiiaaGreat.Am
set_option maxRecDepth 100000
namespace Go.Proofs.YtonjhbefeeoiiaaGreat.Am
open Go.Am
theorem toList_data (s : ByteArray) : s.toList = s.data.toList := by
  exact ByteArray.toList_eq s
theorem bytesOf_eq (s : ByteArray) : bytesOf s = s.data.toList.map fun x => (x.toNat : Int) := by
  unfold bytesOf; rw [toList_data]
theorem within_nat {i n : Nat} (h : i < n) : within (i : Int) n = true := by unfold within; simp only [decide_eq_true_eq]; omega
theorem get_int {L : List Int} {i : Nat} (h : i < L.length) : L[i]? = some (L.getD i 0) := by rw [List.getD, List.getElem?_eq_getElem h]; rfl
theorem string_bytes (s : ByteArray) : stringOf (bytesOf s) = s := by
  rw [bytesOf_eq]
  unfold stringOf
  apply ByteArray.ext
  show ((s.data.toList.map fun (x : UInt8) => ((x.toNat : Nat) : Int)).map fun (n : Int) => UInt8.ofNat n.toNat).toArray = s.data
  rw [List.map_map]
  have : (fun (n : Int) => UInt8.ofNat n.toNat) ∘ (fun (x : UInt8) => ((x.toNat : Nat) : Int)) = id := by
    funext x
    show UInt8.ofNat ((x.toNat : Int).toNat) = x
    rw [Int.toNat_natCast, UInt8.ofNat_toNat]
  rw [this, List.map_id]
theorem bytesOf_length (s : ByteArray) : (bytesOf s).length = s.size := by
  rw [bytesOf_eq, List.length_map, Array.length_toList]; rfl
theorem stringOf_size (xs : List Int) : (stringOf xs).size = xs.length := by
  unfold stringOf
  show (List.toArray _).size = _
  simp
theorem bytes_string (l : List Int) (h : ∀ x ∈ l, 0 ≤ x ∧ x < 256) : bytesOf (stringOf l) = l := by
  rw [bytesOf_eq]
  unfold stringOf
  show ((l.map fun n => UInt8.ofNat n.toNat).map fun (x : UInt8) => ((x.toNat : Nat) : Int)) = l
  rw [List.map_map]
  conv => rhs; rw [← List.map_id l]
  apply List.map_congr_left
  intro x hx
  obtain ⟨h0, h1⟩ := h x hx
  show (((UInt8.ofNat x.toNat).toNat : Nat) : Int) = x
  rw [UInt8.toNat_ofNat']
  omega
theorem F117_four (a b c d : Int) : F117 200000 (0, 4, [a, b, c, d]) = some [d, c, b, a] := by
  have h3 : ∀ (i j : Int) (l : List Int), ¬ i < j → F117_6 200000 (199997 + 1) (i, j, 0, 4, l) = some l := by
    intro i j l h
    show B117_6 200000 (F117_6 200000 199997) _ = _
    generalize F117_6 200000 199997 = G
    simp only [B117_6, iteP_eq]
    rw [if_neg (by simpa using h)]
  have h2 : F117_6 200000 (199998 + 1) (1, 2, 0, 4, [d, b, c, a]) = some [d, c, b, a] := by
    show B117_6 200000 (F117_6 200000 (199997 + 1)) _ = _
    have hn := h3 2 1 [d, c, b, a] (by decide)
    generalize F117_6 200000 (199997 + 1) = G at *
    simp only [B117_6, iteP_eq]
    have w1 : within (1 : Int) 4 = true := rfl
    have w2 : within (2 : Int) 4 = true := rfl
    rw [if_pos (by decide), if_pos w2]
    show Option.bind (some c) _ = _
    rw [Option.bind_some, if_pos w1]
    show Option.bind (some b) _ = _
    rw [Option.bind_some, if_pos w1]
    show Option.bind (some b) _ = _
    rw [Option.bind_some, if_pos w2]
    show Option.bind (some c) _ = _
    rw [Option.bind_some, show IntKind.wrap .i64 ((1 : Int) + 1) = 2 from rfl, show IntKind.wrap .i64 ((2 : Int) - 1) = 1 from rfl]
    show Option.bind (G (2, 1, 0, 4, [d, c, b, a])) _ = _
    rw [hn]
    rfl
  have h1 : F117_6 200000 (199999 + 1) (0, 3, 0, 4, [a, b, c, d]) = some [d, c, b, a] := by
    show B117_6 200000 (F117_6 200000 (199998 + 1)) _ = _
    generalize F117_6 200000 (199998 + 1) = G at *
    simp only [B117_6, iteP_eq]
    have w1 : within (0 : Int) 4 = true := rfl
    have w2 : within (3 : Int) 4 = true := rfl
    rw [if_pos (by decide), if_pos w2]
    show Option.bind (some d) _ = _
    rw [Option.bind_some, if_pos w1]
    show Option.bind (some a) _ = _
    rw [Option.bind_some, if_pos w1]
    show Option.bind (some a) _ = _
    rw [Option.bind_some, if_pos w2]
    show Option.bind (some d) _ = _
    rw [Option.bind_some, show IntKind.wrap .i64 ((0 : Int) + 1) = 1 from rfl, show IntKind.wrap .i64 ((3 : Int) - 1) = 2 from rfl]
    show Option.bind (G (1, 2, 0, 4, [d, b, c, a])) _ = _
    rw [h2]
    rfl
  simp only [F117]
  rw [show IntKind.wrap .i64 (((4 : Nat) : Int) - 1) = 3 from rfl]
  show Option.bind (F117_6 200000 (199999 + 1) _) _ = _
  rw [h1, Option.bind_some]
def by4 (n k : Nat) : Int := ((n / 256 ^ k % 256 : Nat) : Int)
def put4 (n : Nat) : ByteArray := stringOf [by4 n 3, by4 n 2, by4 n 1, by4 n 0]
theorem put4_size (n : Nat) : (put4 n).size = 4 := by unfold put4; rw [stringOf_size]; rfl
theorem by4_range (n k : Nat) : 0 ≤ by4 n k ∧ by4 n k < 256 := by unfold by4; omega
theorem fdiv_nat (n m : Nat) : Int.fdiv (n : Int) (m : Int) = ((n / m : Nat) : Int) := by
  rw [Int.fdiv_eq_ediv_of_nonneg _ (by omega)]; rfl
theorem put_step (n k : Nat) (hk : k ≤ 3) : IntKind.wrap .u8 (Int.fdiv (n : Int) ((2 : Int) ^ min (Int.toNat (IntKind.wrap .i64 ((8 : Int) * (k : Int)))) 64)) = by4 n k := by
  have w : IntKind.wrap .i64 ((8 : Int) * (k : Int)) = ((8 * k : Nat) : Int) := by rw [wrap_i64 (by omega) (by omega)]; omega
  have e : (2 : Int) ^ min (Int.toNat ((8 * k : Nat) : Int)) 64 = ((256 ^ k : Nat) : Int) := by
    rcases (by omega : k = 0 ∨ k = 1 ∨ k = 2 ∨ k = 3) with rfl | rfl | rfl | rfl <;> rfl
  rw [w, e, fdiv_nat, wrap_u8]
  unfold by4
  omega
theorem put_round (f : Nat) (n k : Nat) (hk : k ≤ 3) (l : List Int) (hl : l.length = 4) :
    F152_122 200000 (f + 1) ((k : Int), 4, (n : Int), l) = F152_122 200000 f (((k + 1 : Nat) : Int), 4, (n : Int), l.set k (by4 n k)) := by
  have w : IntKind.wrap .i64 ((8 : Int) * (k : Int)) = ((8 * k : Nat) : Int) := by rw [wrap_i64 (by omega) (by omega)]; omega
  have w2 : IntKind.wrap .i64 ((k : Int) + 1) = ((k + 1 : Nat) : Int) := by rw [wrap_i64 (by omega) (by omega)]; omega
  have hp := put_step n k hk
  show B152_122 200000 (F152_122 200000 f) _ = _
  generalize F152_122 200000 f = G
  simp only [B152_122, iteP_eq]
  rw [ifT (by omega), if_neg (by rw [w]; simp only [decide_eq_true_eq]; omega), if_pos (within_nat (by omega)), Int.toNat_natCast, get_int (by omega), Option.bind_some, hp, w2, Option.bind_fun_some]
theorem F135_put {n : Nat} (hn : n < 4294967296) : F135 200000 (4, (n : Int)) = some (put4 n, 0) := by
  have hloop : F152_122 200000 200000 (0, 4, (n : Int), [0, 0, 0, 0]) = some [by4 n 0, by4 n 1, by4 n 2, by4 n 3] := by
    have h0 := put_round 199999 n 0 (by decide) [0, 0, 0, 0] rfl
    have h1 := put_round 199998 n 1 (by decide) [by4 n 0, 0, 0, 0] rfl
    have h2 := put_round 199997 n 2 (by decide) [by4 n 0, by4 n 1, 0, 0] rfl
    have h3 := put_round 199996 n 3 (by decide) [by4 n 0, by4 n 1, by4 n 2, 0] rfl
    have hend : F152_122 200000 (199995 + 1) (((4 : Nat) : Int), 4, (n : Int), [by4 n 0, by4 n 1, by4 n 2, by4 n 3]) = some [by4 n 0, by4 n 1, by4 n 2, by4 n 3] := by
      show B152_122 200000 (F152_122 200000 199995) _ = _
      generalize F152_122 200000 199995 = G
      simp only [B152_122, iteP_eq]
      rw [if_neg (by simp)]
    exact h0.trans (h1.trans (h2.trans (h3.trans hend)))
  have hr : ∀ x ∈ [by4 n 0, by4 n 1, by4 n 2, by4 n 3], 0 ≤ x ∧ x < 256 := by
    intro x hx
    simp only [List.mem_cons, List.not_mem_nil, or_false] at hx
    rcases hx with rfl | rfl | rfl | rfl <;> exact by4_range _ _
  have hb := bytes_string _ hr
  have w : IntKind.wrap .i64 ((8 : Int) * 4) = 32 := rfl
  have hsh : Int.fdiv (n : Int) ((2 : Int) ^ min (Int.toNat 32) 64) = 0 := by
    show Int.fdiv (n : Int) ((4294967296 : Nat) : Int) = 0
    rw [fdiv_nat, Nat.div_eq_of_lt hn]
    rfl
  have hlit : F152 200000 (4, (n : Int)) = some (stringOf [by4 n 0, by4 n 1, by4 n 2, by4 n 3], 0) := by
    simp only [F152, F116, iteP_eq]
    rw [if_neg (by decide), if_neg (by decide), Option.bind_some, if_neg (by decide), ifF (by omega), w, if_neg (by decide), hsh, if_neg (by decide), if_pos (by decide)]
    show Option.bind (F152_122 200000 200000 (0, 4, (n : Int), [0, 0, 0, 0])) _ = _
    rw [hloop, Option.bind_some]
  have htur : F88 200000 (stringOf [by4 n 0, by4 n 1, by4 n 2, by4 n 3]) = some (put4 n) := by
    simp only [F88, iteP_eq]
    rw [if_pos (by rw [stringOf_size]; rfl), hb]
    show Option.bind (F117 200000 (0, 4, [by4 n 0, by4 n 1, by4 n 2, by4 n 3])) _ = _
    rw [F117_four, Option.bind_some]
    rfl
  simp only [F135]
  rw [hlit, Option.bind_some]
  simp only
  rw [htur, Option.bind_some]
end Go.Proofs.YtonjhbefeeoiiaaGreat.Am
set_option maxRecDepth 100000
namespace Go.Proofs.YtonjhbefeeoiiaaGreat.Am
open Go.Am
def by44 (n : Nat) : List Int := [by4 n 3, by4 n 2, by4 n 1, by4 n 0]
theorem by44_range (n : Nat) : ∀ x ∈ by44 n, 0 ≤ x ∧ x < 256 := by
  intro x hx
  simp only [by44, List.mem_cons, List.not_mem_nil, or_false] at hx
  rcases hx with rfl | rfl | rfl | rfl <;> exact by4_range _ _
theorem bytes_put4 (n : Nat) : bytesOf (put4 n) = by44 n := bytes_string _ (by44_range n)
theorem F136a_add (t : ByteArray) (e : Int) (l : List Int) (h : l.length + t.size ≤ 1000000) : F136a 200000 (t, e, l) = some ((t.size : Int), e, l ++ bytesOf t) := by
  simp only [F136a, F153a, iteP_eq, Option.bind_some]
  rw [ifT (by rw [bytesOf_length]; omega)]
theorem ints4 {n : Nat} (hn : n ≤ 5000) (e : Int) (l : List Int) (hl : l.length ≤ 100000) : F106a 200000 (4, [(n : Int)], e, l) = some (e, l ++ by44 n) := by
  have hend : F106a_6 200000 (199998 + 1) (1, 1, [(n : Int)], 4, e, l ++ by44 n) = some (e, l ++ by44 n) := by
    show B106a_6 200000 (F106a_6 200000 199998) _ = _
    generalize F106a_6 200000 199998 = G
    simp only [B106a_6, iteP_eq]
    rw [if_neg (by decide)]
  have h1 : F106a_6 200000 (199999 + 1) (0, 1, [(n : Int)], 4, e, l) = some (e, l ++ by44 n) := by
    show B106a_6 200000 (F106a_6 200000 (199998 + 1)) _ = _
    generalize F106a_6 200000 (199998 + 1) = G at *
    simp only [B106a_6, iteP_eq]
    rw [if_pos (by decide), if_pos (show within (0 : Int) [(n : Int)].length = true from rfl)]
    show Option.bind (some (n : Int)) _ = _
    rw [Option.bind_some, F135_put (by omega), Option.bind_some]
    show Option.bind (F105a 200000 (true, 1, e, l)) _ = _
    rw [show F105a 200000 (true, 1, e, l) = some (e, l) from rfl, Option.bind_some, F136a_add _ _ _ (by rw [put4_size]; simp only; omega), Option.bind_some, bytes_put4]
    show Option.bind (G (1, 1, [(n : Int)], 4, e, l ++ by44 n)) _ = _
    rw [hend, Option.bind_some]
  simp only [F106a]
  show Option.bind (F106a_6 200000 (199999 + 1) (0, 1, [(n : Int)], 4, e, l)) _ = _
  rw [h1, Option.bind_some]
theorem F106_3 : F106 200000 (1, [3, 0, 0, 0], 0, []) = some (.inl (0, [3, 0, 0, 0])) := by kernel_rfl
def cutL (t : ByteArray) : List Int := [3, 0, 0, 0] ++ by44 t.size ++ bytesOf t
theorem F83_cut (t : ByteArray) (ht : t.size ≤ 5000) : F83 200000 (5, false, 0, 0, 0, 0, 0, 0, 0, false, false, 0, 0, 0, 0, 0, 0, [], t) = some (if t.size ≤ 4096 then (stringOf (cutL t), 0) else (ByteArray.mk #[], 1)) := by
  simp only [F83, iteP_eq]
  rw [if_neg (by decide), if_neg (by decide), if_pos (by decide), F106_3, Option.bind_some]
  simp only
  have h115 : ∀ e : Int, e = (if t.size ≤ 4096 then 0 else 1) → F115 200000 (t, 0, [3, 0, 0, 0]) = some (e, cutL t) := by
    intro e he
    simp only [F115]
    have h1 : F105a 200000 (decide ((t.size : Int) ≤ 4096), 1, 0, [3, 0, 0, 0]) = some (e, [3, 0, 0, 0]) := by
      by_cases h : t.size ≤ 4096
      · rw [if_pos h] at he
        subst he
        rw [decide_eq_true (by omega : (t.size : Int) ≤ 4096)]
        rfl
      · rw [if_neg h] at he
        subst he
        rw [decide_eq_false (by omega : ¬ (t.size : Int) ≤ 4096)]
        rfl
    rw [h1, Option.bind_some, ints4 ht _ _ (by simp), Option.bind_some, F136a_add _ _ _ (by simp [by44]; omega), Option.bind_some]
    rfl
  rw [h115 _ rfl, Option.bind_some]
  simp only [F107, iteP_eq]
  by_cases h : t.size ≤ 4096
  · have hlen : (cutL t).length = 8 + t.size := by simp [cutL, by44, bytesOf_length]; omega
    rw [if_pos h, if_pos h, if_neg (by decide), ifT (by rw [hlen]; omega), Option.bind_some]
  · rw [if_neg h, if_neg h, if_pos (by decide), Option.bind_some]
theorem F83_bell : F83 200000 (7, false, 0, 0, 0, 0, 0, 0, 0, false, false, 0, 0, 0, 0, 0, 0, [], ByteArray.mk #[]) = some (ByteArray.mk #[2], 0) := by kernel_rfl
theorem extract_string (l : List Int) (a b : Nat) : (stringOf l).extract a b = stringOf ((l.drop a).take (b - a)) := by
  unfold stringOf
  rw [List.map_take, List.map_drop]
  apply ByteArray.ext
  rw [ByteArray.data_extract]
  apply Array.ext'
  simp
theorem F50_bytes (k at_ : Nat) (s : ByteArray) (h : at_ + k ≤ s.size) (hs : s.size ≤ 1000000) : F50 200000 ((k : Int), s, (at_ : Int), 0) = some (s.extract at_ (at_ + k), s, ((at_ + k : Nat) : Int), 0) := by
  have w1 : IntKind.wrap .i64 ((s.size : Int) - (at_ : Int)) = ((s.size - at_ : Nat) : Int) := by rw [wrap_i64 (by omega) (by omega)]; omega
  have w2 : IntKind.wrap .i64 ((at_ : Int) + (k : Int)) = ((at_ + k : Nat) : Int) := by rw [wrap_i64 (by omega) (by omega)]; omega
  have w3 : IntKind.wrap .i64 (((at_ + k : Nat) : Int) - (k : Int)) = (at_ : Int) := by rw [wrap_i64 (by omega) (by omega)]; omega
  simp only [F50, F90, iteP_eq, Option.bind_some, w1, w2, w3, Int.toNat_natCast]
  rw [ifF (by omega), ifF (by omega), if_neg (by decide), ifT (by omega), ifT (by omega)]
theorem F88_four (a b c d : Int) (h : ∀ x ∈ [a, b, c, d], 0 ≤ x ∧ x < 256) : F88 200000 (stringOf [a, b, c, d]) = some (stringOf [d, c, b, a]) := by
  simp only [F88, iteP_eq]
  rw [if_pos (by rw [stringOf_size]; rfl), bytes_string _ h]
  show Option.bind (F117 200000 (0, 4, [a, b, c, d])) _ = _
  rw [F117_four, Option.bind_some]
theorem F87_pass (N : Nat) (s : ByteArray) (p e : Int) : ∀ (k : Nat) (a i c : Int) (l : List Int), F87_122 N k (a, i, c, s, p, e, l) = (F87_122 N k (a, i, c, ByteArray.mk #[], 0, 0, l)).map fun r => (r.1, s, p, e)
  | 0, a, i, c, l => rfl
  | k + 1, a, i, c, l => by
    show B87_122 N (F87_122 N k) _ = Option.map _ (B87_122 N (F87_122 N k) _)
    simp only [B87_122, iteP_eq]
    split
    · split
      · cases hg : l[i.toNat]? with
        | none => rfl
        | some y =>
          simp only [Option.bind_some]
          split
          · rfl
          · rw [F87_pass N s p e k]
            cases F87_122 N k (_, _, c, ByteArray.mk #[], 0, 0, l) <;> rfl
      · rfl
    · rfl
noncomputable def chkN (n : Nat) : Bool := match F87_122 200000 200000 (0, 0, 4, ByteArray.mk #[], 0, 0, [by4 n 0, by4 n 1, by4 n 2, by4 n 3]) with
  | some r => decide (r.1 = (n : Int))
  | none => false
theorem chk_all : (List.range 4097).all chkN = true := by kernel_rfl
theorem F49_four {n : Nat} (hn : n ≤ 4096) (s : ByteArray) (at_ : Nat) (h : at_ + 4 ≤ s.size) (hs : s.size ≤ 1000000) (he : s.extract at_ (at_ + 4) = put4 n) : F49 200000 (4, s, (at_ : Int), 0) = some ((n : Int), s, ((at_ + 4 : Nat) : Int), 0) := by
  have hv : F87_122 200000 200000 (0, 0, 4, s, ((at_ + 4 : Nat) : Int), 0, [by4 n 0, by4 n 1, by4 n 2, by4 n 3]) = some ((n : Int), s, ((at_ + 4 : Nat) : Int), 0) := by
    rw [F87_pass]
    have := List.all_eq_true.1 chk_all n (List.mem_range.2 (by omega))
    unfold chkN at this
    cases hx : F87_122 200000 200000 (0, 0, 4, ByteArray.mk #[], 0, 0, [by4 n 0, by4 n 1, by4 n 2, by4 n 3]) with
    | none => rw [hx] at this; cases this
    | some r =>
      rw [hx] at this
      simp only [decide_eq_true_eq] at this
      rw [Option.map_some, this]
  have h50 := F50_bytes 4 at_ s h hs
  simp only [F49, F87, F116, iteP_eq]
  rw [if_neg (by decide), if_neg (by decide), Option.bind_some, if_neg (by decide), show ((4 : Nat) : Int) = 4 from rfl] at *
  rw [h50, Option.bind_some]
  simp only
  rw [he, show put4 n = stringOf [by4 n 3, by4 n 2, by4 n 1, by4 n 0] from rfl, F88_four _ _ _ _ (by44_range n), Option.bind_some, if_pos (by rw [stringOf_size]; rfl), bytes_string _ (by
    intro x hx
    simp only [List.mem_cons, List.not_mem_nil, or_false] at hx
    rcases hx with rfl | rfl | rfl | rfl <;> exact by4_range _ _)]
  show Option.bind (Option.bind (F87_122 200000 200000 (0, 0, 4, s, ((at_ + 4 : Nat) : Int), 0, [by4 n 0, by4 n 1, by4 n 2, by4 n 3])) _) _ = _
  rw [hv]
  rfl
theorem F49_kind (s : ByteArray) (h : 1 ≤ s.size) (hs : s.size ≤ 1000000) (he : s.extract 0 1 = stringOf [3]) : F49 200000 (1, s, 0, 0) = some (3, s, 1, 0) := by
  have h50 := F50_bytes 1 0 s h hs
  simp only [F49, F87, F116, iteP_eq]
  rw [if_pos (by decide), Option.bind_some, if_neg (by decide)]
  rw [show ((1 : Nat) : Int) = 1 from rfl, show ((0 : Nat) : Int) = 0 from rfl] at h50
  rw [h50, Option.bind_some]
  simp only
  rw [show 0 + 1 = 1 from rfl, he, show F88 200000 (stringOf [3]) = some (stringOf [3]) by kernel_rfl, Option.bind_some, if_pos (by decide)]
  have hv : F87_122 200000 200000 (0, 0, ((bytesOf (stringOf [3])).length : Int), s, 1, 0, bytesOf (stringOf [3])) = some (3, s, 1, 0) := by
    rw [F87_pass, show F87_122 200000 200000 (0, 0, ((bytesOf (stringOf [3])).length : Int), ByteArray.mk #[], 0, 0, bytesOf (stringOf [3])) = some (3, ByteArray.mk #[], 0, 0) by kernel_rfl]
    rfl
  rw [hv]
  rfl
theorem F23_cut (t : ByteArray) (ht : t.size ≤ 4096) : F23 200000 (stringOf (cutL t)) = some (5, false, 0, 0, 0, 0, 0, 0, 0, false, false, 0, 0, 0, 0, 0, 0, t, ((8 + t.size : Nat) : Int), 0, []) := by
  have hlen : (cutL t).length = 8 + t.size := by simp [cutL, by44, bytesOf_length]; omega
  have hsz : (stringOf (cutL t)).size = 8 + t.size := by rw [stringOf_size, hlen]
  have e1 : (stringOf (cutL t)).extract 0 1 = stringOf [3] := by rw [extract_string]; rfl
  have e4 : (stringOf (cutL t)).extract 4 (4 + 4) = put4 t.size := by rw [extract_string]; rfl
  have e8 : (stringOf (cutL t)).extract 8 (8 + t.size) = t := by
    rw [extract_string, show (cutL t).drop 8 = bytesOf t from rfl, Nat.add_sub_cancel_left, List.take_of_length_le (by rw [bytesOf_length]; omega), string_bytes]
  have h1 := F49_kind (stringOf (cutL t)) (by omega) (by omega) e1
  have h2 := F50_bytes 3 1 (stringOf (cutL t)) (by omega) (by omega)
  have h3 := F49_four ht (stringOf (cutL t)) 4 (by omega) (by omega) e4
  have h4 := F50_bytes t.size 8 (stringOf (cutL t)) (by omega) (by omega)
  have h51 : F51 200000 (0, stringOf (cutL t), 4, 0) = some (t, 0, stringOf (cutL t), ((8 + t.size : Nat) : Int), 0) := by
    simp only [F51, F52, iteP_eq]
    rw [show (4 : Int) = ((4 : Nat) : Int) from rfl, show F49 200000 (((4 : Nat) : Int), stringOf (cutL t), ((4 : Nat) : Int), 0) = _ from h3, Option.bind_some]
    simp only
    rw [ifF (by omega), Option.bind_some]
    simp only
    rw [if_neg (by decide), show ((4 + 4 : Nat) : Int) = ((8 : Nat) : Int) from rfl, h4, Option.bind_some, e8]
  simp only [F23, F47, F84, F48, iteP_eq, Option.bind_some]
  rw [h1, Option.bind_some]
  simp only
  rw [if_neg (by decide), if_neg (by decide), if_pos (by decide), show (3 : Int) = ((3 : Nat) : Int) from rfl, show (1 : Int) = ((1 : Nat) : Int) from rfl, h2, Option.bind_some]
  simp only
  rw [show ((1 + 3 : Nat) : Int) = 4 from rfl, h51, Option.bind_some]
  simp only [Option.bind_some, F85, F86]
  rw [if_pos (by decide), if_neg (by decide)]
  rfl
end Go.Proofs.YtonjhbefeeoiiaaGreat.Am
set_option maxRecDepth 100000
namespace Go.Proofs.YtonjhbefeeoiiaaGreat.Am
open Go.Am
theorem F69_some (y : Int) : ∃ b, F69 200000 y = some b := by
  simp only [F69, F70, iteP_eq]
  split <;> exact ⟨_, rfl⟩
theorem F101_loop (l : List Int) (hl : l.length ≤ 100000) : ∀ (k i : Nat), i ≤ l.length → l.length - i < k → ∃ r, F101_26 200000 k ((l.length : Int), l, (i : Int)) = some r
  | 0, i, h1, h2 => by omega
  | k + 1, i, h1, h2 => by
    show ∃ r, B101_26 200000 (F101_26 200000 k) _ = some r
    simp only [B101_26, iteP_eq]
    by_cases h : i < l.length
    · rw [ifT (by omega), if_pos (within_nat h), Int.toNat_natCast, get_int h, Option.bind_some]
      obtain ⟨b, hb⟩ := F69_some (l.getD i 0)
      rw [hb, Option.bind_some]
      cases b with
      | true => exact ⟨_, rfl⟩
      | false =>
        obtain ⟨r, hr⟩ := F101_loop l hl k (i + 1) (by omega) (by omega)
        rw [if_neg (by decide), show IntKind.wrap .i64 ((i : Int) + 1) = ((i + 1 : Nat) : Int) by rw [wrap_i64 (by omega) (by omega)]; omega, hr, Option.bind_some]
        cases r <;> exact ⟨_, rfl⟩
    · rw [ifF (by omega)]
      exact ⟨_, rfl⟩
theorem F72_some (l : List Int) (hl : l.length ≤ 100000) : ∃ b, F72 200000 l = some b := by
  obtain ⟨r, hr⟩ := F101_loop l hl 200000 0 (by omega) (by omega)
  simp only [F72, F101]
  rw [show ((0 : Nat) : Int) = 0 from rfl] at hr
  rw [hr, Option.bind_some]
  cases r <;> exact ⟨_, rfl⟩
theorem putL_length (xs zs : List Int) (o : Nat) (h : o + zs.length ≤ xs.length) : (putL xs o zs).length = xs.length := by
  unfold putL
  simp only [List.length_append, List.length_take, List.length_drop]
  omega
theorem F102_loop (w h : Nat) (hw : 1 ≤ w) (px : List Int) (hn : w * h ≤ 100) (hp : px.length = w * h) : ∀ (k i : Nat) (L : List Int), i ≤ h → h - i < k → L.length = w * h →
    ∃ L', L'.length = w * h ∧ F102_6 200000 k ((h : Int), (i : Int), 0, 0, (w : Int), (h : Int), px, 0, 0, (w : Int), (h : Int), (w : Int), (h : Int), L) = some (0, 0, (w : Int), (h : Int), px, 0, 0, (w : Int), (h : Int), (w : Int), (h : Int), L')
  | 0, i, L, h1, h2, h3 => by omega
  | k + 1, i, L, h1, h2, h3 => by
    show ∃ L', _ ∧ B102_6 200000 (F102_6 200000 k) _ = some _
    simp only [B102_6, iteP_eq]
    by_cases hi : i < h
    · have hh : h ≤ w * h := Nat.le_mul_of_pos_left h (by omega)
      have hm : (i + 1) * w ≤ h * w := Nat.mul_le_mul_right w hi
      have hm2 : h * w = w * h := Nat.mul_comm _ _
      have hm3 : (i + 1) * w = i * w + w := by rw [Nat.add_mul, Nat.one_mul]
      have e1 : IntKind.wrap .i64 ((0 : Int) + (i : Int)) = (i : Int) := by rw [wrap_i64 (by omega) (by omega)]; omega
      have e2 : (i : Int) * (w : Int) = ((i * w : Nat) : Int) := by rw [Int.natCast_mul]
      have e3 : IntKind.wrap .i64 ((i * w : Nat) : Int) = ((i * w : Nat) : Int) := wrap_i64 (by omega) (by omega)
      have e4 : IntKind.wrap .i64 (((i * w : Nat) : Int) + 0) = ((i * w : Nat) : Int) := by rw [wrap_i64 (by omega) (by omega)]; omega
      have e5 : IntKind.wrap .i64 (((i * w : Nat) : Int) + (w : Int)) = ((i * w + w : Nat) : Int) := by rw [wrap_i64 (by omega) (by omega)]; omega
      have e6 : IntKind.wrap .i64 ((i : Int) + 1) = ((i + 1 : Nat) : Int) := by rw [wrap_i64 (by omega) (by omega)]; omega
      simp only [e1, e2, e3, e4, e5, e6, Int.toNat_natCast, F34r122, iteP_eq]
      rw [ifT (by omega), ifT (by rw [h3]; omega), ifT (by omega), ifT (by rw [hp]; omega), Option.bind_some]
      simp only
      have hlen : (putL L (partO (some (i * w, i * w + w - i * w))) (List.take (min (List.length (List.take (px.length - i * w) (List.drop (i * w) px))) (partN L.length (some (i * w, i * w + w - i * w)))) (List.take (px.length - i * w) (List.drop (i * w) px)))).length = w * h := by
        rw [putL_length _ _ _ (by simp only [partO, partN, List.length_take, List.length_drop]; rw [h3, hp]; omega), h3]
      obtain ⟨L', g1, g2⟩ := F102_loop w h hw px hn hp k (i + 1) _ (by omega) (by omega) hlen
      refine ⟨L', g1, ?_⟩
      rw [g2]
      rfl
    · rw [ifF (by omega)]
      exact ⟨L, h3, rfl⟩
theorem F34_blit (w h : Nat) (hw : 1 ≤ w) (hh : 1 ≤ h) (hw2 : w ≤ 4096) (hh2 : h ≤ 4096) (px zs : List Int) (hn : px.length ≤ 100) (hz : zs.length = w * h) :
    (∃ e, e ≠ 0 ∧ F34a 200000 (0, 0, (w : Int), (h : Int), px, (w : Int), (h : Int), zs) = some (e, (w : Int), (h : Int), zs)) ∨ px.length = w * h ∧ ∃ L, L.length = w * h ∧ F34a 200000 (0, 0, (w : Int), (h : Int), px, (w : Int), (h : Int), zs) = some (0, (w : Int), (h : Int), L) := by
  have hm : w * h ≤ 4096 * 4096 := Nat.mul_le_mul hw2 hh2
  have f100 : ∀ n : Nat, n ≤ 4096 → F100 200000 (0, (n : Int), (n : Int)) = some true := by
    intro n hn
    simp only [F100, iteP_eq]
    rw [if_pos (by decide), ifT (by omega), ifT (by omega), show IntKind.wrap .i64 ((n : Int) - (n : Int)) = 0 by rw [wrap_i64 (by omega) (by omega)]; omega]
    rfl
  have f71 : F71 200000 (0, 0, (w : Int), (h : Int), (w : Int), (h : Int)) = some true := by
    simp only [F71, iteP_eq]
    rw [f100 w hw2, Option.bind_some, if_pos rfl, f100 h hh2]
    rfl
  have e2 : (w : Int) * (h : Int) = ((w * h : Nat) : Int) := by rw [Int.natCast_mul]
  have e3 : IntKind.wrap .i64 ((w * h : Nat) : Int) = ((w * h : Nat) : Int) := wrap_i64 (by omega) (by omega)
  simp only [F34a, iteP_eq, f71, Option.bind_some, e2, e3]
  rw [if_neg (by decide)]
  by_cases hl : px.length = w * h
  · rw [if_neg (by rw [hl]; simp)]
    obtain ⟨b, hb⟩ := F72_some px (by omega)
    rw [hb, Option.bind_some]
    cases b with
    | true => exact .inl ⟨1, by decide, rfl⟩
    | false =>
      right
      refine ⟨hl, ?_⟩
      rw [if_neg (by decide)]
      obtain ⟨L, g1, g2⟩ := F102_loop w h hw px (by omega) hl 200000 0 zs (by omega) (by
        have := Nat.le_mul_of_pos_left h (by omega : 0 < w)
        omega) hz
      refine ⟨L, g1, ?_⟩
      simp only [F73, Option.bind_some, F34a_122, F102]
      rw [show ((0 : Nat) : Int) = 0 from rfl] at g2
      rw [g2]
      rfl
  · left
    rw [if_pos (by simp only [bne_iff_ne, ne_eq]; omega)]
    exact ⟨1, by decide, rfl⟩
def ver : ByteArray := ByteArray.mk #[82, 70, 66, 32, 48, 48, 51, 46, 48, 48, 56, 10]
theorem F68_side (z : Int) : F68 200000 z = some (decide (1 ≤ z) && decide (z ≤ 4096)) := by
  simp only [F68, iteP_eq]
  by_cases h : 1 ≤ z
  · rw [ifT h, decide_eq_true h, Bool.true_and]
  · rw [ifF h, decide_eq_false h, Bool.false_and]
theorem F8_new (x y : Int) (px : List Int) (hn : px.length ≤ 100) :
    F8 200000 (x, y, px, ByteArray.mk #[120], 0) = some (.inl 1) ∨
    ∃ (w h : Nat) (L : List Int), 1 ≤ w ∧ 1 ≤ h ∧ w * h ≤ 100 ∧ L.length = w * h ∧ F8 200000 (x, y, px, ByteArray.mk #[120], 0) = some (.inr (0, ByteArray.mk #[120], 0, ByteArray.mk #[], ver, 36, false, 0, false, ByteArray.mk #[], 0, 0, false, false, 0, 0, 0, 0, 0, 0, false, false, 0, 0, 0, 0, 0, 0, 0, 0, false, 0, (w : Int), (h : Int), [], [], [], [], [], L)) := by
  by_cases hx : 1 ≤ x ∧ x ≤ 4096 ∧ 1 ≤ y ∧ y ≤ 4096
  · obtain ⟨w, rfl⟩ : ∃ w : Nat, x = (w : Int) := ⟨x.toNat, by omega⟩
    obtain ⟨h, rfl⟩ : ∃ h : Nat, y = (h : Int) := ⟨y.toNat, by omega⟩
    have hm : w * h ≤ 4096 * 4096 := Nat.mul_le_mul (by omega) (by omega)
    have e2 : (w : Int) * (h : Int) = ((w * h : Nat) : Int) := by rw [Int.natCast_mul]
    have e3 : IntKind.wrap .i64 ((w * h : Nat) : Int) = ((w * h : Nat) : Int) := wrap_i64 (by omega) (by omega)
    have f33 : F33 200000 ((w : Int), (h : Int)) = some (.inr (0, (w : Int), (h : Int), List.replicate (w * h) 0)) := by
      simp only [F33, F68_side, iteP_eq, Option.bind_some, e2, e3]
      rw [decide_eq_true (by omega : (1 : Int) ≤ w), decide_eq_true (by omega : (w : Int) ≤ 4096), decide_eq_true (by omega : (1 : Int) ≤ h), decide_eq_true (by omega : (h : Int) ≤ 4096)]
      rw [if_neg (by decide), if_neg (by decide), ifT (by omega), Int.toNat_natCast]
    have hb := F34_blit w h (by omega) (by omega) (by omega) (by omega) px (List.replicate (w * h) 0) hn (by simp)
    simp only [F8, f33, Option.bind_some, iteP_eq, F35]
    rw [if_neg (by decide), if_neg (by decide)]
    rcases hb with ⟨e, he, hb⟩ | ⟨hl, L, hL, hb⟩
    · left
      rw [hb, Option.bind_some, if_pos (by simpa using he)]
    · right
      refine ⟨w, h, L, by omega, by omega, by omega, hL, ?_⟩
      rw [hb, Option.bind_some]
      show (if ((0 : Int) != 0) = true then _ else _) = _
      rw [if_neg (by decide)]
      rfl
  · left
    have f33 : F33 200000 (x, y) = some (.inl 1) := by
      simp only [F33, F68_side, iteP_eq, Option.bind_some]
      by_cases h1 : 1 ≤ x ∧ x ≤ 4096
      · rw [decide_eq_true h1.1, decide_eq_true h1.2, if_neg (by decide)]
        have : (decide (1 ≤ y) && decide (y ≤ 4096)) = false := by
          rw [← Bool.not_eq_true, Bool.and_eq_true, decide_eq_true_eq, decide_eq_true_eq]
          omega
        rw [this, if_pos (by decide)]
      · have : (decide (1 ≤ x) && decide (x ≤ 4096)) = false := by
          rw [← Bool.not_eq_true, Bool.and_eq_true, decide_eq_true_eq, decide_eq_true_eq]
          exact h1
        rw [this, if_pos (by decide)]
    simp only [F8, f33, Option.bind_some, iteP_eq]
    rw [if_pos (by decide)]
end Go.Proofs.YtonjhbefeeoiiaaGreat.Am
set_option maxRecDepth 100000
namespace Go.Proofs.YtonjhbefeeoiiaaGreat.Am
open Go.Am
theorem e36 (n : ByteArray) (w h : Int) (L : List Int) : F36 200000 (n, 0, (ByteArray.mk #[82, 70, 66, 32, 48, 48, 51, 46, 48, 48, 56, 10, 1, 0]), ver, 36, false, 0, false, ByteArray.mk #[], 0, 0, false, false, 0, 0, 0, 0, 0, 0, false, false, 0, 0, 0, 0, 0, 0, 0, 0, false, 0, w, h, [], [], [], [], [], L) = some (true, n, 0, (ByteArray.mk #[1, 0]), (ByteArray.mk #[82, 70, 66, 32, 48, 48, 51, 46, 48, 48, 56, 10, 1, 1]), 77, false, 0, false, ByteArray.mk #[], 0, 0, false, false, 0, 0, 0, 0, 0, 0, false, false, 0, 0, 0, 0, 0, 0, 0, 0, false, 0, w, h, [], [], [], [], [], L) := by kernel_rfl
theorem e77 (n : ByteArray) (w h : Int) (L : List Int) : F77 200000 (n, 0, (ByteArray.mk #[1, 0]), (ByteArray.mk #[82, 70, 66, 32, 48, 48, 51, 46, 48, 48, 56, 10, 1, 1]), 77, false, 0, false, ByteArray.mk #[], 0, 0, false, false, 0, 0, 0, 0, 0, 0, false, false, 0, 0, 0, 0, 0, 0, 0, 0, false, 0, w, h, [], [], [], [], [], L) = some (true, n, 0, (ByteArray.mk #[0]), (ByteArray.mk #[82, 70, 66, 32, 48, 48, 51, 46, 48, 48, 56, 10, 1, 1, 0, 0, 0, 0]), 110, false, 0, false, ByteArray.mk #[], 0, 0, false, false, 0, 0, 0, 0, 0, 0, false, false, 0, 0, 0, 0, 0, 0, 0, 0, false, 0, w, h, [], [], [], [], [], L) := by kernel_rfl
theorem e108 (n : ByteArray) (w h : Int) (L : List Int) : F108 200000 (n, 0, (ByteArray.mk #[0]), (ByteArray.mk #[82, 70, 66, 32, 48, 48, 51, 46, 48, 48, 56, 10, 1, 1, 0, 0, 0, 0]), 110, false, 0, false, ByteArray.mk #[], 0, 0, false, false, 0, 0, 0, 0, 0, 0, false, false, 0, 0, 0, 0, 0, 0, 0, 0, false, 0, w, h, [], [], [], [], [], L) = some (0, true, n, 0, (ByteArray.mk #[]), (ByteArray.mk #[82, 70, 66, 32, 48, 48, 51, 46, 48, 48, 56, 10, 1, 1, 0, 0, 0, 0]), 110, false, 0, false, ByteArray.mk #[], 0, 0, false, false, 0, 0, 0, 0, 0, 0, false, false, 0, 0, 0, 0, 0, 0, 0, 0, false, 0, w, h, [], [], [], [], [], L) := by kernel_rfl
theorem e140 (n o : ByteArray) (w h : Int) (D : List (Int × Int × Int × Int × Unit)) (L : List Int) : F140 200000 (n, 0, (ByteArray.mk #[]), o, 140, true, 0, false, ByteArray.mk #[], 32, 24, false, true, 255, 255, 255, 16, 8, 0, false, false, 0, 0, 0, 0, 0, 0, 0, 0, false, 0, w, h, [], [], D, [], [], L) = some (false, n, 0, (ByteArray.mk #[]), o, 140, true, 0, false, ByteArray.mk #[], 32, 24, false, true, 255, 255, 255, 16, 8, 0, false, false, 0, 0, 0, 0, 0, 0, 0, 0, false, 0, w, h, [], [], D, [], [], L) := by kernel_rfl
theorem e138 : F138 200000 () = some (32, 24, false, true, 255, 255, 255, 16, 8, 0) := rfl
theorem mem_pairs {w h : Nat} (hw : 1 ≤ w) (hh : 1 ≤ h) (hn : w * h ≤ 100) : (w, h) ∈ pairs := by
  have h1 : h ≤ w * h := Nat.le_mul_of_pos_left h (by omega)
  have h2 : w ≤ w * h := Nat.le_mul_of_pos_right w (by omega)
  unfold pairs
  refine List.mem_flatMap.2 ⟨w, List.mem_range.2 (by omega), List.mem_filterMap.2 ⟨h, List.mem_range.2 (by omega), ?_⟩⟩
  rw [Nat.ble_eq_true_of_le hw, Nat.ble_eq_true_of_le hh, Nat.ble_eq_true_of_le hn]
  rfl
theorem e139 {w h : Nat} (hw : 1 ≤ w) (hh : 1 ≤ h) (hn : w * h ≤ 100) : ∃ b e, F139 200000 ((w : Int), (h : Int), 32, 24, false, true, 255, 255, 255, 16, 8, 0, ByteArray.mk #[120]) = some (b, e) ∧ 0 < b.size ∧ b.size ≤ 1000 := by
  have := List.all_eq_true.1 a139 _ (mem_pairs hw hh hn)
  unfold ok139 at this
  rw [e138] at this
  simp only at this
  cases hx : F139 200000 ((w : Int), (h : Int), 32, 24, false, true, 255, 255, 255, 16, 8, 0, ByteArray.mk #[120]) with
  | none => rw [hx] at this; cases this
  | some r =>
    rw [hx] at this
    simp only [Bool.and_eq_true] at this
    exact ⟨r.1, r.2, rfl, Nat.le_of_ble_eq_true this.1, Nat.le_of_ble_eq_true this.2⟩
theorem e97 {w h : Nat} (hw : 1 ≤ w) (hh : 1 ≤ h) (hn : w * h ≤ 100) : ∃ D, F97 200000 [(0, 0, (w : Int), (h : Int), ())] = some D := by
  have := List.all_eq_true.1 a97 _ (mem_pairs hw hh hn)
  unfold ok97 at this
  exact Option.isSome_iff_exists.1 this
theorem e110 {w h : Nat} (hw : 1 ≤ w) (hh : 1 ≤ h) (hn : w * h ≤ 100) (n : ByteArray) (hname : n = ByteArray.mk #[120]) (L : List Int) : ∃ o D, o.size ≤ 2000 ∧ 0 < o.size ∧ F110 200000 (n, 0, (ByteArray.mk #[0]), (ByteArray.mk #[82, 70, 66, 32, 48, 48, 51, 46, 48, 48, 56, 10, 1, 1, 0, 0, 0, 0]), 110, false, 0, false, ByteArray.mk #[], 0, 0, false, false, 0, 0, 0, 0, 0, 0, false, false, 0, 0, 0, 0, 0, 0, 0, 0, false, 0, (w : Int), (h : Int), [], [], [], [], [], L) = some (true, n, 0, (ByteArray.mk #[]), o, 140, true, 0, false, ByteArray.mk #[], 32, 24, false, true, 255, 255, 255, 16, 8, 0, false, false, 0, 0, 0, 0, 0, 0, 0, 0, false, 0, (w : Int), (h : Int), [], [], D, [], [], L) := by
  obtain ⟨b, e, hb, h1, h2⟩ := e139 hw hh hn
  obtain ⟨D, hD⟩ := e97 hw hh hn
  refine ⟨(ByteArray.mk #[82, 70, 66, 32, 48, 48, 51, 46, 48, 48, 56, 10, 1, 1, 0, 0, 0, 0]) ++ b, D, ?_, ?_, ?_⟩
  · rw [ByteArray.size_append]
    show 18 + b.size ≤ 2000
    omega
  · rw [ByteArray.size_append]
    omega
  · subst hname
    simp only [F110, e108, Option.bind_some, F130, e138, iteP_eq]
    rw [if_neg (by decide), hb, Option.bind_some]
    simp only [F63, F98, F130, F35, Option.bind_some]
    rw [hD, Option.bind_some, ifF (by show ¬ (((18 + b.size : Nat) : Int) > _); omega)]
    rfl
theorem up10 (k : Nat) (x : P10_14) : F10_14 200000 (k + 1) x = B10_14 200000 (F10_14 200000 k) x := rfl
theorem feed_ok {w h : Nat} (hw : 1 ≤ w) (hh : 1 ≤ h) (hn : w * h ≤ 100) (n : ByteArray) (hname : n = ByteArray.mk #[120]) (L : List Int) : ∃ o D, o.size ≤ 2000 ∧ 0 < o.size ∧ F10 200000 ((ByteArray.mk #[82, 70, 66, 32, 48, 48, 51, 46, 48, 48, 56, 10, 1, 0]), n, 0, (ByteArray.mk #[]), ver, 36, false, 0, false, ByteArray.mk #[], 0, 0, false, false, 0, 0, 0, 0, 0, 0, false, false, 0, 0, 0, 0, 0, 0, 0, 0, false, 0, (w : Int), (h : Int), [], [], [], [], [], L) = some (n, 0, (ByteArray.mk #[]), o, 140, true, 0, false, ByteArray.mk #[], 32, 24, false, true, 255, 255, 255, 16, 8, 0, false, false, 0, 0, 0, 0, 0, 0, 0, 0, false, 0, (w : Int), (h : Int), [], [], D, [], [], L) := by
  obtain ⟨o, D, h1, h2, h3⟩ := e110 hw hh hn n hname L
  refine ⟨o, D, h1, h2, ?_⟩
  have s4 : F10_14 200000 (199996 + 1) (n, 0, (ByteArray.mk #[]), o, 140, true, 0, false, ByteArray.mk #[], 32, 24, false, true, 255, 255, 255, 16, 8, 0, false, false, 0, 0, 0, 0, 0, 0, 0, 0, false, 0, (w : Int), (h : Int), [], [], D, [], [], L) = some (n, 0, (ByteArray.mk #[]), o, 140, true, 0, false, ByteArray.mk #[], 32, 24, false, true, 255, 255, 255, 16, 8, 0, false, false, 0, 0, 0, 0, 0, 0, 0, 0, false, 0, (w : Int), (h : Int), [], [], D, [], [], L) := by
    rw [up10]
    generalize F10_14 200000 199996 = G
    simp only [B10_14, iteP_eq]
    rw [if_pos (by decide), if_neg (by decide), if_neg (by decide), if_neg (by decide), if_pos (by decide), e140, Option.bind_some]
    rfl
  have s3 : F10_14 200000 (199997 + 1) (n, 0, (ByteArray.mk #[0]), (ByteArray.mk #[82, 70, 66, 32, 48, 48, 51, 46, 48, 48, 56, 10, 1, 1, 0, 0, 0, 0]), 110, false, 0, false, ByteArray.mk #[], 0, 0, false, false, 0, 0, 0, 0, 0, 0, false, false, 0, 0, 0, 0, 0, 0, 0, 0, false, 0, (w : Int), (h : Int), [], [], [], [], [], L) = some (n, 0, (ByteArray.mk #[]), o, 140, true, 0, false, ByteArray.mk #[], 32, 24, false, true, 255, 255, 255, 16, 8, 0, false, false, 0, 0, 0, 0, 0, 0, 0, 0, false, 0, (w : Int), (h : Int), [], [], D, [], [], L) := by
    rw [up10]
    generalize F10_14 200000 (199996 + 1) = G at *
    simp only [B10_14, iteP_eq]
    rw [if_pos (by decide), if_neg (by decide), if_neg (by decide), if_pos (by decide), h3, Option.bind_some]
    simp only
    rw [if_pos trivial, s4, Option.bind_some]
  have s2 : F10_14 200000 (199998 + 1) (n, 0, (ByteArray.mk #[1, 0]), (ByteArray.mk #[82, 70, 66, 32, 48, 48, 51, 46, 48, 48, 56, 10, 1, 1]), 77, false, 0, false, ByteArray.mk #[], 0, 0, false, false, 0, 0, 0, 0, 0, 0, false, false, 0, 0, 0, 0, 0, 0, 0, 0, false, 0, (w : Int), (h : Int), [], [], [], [], [], L) = some (n, 0, (ByteArray.mk #[]), o, 140, true, 0, false, ByteArray.mk #[], 32, 24, false, true, 255, 255, 255, 16, 8, 0, false, false, 0, 0, 0, 0, 0, 0, 0, 0, false, 0, (w : Int), (h : Int), [], [], D, [], [], L) := by
    rw [up10]
    generalize F10_14 200000 (199997 + 1) = G at *
    simp only [B10_14, iteP_eq]
    rw [if_pos (by decide), if_neg (by decide), if_pos (by decide), e77, Option.bind_some]
    simp only
    rw [if_pos trivial, s3, Option.bind_some]
  have s1 : F10_14 200000 (199999 + 1) (n, 0, (ByteArray.mk #[82, 70, 66, 32, 48, 48, 51, 46, 48, 48, 56, 10, 1, 0]), ver, 36, false, 0, false, ByteArray.mk #[], 0, 0, false, false, 0, 0, 0, 0, 0, 0, false, false, 0, 0, 0, 0, 0, 0, 0, 0, false, 0, (w : Int), (h : Int), [], [], [], [], [], L) = some (n, 0, (ByteArray.mk #[]), o, 140, true, 0, false, ByteArray.mk #[], 32, 24, false, true, 255, 255, 255, 16, 8, 0, false, false, 0, 0, 0, 0, 0, 0, 0, 0, false, 0, (w : Int), (h : Int), [], [], D, [], [], L) := by
    rw [up10]
    generalize F10_14 200000 (199998 + 1) = G at *
    simp only [B10_14, iteP_eq]
    rw [if_pos (by decide), if_pos (by decide), e36, Option.bind_some]
    simp only
    rw [if_pos trivial, s2, Option.bind_some]
  simp only [F10, iteP_eq]
  rw [if_neg (by decide), if_neg (by decide), show ByteArray.mk #[] ++ (ByteArray.mk #[82, 70, 66, 32, 48, 48, 51, 46, 48, 48, 56, 10, 1, 0]) = (ByteArray.mk #[82, 70, 66, 32, 48, 48, 51, 46, 48, 48, 56, 10, 1, 0]) by decide +kernel]
  show Option.bind (F10_14 200000 (199999 + 1) _) _ = _
  rw [s1, Option.bind_some]
end Go.Proofs.YtonjhbefeeoiiaaGreat.Am
set_option maxRecDepth 100000
namespace Go.Proofs.YtonjhbefeeoiiaaGreat.Am
open Go.Am
theorem extract_all (o : ByteArray) : o.extract 0 o.size = o := by
  apply ByteArray.ext
  rw [ByteArray.data_extract]
  apply Array.ext'
  simp
  exact List.take_of_length_le (by rw [Array.length_toList]; exact Nat.le_refl _)
theorem extract_none (o : ByteArray) : o.extract o.size o.size = ByteArray.mk #[] := by
  apply ByteArray.ext
  rw [ByteArray.data_extract]
  apply Array.ext'
  simp
theorem F19_all (m : Int) (v0 v2 v3 v8 : ByteArray) (v1 v6 v9 v10 v13 v14 v15 v16 v17 v18 v21 v22 v23 v24 v25 v26 v27 v28 v30 v31 v32 : Int) (v4 : Nat) (v5 v7 v11 v12 v19 v20 v29 : Bool) (v33 : (List (Int × (Bool × (Int × ((Int × (Int × (Int × (Int × Unit)))) × ((Int × (Int × (Bool × (Bool × (Int × (Int × (Int × (Int × (Int × (Int × Unit)))))))))) × ((List Int) × (ByteArray × Unit))))))))) (v34 v38 : (List Int)) (v35 v36 v37 : (List (Int × (Int × (Int × (Int × Unit)))))) (hm : (v3.size : Int) ≤ m) : F19 200000 (m, v0, v1, v2, v3, v4, v5, v6, v7, v8, v9, v10, v11, v12, v13, v14, v15, v16, v17, v18, v19, v20, v21, v22, v23, v24, v25, v26, v27, v28, v29, v30, v31, v32, v33, v34, v35, v36, v37, v38) = some (v3, v0, v1, v2, ByteArray.mk #[], v4, v5, v6, v7, v8, v9, v10, v11, v12, v13, v14, v15, v16, v17, v18, v19, v20, v21, v22, v23, v24, v25, v26, v27, v28, v29, v30, v31, v32, v33, v34, v35, v36, v37, v38) := by
  have e1 : (if (0 : Int) > m then (0 : Int) else m) = m := if_neg (by omega)
  have e2 : (if (v3.size : Int) < m then (v3.size : Int) else m) = (v3.size : Int) := by
    by_cases h : (v3.size : Int) < m
    · exact if_pos h
    · rw [if_neg h]; omega
  simp only [F19, iteP_eq, e1, e2, Int.toNat_natCast]
  rw [ifT (by omega), ifT (by omega), extract_all, extract_none]
theorem nil_size {o : ByteArray} (h : 0 < o.size) : (!(ByteArray.toList o == [])) = true := by
  rw [toList_data]
  have h : 0 < o.data.toList.length := by rw [Array.length_toList]; exact h
  cases hd : o.data.toList with
  | nil => rw [hd] at h; cases h
  | cons a l => rfl
theorem F21_cut (t : ByteArray) (ht : t.size ≤ 5000) (v0 v2 v3 v8 : ByteArray) (v1 v9 v10 v13 v14 v15 v16 v17 v18 v21 v22 v23 v24 v25 v26 v27 v28 v30 v31 v32 : Int) (v4 : Nat) (v5 v7 v11 v12 v19 v20 v29 : Bool) (v33 : (List (Int × (Bool × (Int × ((Int × (Int × (Int × (Int × Unit)))) × ((Int × (Int × (Bool × (Bool × (Int × (Int × (Int × (Int × (Int × (Int × Unit)))))))))) × ((List Int) × (ByteArray × Unit))))))))) (v34 v38 : (List Int)) (v35 v36 v37 : (List (Int × (Int × (Int × (Int × Unit)))))) : F21 200000 (t, v0, v1, v2, v3, v4, v5, 0, v7, v8, v9, v10, v11, v12, v13, v14, v15, v16, v17, v18, v19, v20, v21, v22, v23, v24, v25, v26, v27, v28, v29, v30, v31, v32, v33, v34, v35, v36, v37, v38) = some (if t.size ≤ 4096 then (if v5 = true then (if (!(ByteArray.toList v3 == [])) = true then (5, v0, v1, v2, v3, v4, v5, 0, v7, v8, v9, v10, v11, v12, v13, v14, v15, v16, v17, v18, v19, v20, v21, v22, v23, v24, v25, v26, v27, v28, v29, v30, v31, v32, v33, v34, v35, v36, v37, v38) else (0, v0, v1, v2, stringOf (cutL t), v4, v5, 0, v7, v8, v9, v10, v11, v12, v13, v14, v15, v16, v17, v18, v19, v20, v21, v22, v23, v24, v25, v26, v27, v28, v29, v30, v31, v32, v33, v34, v35, v36, v37, v38)) else (5, v0, v1, v2, v3, v4, v5, 0, v7, v8, v9, v10, v11, v12, v13, v14, v15, v16, v17, v18, v19, v20, v21, v22, v23, v24, v25, v26, v27, v28, v29, v30, v31, v32, v33, v34, v35, v36, v37, v38)) else (1, v0, v1, v2, v3, v4, v5, 0, v7, v8, v9, v10, v11, v12, v13, v14, v15, v16, v17, v18, v19, v20, v21, v22, v23, v24, v25, v26, v27, v28, v29, v30, v31, v32, v33, v34, v35, v36, v37, v38)) := by
  simp only [F21, F46, iteP_eq]
  rw [if_neg (by decide), F83_cut t ht, Option.bind_some]
  by_cases h : t.size ≤ 4096
  · simp only [if_pos h]
    rw [if_neg (by decide)]
    cases v5 with
    | true =>
      rw [if_neg (by decide), if_pos rfl]
      split <;> rfl
    | false =>
      rw [if_pos (by decide), if_neg (by decide)]
      rfl
  · simp only [if_neg h]
    rw [if_pos (by decide)]
    rfl
theorem F22_bell (v0 v2 v3 v8 : ByteArray) (v1 v9 v10 v13 v14 v15 v16 v17 v18 v21 v22 v23 v24 v25 v26 v27 v28 v30 v31 v32 : Int) (v4 : Nat) (v5 v7 v11 v12 v19 v20 v29 : Bool) (v33 : (List (Int × (Bool × (Int × ((Int × (Int × (Int × (Int × Unit)))) × ((Int × (Int × (Bool × (Bool × (Int × (Int × (Int × (Int × (Int × (Int × Unit)))))))))) × ((List Int) × (ByteArray × Unit))))))))) (v34 v38 : (List Int)) (v35 v36 v37 : (List (Int × (Int × (Int × (Int × Unit)))))) : F22 200000 (v0, v1, v2, v3, v4, v5, 0, v7, v8, v9, v10, v11, v12, v13, v14, v15, v16, v17, v18, v19, v20, v21, v22, v23, v24, v25, v26, v27, v28, v29, v30, v31, v32, v33, v34, v35, v36, v37, v38) = some (if v5 = true then (if (!(ByteArray.toList v3 == [])) = true then (5, v0, v1, v2, v3, v4, v5, 0, v7, v8, v9, v10, v11, v12, v13, v14, v15, v16, v17, v18, v19, v20, v21, v22, v23, v24, v25, v26, v27, v28, v29, v30, v31, v32, v33, v34, v35, v36, v37, v38) else (0, v0, v1, v2, ByteArray.mk #[2], v4, v5, 0, v7, v8, v9, v10, v11, v12, v13, v14, v15, v16, v17, v18, v19, v20, v21, v22, v23, v24, v25, v26, v27, v28, v29, v30, v31, v32, v33, v34, v35, v36, v37, v38)) else (5, v0, v1, v2, v3, v4, v5, 0, v7, v8, v9, v10, v11, v12, v13, v14, v15, v16, v17, v18, v19, v20, v21, v22, v23, v24, v25, v26, v27, v28, v29, v30, v31, v32, v33, v34, v35, v36, v37, v38)) := by
  simp only [F22, F46, iteP_eq]
  rw [if_neg (by decide), F83_bell, Option.bind_some]
  simp only
  rw [if_neg (by decide)]
  cases v5 with
  | true =>
    rw [if_neg (by decide), if_pos rfl]
    split <;> rfl
  | false =>
    rw [if_pos (by decide), if_neg (by decide)]
    rfl
theorem F7_over (x y : Int) (px : List Int) : F7 200000 (x, y, px, ByteArray.mk #[]) = some (decide ((px.length : Int) > 100)) := by
  simp only [F7, iteP_eq]
  by_cases h : (px.length : Int) > 100
  · rw [ifT h, decide_eq_true h]
  · rw [ifF h, decide_eq_false h]
    rfl
theorem nil_empty : (!(ByteArray.toList (ByteArray.mk #[]) == [])) = false := by decide +kernel
theorem F21_big (t : ByteArray) (ht : t.size ≤ 5000) (h4 : ¬ t.size ≤ 4096) (v0 v2 v3 v8 : ByteArray) (v1 v9 v10 v13 v14 v15 v16 v17 v18 v21 v22 v23 v24 v25 v26 v27 v28 v30 v31 v32 : Int) (v4 : Nat) (v5 v7 v11 v12 v19 v20 v29 : Bool) (v33 : (List (Int × (Bool × (Int × ((Int × (Int × (Int × (Int × Unit)))) × ((Int × (Int × (Bool × (Bool × (Int × (Int × (Int × (Int × (Int × (Int × Unit)))))))))) × ((List Int) × (ByteArray × Unit))))))))) (v34 v38 : (List Int)) (v35 v36 v37 : (List (Int × (Int × (Int × (Int × Unit)))))) : F21 200000 (t, v0, v1, v2, v3, v4, v5, 0, v7, v8, v9, v10, v11, v12, v13, v14, v15, v16, v17, v18, v19, v20, v21, v22, v23, v24, v25, v26, v27, v28, v29, v30, v31, v32, v33, v34, v35, v36, v37, v38) = some (1, v0, v1, v2, v3, v4, v5, 0, v7, v8, v9, v10, v11, v12, v13, v14, v15, v16, v17, v18, v19, v20, v21, v22, v23, v24, v25, v26, v27, v28, v29, v30, v31, v32, v33, v34, v35, v36, v37, v38) := by
  rw [F21_cut t ht, if_neg h4]
theorem F21_no (t : ByteArray) (h4 : t.size ≤ 4096) (v0 v2 v3 v8 : ByteArray) (v1 v9 v10 v13 v14 v15 v16 v17 v18 v21 v22 v23 v24 v25 v26 v27 v28 v30 v31 v32 : Int) (v4 : Nat) (v5 v7 v11 v12 v19 v20 v29 : Bool) (v33 : (List (Int × (Bool × (Int × ((Int × (Int × (Int × (Int × Unit)))) × ((Int × (Int × (Bool × (Bool × (Int × (Int × (Int × (Int × (Int × (Int × Unit)))))))))) × ((List Int) × (ByteArray × Unit))))))))) (v34 v38 : (List Int)) (v35 v36 v37 : (List (Int × (Int × (Int × (Int × Unit)))))) (h5 : v5 = false) : F21 200000 (t, v0, v1, v2, v3, v4, v5, 0, v7, v8, v9, v10, v11, v12, v13, v14, v15, v16, v17, v18, v19, v20, v21, v22, v23, v24, v25, v26, v27, v28, v29, v30, v31, v32, v33, v34, v35, v36, v37, v38) = some (5, v0, v1, v2, v3, v4, v5, 0, v7, v8, v9, v10, v11, v12, v13, v14, v15, v16, v17, v18, v19, v20, v21, v22, v23, v24, v25, v26, v27, v28, v29, v30, v31, v32, v33, v34, v35, v36, v37, v38) := by
  rw [F21_cut t (by omega), if_pos h4, if_neg (by rw [h5]; decide)]
theorem F21_full (t : ByteArray) (h4 : t.size ≤ 4096) (v0 v2 v3 v8 : ByteArray) (v1 v9 v10 v13 v14 v15 v16 v17 v18 v21 v22 v23 v24 v25 v26 v27 v28 v30 v31 v32 : Int) (v4 : Nat) (v5 v7 v11 v12 v19 v20 v29 : Bool) (v33 : (List (Int × (Bool × (Int × ((Int × (Int × (Int × (Int × Unit)))) × ((Int × (Int × (Bool × (Bool × (Int × (Int × (Int × (Int × (Int × (Int × Unit)))))))))) × ((List Int) × (ByteArray × Unit))))))))) (v34 v38 : (List Int)) (v35 v36 v37 : (List (Int × (Int × (Int × (Int × Unit)))))) (h3 : 0 < v3.size) : F21 200000 (t, v0, v1, v2, v3, v4, v5, 0, v7, v8, v9, v10, v11, v12, v13, v14, v15, v16, v17, v18, v19, v20, v21, v22, v23, v24, v25, v26, v27, v28, v29, v30, v31, v32, v33, v34, v35, v36, v37, v38) = some (5, v0, v1, v2, v3, v4, v5, 0, v7, v8, v9, v10, v11, v12, v13, v14, v15, v16, v17, v18, v19, v20, v21, v22, v23, v24, v25, v26, v27, v28, v29, v30, v31, v32, v33, v34, v35, v36, v37, v38) := by
  rw [F21_cut t (by omega), if_pos h4, if_pos (nil_size h3)]
  split <;> rfl
theorem F21_ok (t : ByteArray) (h4 : t.size ≤ 4096) (v0 v2 v3 v8 : ByteArray) (v1 v9 v10 v13 v14 v15 v16 v17 v18 v21 v22 v23 v24 v25 v26 v27 v28 v30 v31 v32 : Int) (v4 : Nat) (v5 v7 v11 v12 v19 v20 v29 : Bool) (v33 : (List (Int × (Bool × (Int × ((Int × (Int × (Int × (Int × Unit)))) × ((Int × (Int × (Bool × (Bool × (Int × (Int × (Int × (Int × (Int × (Int × Unit)))))))))) × ((List Int) × (ByteArray × Unit))))))))) (v34 v38 : (List Int)) (v35 v36 v37 : (List (Int × (Int × (Int × (Int × Unit)))))) (h5 : v5 = true) (h3 : v3 = ByteArray.mk #[]) : F21 200000 (t, v0, v1, v2, v3, v4, v5, 0, v7, v8, v9, v10, v11, v12, v13, v14, v15, v16, v17, v18, v19, v20, v21, v22, v23, v24, v25, v26, v27, v28, v29, v30, v31, v32, v33, v34, v35, v36, v37, v38) = some (0, v0, v1, v2, stringOf (cutL t), v4, v5, 0, v7, v8, v9, v10, v11, v12, v13, v14, v15, v16, v17, v18, v19, v20, v21, v22, v23, v24, v25, v26, v27, v28, v29, v30, v31, v32, v33, v34, v35, v36, v37, v38) := by
  rw [F21_cut t (by omega), if_pos h4, if_pos h5, h3, if_neg (by rw [nil_empty]; decide)]
theorem F22_no (v0 v2 v3 v8 : ByteArray) (v1 v9 v10 v13 v14 v15 v16 v17 v18 v21 v22 v23 v24 v25 v26 v27 v28 v30 v31 v32 : Int) (v4 : Nat) (v5 v7 v11 v12 v19 v20 v29 : Bool) (v33 : (List (Int × (Bool × (Int × ((Int × (Int × (Int × (Int × Unit)))) × ((Int × (Int × (Bool × (Bool × (Int × (Int × (Int × (Int × (Int × (Int × Unit)))))))))) × ((List Int) × (ByteArray × Unit))))))))) (v34 v38 : (List Int)) (v35 v36 v37 : (List (Int × (Int × (Int × (Int × Unit)))))) (h5 : v5 = false) : F22 200000 (v0, v1, v2, v3, v4, v5, 0, v7, v8, v9, v10, v11, v12, v13, v14, v15, v16, v17, v18, v19, v20, v21, v22, v23, v24, v25, v26, v27, v28, v29, v30, v31, v32, v33, v34, v35, v36, v37, v38) = some (5, v0, v1, v2, v3, v4, v5, 0, v7, v8, v9, v10, v11, v12, v13, v14, v15, v16, v17, v18, v19, v20, v21, v22, v23, v24, v25, v26, v27, v28, v29, v30, v31, v32, v33, v34, v35, v36, v37, v38) := by
  rw [F22_bell, if_neg (by rw [h5]; decide)]
theorem F22_full (v0 v2 v3 v8 : ByteArray) (v1 v9 v10 v13 v14 v15 v16 v17 v18 v21 v22 v23 v24 v25 v26 v27 v28 v30 v31 v32 : Int) (v4 : Nat) (v5 v7 v11 v12 v19 v20 v29 : Bool) (v33 : (List (Int × (Bool × (Int × ((Int × (Int × (Int × (Int × Unit)))) × ((Int × (Int × (Bool × (Bool × (Int × (Int × (Int × (Int × (Int × (Int × Unit)))))))))) × ((List Int) × (ByteArray × Unit))))))))) (v34 v38 : (List Int)) (v35 v36 v37 : (List (Int × (Int × (Int × (Int × Unit)))))) (h3 : 0 < v3.size) : F22 200000 (v0, v1, v2, v3, v4, v5, 0, v7, v8, v9, v10, v11, v12, v13, v14, v15, v16, v17, v18, v19, v20, v21, v22, v23, v24, v25, v26, v27, v28, v29, v30, v31, v32, v33, v34, v35, v36, v37, v38) = some (5, v0, v1, v2, v3, v4, v5, 0, v7, v8, v9, v10, v11, v12, v13, v14, v15, v16, v17, v18, v19, v20, v21, v22, v23, v24, v25, v26, v27, v28, v29, v30, v31, v32, v33, v34, v35, v36, v37, v38) := by
  rw [F22_bell, if_pos (nil_size h3)]
  split <;> rfl
theorem F22_ok (v0 v2 v3 v8 : ByteArray) (v1 v9 v10 v13 v14 v15 v16 v17 v18 v21 v22 v23 v24 v25 v26 v27 v28 v30 v31 v32 : Int) (v4 : Nat) (v5 v7 v11 v12 v19 v20 v29 : Bool) (v33 : (List (Int × (Bool × (Int × ((Int × (Int × (Int × (Int × Unit)))) × ((Int × (Int × (Bool × (Bool × (Int × (Int × (Int × (Int × (Int × (Int × Unit)))))))))) × ((List Int) × (ByteArray × Unit))))))))) (v34 v38 : (List Int)) (v35 v36 v37 : (List (Int × (Int × (Int × (Int × Unit)))))) (h5 : v5 = true) (h3 : v3 = ByteArray.mk #[]) : F22 200000 (v0, v1, v2, v3, v4, v5, 0, v7, v8, v9, v10, v11, v12, v13, v14, v15, v16, v17, v18, v19, v20, v21, v22, v23, v24, v25, v26, v27, v28, v29, v30, v31, v32, v33, v34, v35, v36, v37, v38) = some (0, v0, v1, v2, ByteArray.mk #[2], v4, v5, 0, v7, v8, v9, v10, v11, v12, v13, v14, v15, v16, v17, v18, v19, v20, v21, v22, v23, v24, v25, v26, v27, v28, v29, v30, v31, v32, v33, v34, v35, v36, v37, v38) := by
  rw [F22_bell, if_pos h5, h3, if_neg (by rw [nil_empty]; decide)]
theorem law4 (x y : Int) (px : List Int) (rdy wt : Bool) (t : ByteArray) : F4 200000 (x, y, px, rdy, wt, t) = some true := by
  simp only [F4, iteP_eq, works5, Option.bind_some, F7_over]
  rw [if_neg (by decide)]
  by_cases hp : px.length ≤ 100
  case neg => rw [ifT (by omega)]
  rw [ifF (by omega)]
  by_cases ht : t.size ≤ 5000
  case neg => rw [ifT (by omega)]
  rw [ifF (by omega)]
  rcases F8_new x y px hp with h8 | ⟨w, h, L, hw, hh, hn, hL, h8⟩
  · rw [h8, Option.bind_some]
    rfl
  rw [h8, Option.bind_some]
  simp only [if_true]
  cases rdy with
  | true =>
    obtain ⟨o, D, h1, h2, h10⟩ := feed_ok hw hh hn (ByteArray.mk #[120]) rfl L
    rw [if_pos rfl]
    rw [h10, Option.bind_some]
    simp only
    cases wt with
    | false =>
      rw [if_pos (by decide), F19_all _ _ (hm := by omega), Option.bind_some]
      simp only [F20, Option.bind_some]
      rw [if_neg (show ¬ (!false == decide (((ByteArray.mk #[]).size : Int) > 0)) = true by decide)]
      by_cases h4 : t.size ≤ 4096
      · rw [F21_ok t h4 (h5 := rfl) (h3 := rfl), Option.bind_some]
        simp only
        rw [ifF (by omega), if_neg (by decide), if_neg (by decide), F19_all _ _ (hm := by rw [stringOf_size]; simp [cutL, by44, bytesOf_length]; omega), Option.bind_some]
        simp only
        rw [F23_cut t h4, Option.bind_some]
        simp only
        rw [F22_ok (h5 := rfl) (h3 := rfl), Option.bind_some]
        simp only
        rw [F19_all _ _ (hm := by decide), Option.bind_some]
        simp only
        rw [if_pos (by decide), if_pos (by decide), if_pos (by simp), if_pos (by rw [wrap_i64 (by omega) (by omega)]; simp only [beq_iff_eq]; omega), if_pos (by decide), if_pos (by decide)]
        rw [toList_data]
        rfl
      · rw [F21_big t ht h4, Option.bind_some]
        simp only
        rw [ifT (by omega)]
        simp
    | true =>
      rw [if_neg (by decide)]
      simp only [F20, Option.bind_some]
      rw [if_neg (by rw [decide_eq_true (by omega : (o.size : Int) > 0)]; decide)]
      by_cases h4 : t.size ≤ 4096
      · rw [F21_full t h4 (h3 := h2), Option.bind_some]
        simp only
        rw [ifF (by omega), if_pos trivial, F22_full (h3 := h2), Option.bind_some]
        simp
      · rw [F21_big t ht h4, Option.bind_some]
        simp only
        rw [ifT (by omega)]
        simp
  | false =>
    rw [if_neg (by decide)]
    cases wt with
    | false =>
      rw [if_pos (by decide), F19_all _ _ (hm := by decide), Option.bind_some]
      simp only [F20, Option.bind_some]
      rw [if_neg (show ¬ (!false == decide (((ByteArray.mk #[]).size : Int) > 0)) = true by decide)]
      by_cases h4 : t.size ≤ 4096
      · rw [F21_no t h4 (h5 := rfl), Option.bind_some]
        simp only
        rw [ifF (by omega), if_neg (by decide), if_pos (by decide), F22_no (h5 := rfl), Option.bind_some]
        simp
      · rw [F21_big t ht h4, Option.bind_some]
        simp only
        rw [ifT (by omega)]
        simp
    | true => 
      rw [if_neg (by decide)]
      simp only [F20, Option.bind_some]
      rw [if_neg (show ¬ (!true == decide ((ver.size : Int) > 0)) = true by decide)]
      by_cases h4 : t.size ≤ 4096
      · rw [F21_no t h4 (h5 := rfl), Option.bind_some]
        simp only
        rw [ifF (by omega), if_pos trivial, F22_no (h5 := rfl), Option.bind_some]
        simp
      · rw [F21_big t ht h4, Option.bind_some]
        simp only
        rw [ifT (by omega)]
        simp
end Go.Proofs.YtonjhbefeeoiiaaGreat.Am
