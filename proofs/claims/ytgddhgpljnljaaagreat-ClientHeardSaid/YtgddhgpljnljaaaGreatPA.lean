/- The plain side: what a server says, any message, is heard by the client that is fed it (each theorem says its conditions). -/
import Derived.Test.YtgddhgpljnljaaaGreatSC
import Derived.Test.YtgddhgpljnljaaaGreatAmC
import Derived.KernelRfl
set_option linter.unusedSimpArgs false
set_option linter.unusedVariables false
set_option linter.unusedSectionVars false
set_option maxRecDepth 100000
namespace Go.Proofs.YtgddhgpljnljaaaGreat.Am
open Go.Am
theorem toList_data (s : ByteArray) : s.toList = s.data.toList := by
  exact ByteArray.toList_eq s
theorem bytesOf_eq (s : ByteArray) : bytesOf s = s.data.toList.map fun x => (x.toNat : Int) := by
  unfold bytesOf; rw [toList_data]
theorem within_nat {i n : Nat} (h : i < n) : within (i : Int) n = true := by unfold within; simp only [decide_eq_true_eq]; omega
theorem get_int {L : List Int} {i : Nat} (h : i < L.length) : L[i]? = some (L.getD i 0) := by rw [List.getD, List.getElem?_eq_getElem h]; rfl
theorem string_bytes (s : ByteArray) : stringOf (bytesOf s) = s := by
  rw [bytesOf_eq]
  unfold stringOf
  apply ByteArray.ext
  show ((s.data.toList.map fun (x : UInt8) => ((x.toNat : Nat) : Int)).map fun (n : Int) => UInt8.ofNat n.toNat).toArray = s.data
  rw [List.map_map]
  have : (fun (n : Int) => UInt8.ofNat n.toNat) ∘ (fun (x : UInt8) => ((x.toNat : Nat) : Int)) = id := by
    funext x
    show UInt8.ofNat ((x.toNat : Int).toNat) = x
    rw [Int.toNat_natCast, UInt8.ofNat_toNat]
  rw [this, List.map_id]
theorem bytesOf_length (s : ByteArray) : (bytesOf s).length = s.size := by
  rw [bytesOf_eq, List.length_map, Array.length_toList]; rfl
theorem stringOf_size (xs : List Int) : (stringOf xs).size = xs.length := by
  unfold stringOf
  show (List.toArray _).size = _
  simp
theorem bytes_string (l : List Int) (h : ∀ x ∈ l, 0 ≤ x ∧ x < 256) : bytesOf (stringOf l) = l := by
  rw [bytesOf_eq]
  unfold stringOf
  show ((l.map fun n => UInt8.ofNat n.toNat).map fun (x : UInt8) => ((x.toNat : Nat) : Int)) = l
  rw [List.map_map]
  conv => rhs; rw [← List.map_id l]
  apply List.map_congr_left
  intro x hx
  obtain ⟨h0, h1⟩ := h x hx
  show (((UInt8.ofNat x.toNat).toNat : Nat) : Int) = x
  rw [UInt8.toNat_ofNat']
  omega
theorem F73_four (a b c d : Int) : F73 200000 (0, 4, [a, b, c, d]) = some [d, c, b, a] := by
  have h3 : ∀ (i j : Int) (l : List Int), ¬ i < j → F73_6 200000 (199997 + 1) (i, j, 0, 4, l) = some l := by
    intro i j l h
    show B73_6 200000 (F73_6 200000 199997) _ = _
    generalize F73_6 200000 199997 = G
    simp only [B73_6, iteP_eq]
    rw [if_neg (by simpa using h)]
  have h2 : F73_6 200000 (199998 + 1) (1, 2, 0, 4, [d, b, c, a]) = some [d, c, b, a] := by
    show B73_6 200000 (F73_6 200000 (199997 + 1)) _ = _
    have hn := h3 2 1 [d, c, b, a] (by decide)
    generalize F73_6 200000 (199997 + 1) = G at *
    simp only [B73_6, iteP_eq]
    have w1 : within (1 : Int) 4 = true := rfl
    have w2 : within (2 : Int) 4 = true := rfl
    rw [if_pos (by decide), if_pos w2]
    show Option.bind (some c) _ = _
    rw [Option.bind_some, if_pos w1]
    show Option.bind (some b) _ = _
    rw [Option.bind_some, if_pos w1]
    show Option.bind (some b) _ = _
    rw [Option.bind_some, if_pos w2]
    show Option.bind (some c) _ = _
    rw [Option.bind_some, show IntKind.wrap .i64 ((1 : Int) + 1) = 2 from rfl, show IntKind.wrap .i64 ((2 : Int) - 1) = 1 from rfl]
    show Option.bind (G (2, 1, 0, 4, [d, c, b, a])) _ = _
    rw [hn]
    rfl
  have h1 : F73_6 200000 (199999 + 1) (0, 3, 0, 4, [a, b, c, d]) = some [d, c, b, a] := by
    show B73_6 200000 (F73_6 200000 (199998 + 1)) _ = _
    generalize F73_6 200000 (199998 + 1) = G at *
    simp only [B73_6, iteP_eq]
    have w1 : within (0 : Int) 4 = true := rfl
    have w2 : within (3 : Int) 4 = true := rfl
    rw [if_pos (by decide), if_pos w2]
    show Option.bind (some d) _ = _
    rw [Option.bind_some, if_pos w1]
    show Option.bind (some a) _ = _
    rw [Option.bind_some, if_pos w1]
    show Option.bind (some a) _ = _
    rw [Option.bind_some, if_pos w2]
    show Option.bind (some d) _ = _
    rw [Option.bind_some, show IntKind.wrap .i64 ((0 : Int) + 1) = 1 from rfl, show IntKind.wrap .i64 ((3 : Int) - 1) = 2 from rfl]
    show Option.bind (G (1, 2, 0, 4, [d, b, c, a])) _ = _
    rw [h2]
    rfl
  simp only [F73]
  rw [show IntKind.wrap .i64 (((4 : Nat) : Int) - 1) = 3 from rfl]
  show Option.bind (F73_6 200000 (199999 + 1) _) _ = _
  rw [h1, Option.bind_some]
def by4 (n k : Nat) : Int := ((n / 256 ^ k % 256 : Nat) : Int)
def put4 (n : Nat) : ByteArray := stringOf [by4 n 3, by4 n 2, by4 n 1, by4 n 0]
theorem put4_size (n : Nat) : (put4 n).size = 4 := by unfold put4; rw [stringOf_size]; rfl
theorem by4_range (n k : Nat) : 0 ≤ by4 n k ∧ by4 n k < 256 := by unfold by4; omega
theorem fdiv_nat (n m : Nat) : Int.fdiv (n : Int) (m : Int) = ((n / m : Nat) : Int) := by
  rw [Int.fdiv_eq_ediv_of_nonneg _ (by omega)]; rfl
theorem put_step (n k : Nat) (hk : k ≤ 3) : IntKind.wrap .u8 (Int.fdiv (n : Int) ((2 : Int) ^ min (Int.toNat (IntKind.wrap .i64 ((8 : Int) * (k : Int)))) 64)) = by4 n k := by
  have w : IntKind.wrap .i64 ((8 : Int) * (k : Int)) = ((8 * k : Nat) : Int) := by rw [wrap_i64 (by omega) (by omega)]; omega
  have e : (2 : Int) ^ min (Int.toNat ((8 * k : Nat) : Int)) 64 = ((256 ^ k : Nat) : Int) := by
    rcases (by omega : k = 0 ∨ k = 1 ∨ k = 2 ∨ k = 3) with rfl | rfl | rfl | rfl <;> rfl
  rw [w, e, fdiv_nat, wrap_u8]
  unfold by4
  omega
theorem put_round (f : Nat) (n k : Nat) (hk : k ≤ 3) (l : List Int) (hl : l.length = 4) :
    F60_122 200000 (f + 1) ((k : Int), 4, (n : Int), l) = F60_122 200000 f (((k + 1 : Nat) : Int), 4, (n : Int), l.set k (by4 n k)) := by
  have w : IntKind.wrap .i64 ((8 : Int) * (k : Int)) = ((8 * k : Nat) : Int) := by rw [wrap_i64 (by omega) (by omega)]; omega
  have w2 : IntKind.wrap .i64 ((k : Int) + 1) = ((k + 1 : Nat) : Int) := by rw [wrap_i64 (by omega) (by omega)]; omega
  have hp := put_step n k hk
  show B60_122 200000 (F60_122 200000 f) _ = _
  generalize F60_122 200000 f = G
  simp only [B60_122, iteP_eq]
  rw [ifT (by omega), if_neg (by rw [w]; simp only [decide_eq_true_eq]; omega), if_pos (within_nat (by omega)), Int.toNat_natCast, get_int (by omega), Option.bind_some, hp, w2, Option.bind_fun_some]
theorem F48_put {n : Nat} (hn : n < 4294967296) : F48 200000 (4, (n : Int)) = some (put4 n, 0) := by
  have hloop : F60_122 200000 200000 (0, 4, (n : Int), [0, 0, 0, 0]) = some [by4 n 0, by4 n 1, by4 n 2, by4 n 3] := by
    have h0 := put_round 199999 n 0 (by decide) [0, 0, 0, 0] rfl
    have h1 := put_round 199998 n 1 (by decide) [by4 n 0, 0, 0, 0] rfl
    have h2 := put_round 199997 n 2 (by decide) [by4 n 0, by4 n 1, 0, 0] rfl
    have h3 := put_round 199996 n 3 (by decide) [by4 n 0, by4 n 1, by4 n 2, 0] rfl
    have hend : F60_122 200000 (199995 + 1) (((4 : Nat) : Int), 4, (n : Int), [by4 n 0, by4 n 1, by4 n 2, by4 n 3]) = some [by4 n 0, by4 n 1, by4 n 2, by4 n 3] := by
      show B60_122 200000 (F60_122 200000 199995) _ = _
      generalize F60_122 200000 199995 = G
      simp only [B60_122, iteP_eq]
      rw [if_neg (by simp)]
    exact h0.trans (h1.trans (h2.trans (h3.trans hend)))
  have hr : ∀ x ∈ [by4 n 0, by4 n 1, by4 n 2, by4 n 3], 0 ≤ x ∧ x < 256 := by
    intro x hx
    simp only [List.mem_cons, List.not_mem_nil, or_false] at hx
    rcases hx with rfl | rfl | rfl | rfl <;> exact by4_range _ _
  have hb := bytes_string _ hr
  have w : IntKind.wrap .i64 ((8 : Int) * 4) = 32 := rfl
  have hsh : Int.fdiv (n : Int) ((2 : Int) ^ min (Int.toNat 32) 64) = 0 := by
    show Int.fdiv (n : Int) ((4294967296 : Nat) : Int) = 0
    rw [fdiv_nat, Nat.div_eq_of_lt hn]
    rfl
  have hlit : F60 200000 (4, (n : Int)) = some (stringOf [by4 n 0, by4 n 1, by4 n 2, by4 n 3], 0) := by
    simp only [F60, F72, iteP_eq]
    rw [if_neg (by decide), if_neg (by decide), Option.bind_some, if_neg (by decide), ifF (by omega), w, if_neg (by decide), hsh, if_neg (by decide), if_pos (by decide)]
    show Option.bind (F60_122 200000 200000 (0, 4, (n : Int), [0, 0, 0, 0])) _ = _
    rw [hloop, Option.bind_some]
  have htur : F61 200000 (stringOf [by4 n 0, by4 n 1, by4 n 2, by4 n 3]) = some (put4 n) := by
    simp only [F61, iteP_eq]
    rw [if_pos (by rw [stringOf_size]; rfl), hb]
    show Option.bind (F73 200000 (0, 4, [by4 n 0, by4 n 1, by4 n 2, by4 n 3])) _ = _
    rw [F73_four, Option.bind_some]
    rfl
  simp only [F48]
  rw [hlit, Option.bind_some]
  simp only
  rw [htur, Option.bind_some]
end Go.Proofs.YtgddhgpljnljaaaGreat.Am
set_option maxRecDepth 100000
namespace Go.Proofs.YtgddhgpljnljaaaGreat.Am
open Go.Am
def by44 (n : Nat) : List Int := [by4 n 3, by4 n 2, by4 n 1, by4 n 0]
theorem by44_range (n : Nat) : ∀ x ∈ by44 n, 0 ≤ x ∧ x < 256 := by
  intro x hx
  simp only [by44, List.mem_cons, List.not_mem_nil, or_false] at hx
  rcases hx with rfl | rfl | rfl | rfl <;> exact by4_range _ _
theorem bytes_put4 (n : Nat) : bytesOf (put4 n) = by44 n := bytes_string _ (by44_range n)
theorem F32a_add (t : ByteArray) (e : Int) (l : List Int) (h : l.length + t.size ≤ 1000000) : F32a 200000 (t, e, l) = some ((t.size : Int), e, l ++ bytesOf t) := by
  simp only [F32a, F49a, iteP_eq, Option.bind_some]
  rw [ifT (by rw [bytesOf_length]; omega)]
theorem ints4 {n : Nat} (hn : n ≤ 5000) (e : Int) (l : List Int) (hl : l.length ≤ 100000) : F37a 200000 (4, [(n : Int)], e, l) = some (e, l ++ by44 n) := by
  have hend : F37a_6 200000 (199998 + 1) (1, 1, [(n : Int)], 4, e, l ++ by44 n) = some (e, l ++ by44 n) := by
    show B37a_6 200000 (F37a_6 200000 199998) _ = _
    generalize F37a_6 200000 199998 = G
    simp only [B37a_6, iteP_eq]
    rw [if_neg (by decide)]
  have h1 : F37a_6 200000 (199999 + 1) (0, 1, [(n : Int)], 4, e, l) = some (e, l ++ by44 n) := by
    show B37a_6 200000 (F37a_6 200000 (199998 + 1)) _ = _
    generalize F37a_6 200000 (199998 + 1) = G at *
    simp only [B37a_6, iteP_eq]
    rw [if_pos (by decide), if_pos (show within (0 : Int) [(n : Int)].length = true from rfl)]
    show Option.bind (some (n : Int)) _ = _
    rw [Option.bind_some, F48_put (by omega), Option.bind_some]
    show Option.bind (F39a 200000 (true, 1, e, l)) _ = _
    rw [show F39a 200000 (true, 1, e, l) = some (e, l) from rfl, Option.bind_some, F32a_add _ _ _ (by rw [put4_size]; simp only; omega), Option.bind_some, bytes_put4]
    show Option.bind (G (1, 1, [(n : Int)], 4, e, l ++ by44 n)) _ = _
    rw [hend, Option.bind_some]
  simp only [F37a]
  show Option.bind (F37a_6 200000 (199999 + 1) (0, 1, [(n : Int)], 4, e, l)) _ = _
  rw [h1, Option.bind_some]
theorem F37_3 : F37 200000 (1, [3, 0, 0, 0], 0, []) = some (.inl (0, [3, 0, 0, 0])) := by kernel_rfl
def cutL (t : ByteArray) : List Int := [3, 0, 0, 0] ++ by44 t.size ++ bytesOf t
theorem F18_cut (t : ByteArray) (ht : t.size ≤ 5000) : F18 200000 (5, false, 0, 0, 0, 0, 0, 0, 0, false, false, 0, 0, 0, 0, 0, 0, [], t) = some (if t.size ≤ 4096 then (stringOf (cutL t), 0) else (ByteArray.mk #[], 1)) := by
  simp only [F18, iteP_eq]
  rw [if_neg (by decide), if_neg (by decide), if_pos (by decide), F37_3, Option.bind_some]
  simp only
  have h115 : ∀ e : Int, e = (if t.size ≤ 4096 then 0 else 1) → F38 200000 (t, 0, [3, 0, 0, 0]) = some (e, cutL t) := by
    intro e he
    simp only [F38]
    have h1 : F39a 200000 (decide ((t.size : Int) ≤ 4096), 1, 0, [3, 0, 0, 0]) = some (e, [3, 0, 0, 0]) := by
      by_cases h : t.size ≤ 4096
      · rw [if_pos h] at he
        subst he
        rw [decide_eq_true (by omega : (t.size : Int) ≤ 4096)]
        rfl
      · rw [if_neg h] at he
        subst he
        rw [decide_eq_false (by omega : ¬ (t.size : Int) ≤ 4096)]
        rfl
    rw [h1, Option.bind_some, ints4 ht _ _ (by simp), Option.bind_some, F32a_add _ _ _ (by simp [by44]; omega), Option.bind_some]
    rfl
  rw [h115 _ rfl, Option.bind_some]
  simp only [F40, iteP_eq]
  by_cases h : t.size ≤ 4096
  · have hlen : (cutL t).length = 8 + t.size := by simp [cutL, by44, bytesOf_length]; omega
    rw [if_pos h, if_pos h, if_neg (by decide), ifT (by rw [hlen]; omega), Option.bind_some]
  · rw [if_neg h, if_neg h, if_pos (by decide), Option.bind_some]
theorem F18_bell : F18 200000 (7, false, 0, 0, 0, 0, 0, 0, 0, false, false, 0, 0, 0, 0, 0, 0, [], ByteArray.mk #[]) = some (ByteArray.mk #[2], 0) := by kernel_rfl
theorem extract_string (l : List Int) (a b : Nat) : (stringOf l).extract a b = stringOf ((l.drop a).take (b - a)) := by
  unfold stringOf
  rw [List.map_take, List.map_drop]
  apply ByteArray.ext
  rw [ByteArray.data_extract]
  apply Array.ext'
  simp
theorem F78_bytes (k at_ : Nat) (s : ByteArray) (h : at_ + k ≤ s.size) (hs : s.size ≤ 1000000) : F78 200000 ((k : Int), s, (at_ : Int), 0) = some (s.extract at_ (at_ + k), s, ((at_ + k : Nat) : Int), 0) := by
  have w1 : IntKind.wrap .i64 ((s.size : Int) - (at_ : Int)) = ((s.size - at_ : Nat) : Int) := by rw [wrap_i64 (by omega) (by omega)]; omega
  have w2 : IntKind.wrap .i64 ((at_ : Int) + (k : Int)) = ((at_ + k : Nat) : Int) := by rw [wrap_i64 (by omega) (by omega)]; omega
  have w3 : IntKind.wrap .i64 (((at_ + k : Nat) : Int) - (k : Int)) = (at_ : Int) := by rw [wrap_i64 (by omega) (by omega)]; omega
  simp only [F78, F85, iteP_eq, Option.bind_some, w1, w2, w3, Int.toNat_natCast]
  rw [ifF (by omega), ifF (by omega), if_neg (by decide), ifT (by omega), ifT (by omega)]
theorem F61_four (a b c d : Int) (h : ∀ x ∈ [a, b, c, d], 0 ≤ x ∧ x < 256) : F61 200000 (stringOf [a, b, c, d]) = some (stringOf [d, c, b, a]) := by
  simp only [F61, iteP_eq]
  rw [if_pos (by rw [stringOf_size]; rfl), bytes_string _ h]
  show Option.bind (F73 200000 (0, 4, [a, b, c, d])) _ = _
  rw [F73_four, Option.bind_some]
theorem F76_pass (N : Nat) (s : ByteArray) (p e : Int) : ∀ (k : Nat) (a i c : Int) (l : List Int), F76_122 N k (a, i, c, s, p, e, l) = (F76_122 N k (a, i, c, ByteArray.mk #[], 0, 0, l)).map fun r => (r.1, s, p, e)
  | 0, a, i, c, l => rfl
  | k + 1, a, i, c, l => by
    show B76_122 N (F76_122 N k) _ = Option.map _ (B76_122 N (F76_122 N k) _)
    simp only [B76_122, iteP_eq]
    split
    · split
      · cases hg : l[i.toNat]? with
        | none => rfl
        | some y =>
          simp only [Option.bind_some]
          split
          · rfl
          · rw [F76_pass N s p e k]
            cases F76_122 N k (_, _, c, ByteArray.mk #[], 0, 0, l) <;> rfl
      · rfl
    · rfl
noncomputable def chkN (n : Nat) : Bool := match F76_122 200000 200000 (0, 0, 4, ByteArray.mk #[], 0, 0, [by4 n 0, by4 n 1, by4 n 2, by4 n 3]) with
  | some r => decide (r.1 = (n : Int))
  | none => false
theorem chk_all : (List.range 4097).all chkN = true := by kernel_rfl
theorem F66_four {n : Nat} (hn : n ≤ 4096) (s : ByteArray) (at_ : Nat) (h : at_ + 4 ≤ s.size) (hs : s.size ≤ 1000000) (he : s.extract at_ (at_ + 4) = put4 n) : F66 200000 (4, s, (at_ : Int), 0) = some ((n : Int), s, ((at_ + 4 : Nat) : Int), 0) := by
  have hv : F76_122 200000 200000 (0, 0, 4, s, ((at_ + 4 : Nat) : Int), 0, [by4 n 0, by4 n 1, by4 n 2, by4 n 3]) = some ((n : Int), s, ((at_ + 4 : Nat) : Int), 0) := by
    rw [F76_pass]
    have := List.all_eq_true.1 chk_all n (List.mem_range.2 (by omega))
    unfold chkN at this
    cases hx : F76_122 200000 200000 (0, 0, 4, ByteArray.mk #[], 0, 0, [by4 n 0, by4 n 1, by4 n 2, by4 n 3]) with
    | none => rw [hx] at this; cases this
    | some r =>
      rw [hx] at this
      simp only [decide_eq_true_eq] at this
      rw [Option.map_some, this]
  have h50 := F78_bytes 4 at_ s h hs
  simp only [F66, F76, F72, iteP_eq]
  rw [if_neg (by decide), if_neg (by decide), Option.bind_some, if_neg (by decide), show ((4 : Nat) : Int) = 4 from rfl] at *
  rw [h50, Option.bind_some]
  simp only
  rw [he, show put4 n = stringOf [by4 n 3, by4 n 2, by4 n 1, by4 n 0] from rfl, F61_four _ _ _ _ (by44_range n), Option.bind_some, if_pos (by rw [stringOf_size]; rfl), bytes_string _ (by
    intro x hx
    simp only [List.mem_cons, List.not_mem_nil, or_false] at hx
    rcases hx with rfl | rfl | rfl | rfl <;> exact by4_range _ _)]
  show Option.bind (Option.bind (F76_122 200000 200000 (0, 0, 4, s, ((at_ + 4 : Nat) : Int), 0, [by4 n 0, by4 n 1, by4 n 2, by4 n 3])) _) _ = _
  rw [hv]
  rfl
theorem F66_kind (s : ByteArray) (h : 1 ≤ s.size) (hs : s.size ≤ 1000000) (he : s.extract 0 1 = stringOf [3]) : F66 200000 (1, s, 0, 0) = some (3, s, 1, 0) := by
  have h50 := F78_bytes 1 0 s h hs
  simp only [F66, F76, F72, iteP_eq]
  rw [if_pos (by decide), Option.bind_some, if_neg (by decide)]
  rw [show ((1 : Nat) : Int) = 1 from rfl, show ((0 : Nat) : Int) = 0 from rfl] at h50
  rw [h50, Option.bind_some]
  simp only
  rw [show 0 + 1 = 1 from rfl, he, show F61 200000 (stringOf [3]) = some (stringOf [3]) by kernel_rfl, Option.bind_some, if_pos (by decide)]
  have hv : F76_122 200000 200000 (0, 0, ((bytesOf (stringOf [3])).length : Int), s, 1, 0, bytesOf (stringOf [3])) = some (3, s, 1, 0) := by
    rw [F76_pass, show F76_122 200000 200000 (0, 0, ((bytesOf (stringOf [3])).length : Int), ByteArray.mk #[], 0, 0, bytesOf (stringOf [3])) = some (3, ByteArray.mk #[], 0, 0) by kernel_rfl]
    rfl
  rw [hv]
  rfl
theorem F90_cut (t : ByteArray) (ht : t.size ≤ 4096) : F90 200000 (stringOf (cutL t)) = some (5, false, 0, 0, 0, 0, 0, 0, 0, false, false, 0, 0, 0, 0, 0, 0, t, ((8 + t.size : Nat) : Int), 0, []) := by
  have hlen : (cutL t).length = 8 + t.size := by simp [cutL, by44, bytesOf_length]; omega
  have hsz : (stringOf (cutL t)).size = 8 + t.size := by rw [stringOf_size, hlen]
  have e1 : (stringOf (cutL t)).extract 0 1 = stringOf [3] := by rw [extract_string]; rfl
  have e4 : (stringOf (cutL t)).extract 4 (4 + 4) = put4 t.size := by rw [extract_string]; rfl
  have e8 : (stringOf (cutL t)).extract 8 (8 + t.size) = t := by
    rw [extract_string, show (cutL t).drop 8 = bytesOf t from rfl, Nat.add_sub_cancel_left, List.take_of_length_le (by rw [bytesOf_length]; omega), string_bytes]
  have h1 := F66_kind (stringOf (cutL t)) (by omega) (by omega) e1
  have h2 := F78_bytes 3 1 (stringOf (cutL t)) (by omega) (by omega)
  have h3 := F66_four ht (stringOf (cutL t)) 4 (by omega) (by omega) e4
  have h4 := F78_bytes t.size 8 (stringOf (cutL t)) (by omega) (by omega)
  have h51 : F68 200000 (0, stringOf (cutL t), 4, 0) = some (t, 0, stringOf (cutL t), ((8 + t.size : Nat) : Int), 0) := by
    simp only [F68, F77, iteP_eq]
    rw [show (4 : Int) = ((4 : Nat) : Int) from rfl, show F66 200000 (((4 : Nat) : Int), stringOf (cutL t), ((4 : Nat) : Int), 0) = _ from h3, Option.bind_some]
    simp only
    rw [ifF (by omega), Option.bind_some]
    simp only
    rw [if_neg (by decide), show ((4 + 4 : Nat) : Int) = ((8 : Nat) : Int) from rfl, h4, Option.bind_some, e8]
  simp only [F90, F93, F74, F94, iteP_eq, Option.bind_some]
  rw [h1, Option.bind_some]
  simp only
  rw [if_neg (by decide), if_neg (by decide), if_pos (by decide), show (3 : Int) = ((3 : Nat) : Int) from rfl, show (1 : Int) = ((1 : Nat) : Int) from rfl, h2, Option.bind_some]
  simp only
  rw [show ((1 + 3 : Nat) : Int) = 4 from rfl, h51, Option.bind_some]
  simp only [Option.bind_some, F67, F75]
  rw [if_pos (by decide), if_neg (by decide)]
  rfl
end Go.Proofs.YtgddhgpljnljaaaGreat.Am
set_option maxRecDepth 100000
namespace Go.Proofs.YtgddhgpljnljaaaGreat.Am
open Go.Am
theorem add_any (t : ByteArray) (e : Int) (l : List Int) (h : l.length + t.size ≤ 140737488355328) : F32a 200000 (t, e, l) = some ((t.size : Int), e, l ++ bytesOf t) := by
  simp only [F32a, F49a, iteP_eq, Option.bind_some]
  rw [ifT (by rw [bytesOf_length]; omega)]
theorem put_any (n : Nat) (hn : n ≤ 140737488355328) : ∃ s e, F48 200000 (4, (n : Int)) = some (s, e) ∧ s.size ≤ 4 := by
  by_cases h : n < 4294967296
  · exact ⟨_, _, F48_put h, by rw [put4_size]; exact Nat.le_refl _⟩
  · refine ⟨ByteArray.mk #[], 1, ?_, by decide⟩
    have w : IntKind.wrap .i64 ((8 : Int) * 4) = 32 := rfl
    have hsh : (Int.fdiv (n : Int) ((2 : Int) ^ min (Int.toNat 32) 64) != 0) = true := by
      show (Int.fdiv (n : Int) ((4294967296 : Nat) : Int) != 0) = true
      rw [fdiv_nat]
      have : 1 ≤ n / 4294967296 := by omega
      exact bne_iff_ne.2 (by omega)
    have hlit : F60 200000 (4, (n : Int)) = some (ByteArray.mk #[], 1) := by
      simp only [F60, F72, iteP_eq]
      rw [if_neg (by decide), if_neg (by decide), Option.bind_some, if_neg (by decide), ifF (by omega), w, if_neg (by decide), if_pos hsh]
    simp only [F48]
    rw [hlit, Option.bind_some]
    have ht : F61 200000 (ByteArray.mk #[]) = some (ByteArray.mk #[]) := by kernel_rfl
    simp only
    rw [ht, Option.bind_some]
theorem ints_any (n : Nat) (hn : n ≤ 140737488355328) (e : Int) (l : List Int) (hl : l.length ≤ 1000) : ∃ e' l', F37a 200000 (4, [(n : Int)], e, l) = some (e', l') ∧ l'.length ≤ l.length + 4 := by
  obtain ⟨s, x, hp, hs⟩ := put_any n hn
  obtain ⟨e1, hc⟩ : ∃ e1, F39a 200000 (x == (0 : Int), 1, e, l) = some (e1, l) := by
    simp only [F39a, iteP_eq]
    split
    · split
      · exact ⟨_, rfl⟩
      · exact ⟨_, rfl⟩
    · exact ⟨_, rfl⟩
  refine ⟨e1, l ++ bytesOf s, ?_, by rw [List.length_append, bytesOf_length]; omega⟩
  have hend : F37a_6 200000 (199998 + 1) (1, 1, [(n : Int)], 4, e1, l ++ bytesOf s) = some (e1, l ++ bytesOf s) := by
    show B37a_6 200000 (F37a_6 200000 199998) _ = _
    generalize F37a_6 200000 199998 = G
    simp only [B37a_6, iteP_eq]
    rw [if_neg (by decide)]
  have h1 : F37a_6 200000 (199999 + 1) (0, 1, [(n : Int)], 4, e, l) = some (e1, l ++ bytesOf s) := by
    show B37a_6 200000 (F37a_6 200000 (199998 + 1)) _ = _
    generalize F37a_6 200000 (199998 + 1) = G at *
    simp only [B37a_6, iteP_eq]
    rw [if_pos (by decide), if_pos (show within (0 : Int) [(n : Int)].length = true from rfl)]
    show Option.bind (some (n : Int)) _ = _
    rw [Option.bind_some, hp, Option.bind_some]
    simp only
    rw [hc, Option.bind_some, add_any _ _ _ (by simp only; omega), Option.bind_some]
    show Option.bind (G (1, 1, [(n : Int)], 4, e1, l ++ bytesOf s)) _ = _
    rw [hend, Option.bind_some]
  simp only [F37a]
  show Option.bind (F37a_6 200000 (199999 + 1) (0, 1, [(n : Int)], 4, e, l)) _ = _
  rw [h1, Option.bind_some]
section
variable (b1 : Bool) (a2 r0 r1 r2 r3 f0 f1 : Int) (f2 f3 : Bool) (f4 f5 f6 f7 f8 f9 : Int) (en : List Int) (t : ByteArray)
theorem say_cut (ht : t.size ≤ 4096) : F18 200000 (5, b1, a2, r0, r1, r2, r3, f0, f1, f2, f3, f4, f5, f6, f7, f8, f9, en, t) = some (stringOf (cutL t), 0) := by
  have h := F18_cut t (by omega)
  rw [if_pos ht] at h
  simp only [F18, iteP_eq] at h ⊢
  rw [if_neg (by decide), if_neg (by decide), if_pos (by decide)] at h ⊢
  exact h
theorem say_any (ht : t.size ≤ 140737488351232) : ∃ r, F18 200000 (5, b1, a2, r0, r1, r2, r3, f0, f1, f2, f3, f4, f5, f6, f7, f8, f9, en, t) = some r := by
  simp only [F18, iteP_eq]
  rw [if_neg (by decide), if_neg (by decide), if_pos (by decide), F37_3, Option.bind_some]
  simp only
  obtain ⟨e1, hc⟩ : ∃ e1, F39a 200000 (decide ((t.size : Int) ≤ 4096), 1, 0, [3, 0, 0, 0]) = some (e1, [3, 0, 0, 0]) := by
    simp only [F39a, iteP_eq]
    split
    · exact ⟨_, rfl⟩
    · exact ⟨_, rfl⟩
  obtain ⟨e2, l2, h2, h3⟩ := ints_any t.size (by omega) e1 [3, 0, 0, 0] (by simp)
  have h38 : F38 200000 (t, 0, [3, 0, 0, 0]) = some (e2, l2 ++ bytesOf t) := by
    simp only [F38]
    rw [hc, Option.bind_some, h2, Option.bind_some, add_any _ _ _ (by simp only [List.length_cons, List.length_nil] at h3; simp only; omega), Option.bind_some]
  rw [h38, Option.bind_some]
  simp only [List.length_cons, List.length_nil] at h3
  have hl : (l2 ++ bytesOf t).length ≤ 140737488355328 := by rw [List.length_append, bytesOf_length]; omega
  have h40 : ∃ r, F40 200000 (e2, l2 ++ bytesOf t) = some r := by
    simp only [F40, iteP_eq]
    split
    · exact ⟨_, rfl⟩
    · by_cases h0 : 0 < (l2 ++ bytesOf t).length
      · rw [ifT ⟨h0, hl⟩]; exact ⟨_, rfl⟩
      · rw [ifF (by omega), ifT (by omega)]; exact ⟨_, rfl⟩
  obtain ⟨r, hr⟩ := h40
  rw [hr, Option.bind_some]
  cases r with
  | inl y => exact ⟨_, rfl⟩
  | inr y => exact ⟨_, rfl⟩
theorem say_upd : F18 200000 (6, b1, 0, r0, r1, r2, r3, f0, f1, f2, f3, f4, f5, f6, f7, f8, f9, en, t) = some (ByteArray.mk #[0, 0, 0, 0], 0) := by
  have h : F18 200000 (6, false, 0, 0, 0, 0, 0, 0, 0, false, false, 0, 0, 0, 0, 0, 0, [], ByteArray.mk #[]) = some (ByteArray.mk #[0, 0, 0, 0], 0) := by kernel_rfl
  simp only [F18] at h ⊢
  exact h
theorem say_bell : F18 200000 (7, b1, a2, r0, r1, r2, r3, f0, f1, f2, f3, f4, f5, f6, f7, f8, f9, en, t) = some (ByteArray.mk #[2], 0) := by
  have h := F18_bell
  simp only [F18, iteP_eq] at h ⊢
  rw [if_neg (by decide), if_pos (by decide)] at h ⊢
  exact h
theorem say_none (k : Int) (h5 : k ≠ 5) (h6 : k ≠ 6) (h7 : k ≠ 7) : F18 200000 (k, b1, a2, r0, r1, r2, r3, f0, f1, f2, f3, f4, f5, f6, f7, f8, f9, en, t) = some (ByteArray.mk #[], 1) := by
  have h : F18 200000 (9, false, 0, 0, 0, 0, 0, 0, 0, false, false, 0, 0, 0, 0, 0, 0, [], ByteArray.mk #[]) = some (ByteArray.mk #[], 1) := by kernel_rfl
  rw [← h]
  simp only [F18, iteP_eq]
  rw [if_neg (by simp; exact h6), if_neg (by simp; exact h7), if_neg (by simp; exact h5)]
  rfl
end
end Go.Proofs.YtgddhgpljnljaaaGreat.Am
set_option maxRecDepth 100000
namespace Go.Proofs.YtgddhgpljnljaaaGreat.Am
open Go.Am
abbrev MS : Type := List (Int × (Bool × (Int × ((Int × (Int × (Int × (Int × Unit)))) × ((Int × (Int × (Bool × (Bool × (Int × (Int × (Int × (Int × (Int × (Int × Unit)))))))))) × ((List Int) × (ByteArray × Unit)))))))
def msgV (k n : Int) (t : ByteArray) : Int × (Bool × (Int × ((Int × (Int × (Int × (Int × Unit)))) × ((Int × (Int × (Bool × (Bool × (Int × (Int × (Int × (Int × (Int × (Int × Unit)))))))))) × ((List Int) × (ByteArray × Unit)))))) := (k, false, n, (0, 0, 0, 0, ()), (0, 0, false, false, 0, 0, 0, 0, 0, 0, ()), [], t, ())
def OUT : ByteArray := ByteArray.mk #[82, 70, 66, 32, 48, 48, 51, 46, 48, 48, 56, 10, 1, 1]
theorem hello_B : F9 200000 (2, 2, 32, 24, false, true, 255, 255, 255, 16, 8, 0) = some (ByteArray.mk #[82, 70, 66, 32, 48, 48, 51, 46, 48, 48, 56, 10, 1, 1, 0, 0, 0, 0, 0, 2, 0, 2, 32, 24, 0, 1, 0, 255, 0, 255, 0, 255, 16, 8, 0, 0, 0, 0, 0, 0, 0, 1, 120]) := by kernel_rfl
theorem hello_F : F8 200000 (ByteArray.mk #[82, 70, 66, 32, 48, 48, 51, 46, 48, 48, 56, 10, 1, 1, 0, 0, 0, 0, 0, 2, 0, 2, 32, 24, 0, 1, 0, 255, 0, 255, 0, 255, 16, 8, 0, 0, 0, 0, 0, 0, 0, 1, 120], ByteArray.mk #[], ByteArray.mk #[], 29, 0, false, ByteArray.mk #[], 0, 0, 0, false, false, 0, 0, 0, 0, 0, 0, 0, 0, 0, []) =
    some (.inr (ByteArray.mk #[], ByteArray.mk #[82, 70, 66, 32, 48, 48, 51, 46, 48, 48, 56, 10, 1, 1], 83, 0, false, ByteArray.mk #[], 0, 32, 24, false, true, 255, 255, 255, 16, 8, 0, 0, 0, 0, 2, 2, [], [0, 0, 0, 0])) := by kernel_rfl
theorem works5 : F5 200000 () = some true := by kernel_rfl
theorem parse_nil : F90 200000 (ByteArray.mk #[]) = some (0, false, 0, 0, 0, 0, 0, 0, 0, false, false, 0, 0, 0, 0, 0, 0, ByteArray.mk #[], 0, 2, []) := by kernel_rfl
theorem parse_upd : F90 200000 (ByteArray.mk #[0, 0, 0, 0]) = some (6, false, 0, 0, 0, 0, 0, 0, 0, false, false, 0, 0, 0, 0, 0, 0, ByteArray.mk #[], 4, 0, []) := by kernel_rfl
theorem parse_bell : F90 200000 (ByteArray.mk #[2]) = some (7, false, 0, 0, 0, 0, 0, 0, 0, false, false, 0, 0, 0, 0, 0, 0, ByteArray.mk #[], 1, 0, []) := by kernel_rfl
section
variable (u : Int) (H : MS)
theorem feed_end (k : Nat) : F8a_14 200000 (k + 1) (ByteArray.mk #[], OUT, 83, 0, false, ByteArray.mk #[], 0, 32, 24, false, true, 255, 255, 255, 16, 8, 0, 0, 0, u, 2, 2, H, [0, 0, 0, 0]) = some (ByteArray.mk #[], OUT, 83, 0, false, ByteArray.mk #[], 0, 32, 24, false, true, 255, 255, 255, 16, 8, 0, 0, 0, u, 2, 2, H, [0, 0, 0, 0]) := by
  have h83 : F83a 200000 (ByteArray.mk #[], OUT, 83, 0, false, ByteArray.mk #[], 0, 32, 24, false, true, 255, 255, 255, 16, 8, 0, 0, 0, u, 2, 2, H, [0, 0, 0, 0]) = some (0, 2, ByteArray.mk #[], OUT, 83, 0, false, ByteArray.mk #[], 0, 32, 24, false, true, 255, 255, 255, 16, 8, 0, 0, 0, u, 2, 2, H, [0, 0, 0, 0]) := by
    simp only [F83a, iteP_eq]
    rw [parse_nil, Option.bind_some]
    rfl
  show B8a_14 200000 (F8a_14 200000 k) _ = _
  generalize F8a_14 200000 k = G
  simp only [B8a_14, iteP_eq]
  rw [if_neg (by decide), if_neg (by decide), if_neg (by decide), if_neg (by decide), if_pos (by decide), h83, Option.bind_some]
  rfl
theorem extract_all (s : ByteArray) : s.extract s.size s.size = ByteArray.mk #[] := by
  apply ByteArray.ext
  rw [ByteArray.data_extract]
  simp
theorem feed_upd : F8a 200000 (ByteArray.mk #[0, 0, 0, 0], ByteArray.mk #[], OUT, 83, 0, false, ByteArray.mk #[], 0, 32, 24, false, true, 255, 255, 255, 16, 8, 0, 0, 0, u, 2, 2, H, [0, 0, 0, 0]) = some (ByteArray.mk #[], OUT, 83, 0, false, ByteArray.mk #[], 0, 32, 24, false, true, 255, 255, 255, 16, 8, 0, 0, 0, IntKind.wrap .i64 (u + 1), 2, 2, H, [0, 0, 0, 0]) := by
  have h83 : F83a 200000 (ByteArray.mk #[0, 0, 0, 0], OUT, 83, 0, false, ByteArray.mk #[], 0, 32, 24, false, true, 255, 255, 255, 16, 8, 0, 0, 0, u, 2, 2, H, [0, 0, 0, 0]) = some (4, 0, ByteArray.mk #[0, 0, 0, 0], OUT, 83, 0, false, ByteArray.mk #[], 0, 32, 24, false, true, 255, 255, 255, 16, 8, 0, 0, 0, IntKind.wrap .i64 (u + 1), 2, 2, H, [0, 0, 0, 0]) := by
    simp only [F83a, iteP_eq]
    rw [parse_upd, Option.bind_some]
    rfl
  have hend := feed_end (IntKind.wrap .i64 (u + 1)) H 199998
  simp only [F8a, iteP_eq]
  rw [if_neg (by decide), if_neg (by decide)]
  show Option.bind (B8a_14 200000 (F8a_14 200000 (199998 + 1)) (ByteArray.mk #[0, 0, 0, 0], OUT, 83, 0, false, ByteArray.mk #[], 0, 32, 24, false, true, 255, 255, 255, 16, 8, 0, 0, 0, u, 2, 2, H, [0, 0, 0, 0])) _ = _
  generalize F8a_14 200000 (199998 + 1) = G at *
  simp only [B8a_14, iteP_eq]
  rw [if_neg (by decide), if_neg (by decide), if_neg (by decide), if_neg (by decide), if_pos (by decide), h83, Option.bind_some]
  simp only
  rw [if_pos (by decide), ifT (show (0 : Int) ≤ 4 ∧ (4 : Int) ≤ (((ByteArray.mk #[0, 0, 0, 0]).size : Nat) : Int) from ⟨by decide, Int.le_refl 4⟩)]
  have e : ByteArray.extract (ByteArray.mk #[0, 0, 0, 0]) (Int.toNat 4) (ByteArray.size (ByteArray.mk #[0, 0, 0, 0])) = ByteArray.mk #[] := extract_all (ByteArray.mk #[0, 0, 0, 0])
  rw [e, hend, Option.bind_some, Option.bind_some]
theorem feed_msg (s : ByteArray) (k : Int) (t : ByteArray) (hk : k ≠ 6) (hH : H.length ≤ 1000) (hs : s.size ≤ 1000000) (hp : F90 200000 s = some (k, false, 0, 0, 0, 0, 0, 0, 0, false, false, 0, 0, 0, 0, 0, 0, t, (s.size : Int), 0, [])) :
    F8a 200000 (s, ByteArray.mk #[], OUT, 83, 0, false, ByteArray.mk #[], 0, 32, 24, false, true, 255, 255, 255, 16, 8, 0, 0, 0, u, 2, 2, H, [0, 0, 0, 0]) = some (ByteArray.mk #[], OUT, 83, 0, false, ByteArray.mk #[], 0, 32, 24, false, true, 255, 255, 255, 16, 8, 0, 0, 0, u, 2, 2, H ++ [msgV k 0 t], [0, 0, 0, 0]) := by
  have h83 : F83a 200000 (s, OUT, 83, 0, false, ByteArray.mk #[], 0, 32, 24, false, true, 255, 255, 255, 16, 8, 0, 0, 0, u, 2, 2, H, [0, 0, 0, 0]) = some ((s.size : Int), 0, s, OUT, 83, 0, false, ByteArray.mk #[], 0, 32, 24, false, true, 255, 255, 255, 16, 8, 0, 0, 0, u, 2, 2, H ++ [msgV k 0 t], [0, 0, 0, 0]) := by
    simp only [F83a, F92, iteP_eq]
    rw [hp, Option.bind_some]
    simp only
    rw [if_neg (by decide), if_neg (by simp; exact hk), ifT (by simp; omega), Option.bind_some]
    rfl
  have hend := feed_end u (H ++ [msgV k 0 t]) 199998
  have e0 : ByteArray.mk #[] ++ s = s := by
    apply ByteArray.ext
    simp
  simp only [F8a, iteP_eq]
  rw [if_neg (by decide), ifF (by show ¬ ((0 + s.size : Nat) : Int) > _; omega), e0]
  show Option.bind (B8a_14 200000 (F8a_14 200000 (199998 + 1)) (s, OUT, 83, 0, false, ByteArray.mk #[], 0, 32, 24, false, true, 255, 255, 255, 16, 8, 0, 0, 0, u, 2, 2, H, [0, 0, 0, 0])) _ = _
  generalize F8a_14 200000 (199998 + 1) = G at *
  simp only [B8a_14, iteP_eq]
  rw [if_neg (by decide), if_neg (by decide), if_neg (by decide), if_neg (by decide), if_pos (by decide), h83, Option.bind_some]
  simp only
  rw [if_pos (by decide), ifT (by omega), Int.toNat_natCast, extract_all, hend, Option.bind_some, Option.bind_some]
end
end Go.Proofs.YtgddhgpljnljaaaGreat.Am
set_option maxRecDepth 100000
namespace Go.Proofs.YtgddhgpljnljaaaGreat.Am
open Go.Am
theorem same_one (k : Int) (t : ByteArray) : F21 200000 (k, false, 0, 0, 0, 0, 0, 0, 0, false, false, 0, 0, 0, 0, 0, 0, [], t, k, false, 0, 0, 0, 0, 0, 0, 0, false, false, 0, 0, 0, 0, 0, 0, [], t) = some true := by
  simp only [F21, iteP_eq]
  rw [if_neg (by simp), if_neg (by decide), if_neg (by decide), if_neg (by decide), if_neg (by decide), if_neg (by simp), if_neg (by decide)]
  show Option.bind (B21_58 200000 (F21_58 200000 199999) _) _ = _
  simp only [B21_58, iteP_eq]
  rw [if_neg (by decide)]
  rfl
def good (H : MS) : Prop := ∀ m ∈ H, ∃ k t, m = msgV k 0 t
theorem same_loop (H : MS) (hg : good H) (hl : H.length ≤ 1000) : ∀ (suf pre : MS) (k : Nat), H = pre ++ suf → suf.length < k → F19_58 200000 k (H, H, ((pre.length : Nat) : Int)) = some (.inr ())
  | [], pre, k + 1, h, hk => by
    rw [List.append_nil] at h
    subst h
    show B19_58 200000 (F19_58 200000 k) _ = _
    simp only [B19_58, iteP_eq]
    rw [ifF (by omega)]
  | m :: suf, pre, k + 1, h, hk => by
    have hlen : H.length = pre.length + suf.length + 1 := by rw [h]; simp; omega
    have hget : H[pre.length]? = some m := by rw [h]; simp
    obtain ⟨q, t, rfl⟩ := hg m (by rw [h]; simp)
    have ih := same_loop H hg hl suf (pre ++ [msgV q 0 t]) k (by rw [h]; simp) (by simp at hk; omega)
    rw [List.length_append, List.length_singleton] at ih
    show B19_58 200000 (F19_58 200000 k) _ = _
    generalize F19_58 200000 k = G at *
    simp only [B19_58, iteP_eq]
    rw [ifT (by omega), if_pos (within_nat (by omega)), Int.toNat_natCast, hget, Option.bind_some]
    simp only [Option.bind_some]
    rw [if_pos (within_nat (by omega))]
    simp only [msgV]
    rw [same_one, Option.bind_some, if_neg (by decide), wrap_i64 (by omega) (by omega), show ((pre.length : Nat) : Int) + 1 = ((pre.length + 1 : Nat) : Int) by omega, ih]
    rfl
theorem same_all (H : MS) (hg : good H) (hl : H.length ≤ 1000) : F19 200000 (H, H) = some true := by
  have h := same_loop H hg hl H [] 200000 rfl (by omega)
  have h : F19_58 200000 200000 (H, H, 0) = _ := h
  simp only [F19, iteP_eq]
  rw [if_neg (by simp), h]
  rfl
theorem good_snoc {H : MS} (hg : good H) (k : Int) (t : ByteArray) : good (H ++ [msgV k 0 t]) := by
  intro m hm
  rcases List.mem_append.1 hm with h | h
  · exact hg m h
  · exact ⟨k, t, List.mem_singleton.1 h⟩
section
variable (L : MS) (i U u : Int) (H : MS) (hg : good H) (hl : H.length ≤ 100)
variable (k : Int) (b1 : Bool) (n r0 r1 r2 r3 f0 f1 : Int) (f2 f3 : Bool) (f4 f5 f6 f7 f8 f9 : Int) (en : List Int) (t : ByteArray)
include hg hl
theorem round_ok (ht : t.size ≤ 140737488351232) (hn : k = 6 → n = 0) :
    F4_261779b 200000 (L, U, i, true, ByteArray.mk #[], OUT, 83, 0, false, ByteArray.mk #[], 0, 32, 24, false, true, 255, 255, 255, 16, 8, 0, 0, 0, u, k, b1, n, r0, r1, r2, r3, f0, f1, f2, f3, f4, f5, f6, f7, f8, f9, en, t, H, 2, 2, H, [0, 0, 0, 0]) = some (.inl true) ∨
    ∃ u' H', F4_261779b 200000 (L, U, i, true, ByteArray.mk #[], OUT, 83, 0, false, ByteArray.mk #[], 0, 32, 24, false, true, 255, 255, 255, 16, 8, 0, 0, 0, u, k, b1, n, r0, r1, r2, r3, f0, f1, f2, f3, f4, f5, f6, f7, f8, f9, en, t, H, 2, 2, H, [0, 0, 0, 0]) =
        some (.inr (i, U, L, true, ByteArray.mk #[], OUT, 83, 0, false, ByteArray.mk #[], 0, 32, 24, false, true, 255, 255, 255, 16, 8, 0, 0, 0, u', H', 2, 2, H', [0, 0, 0, 0])) ∧ good H' ∧ H'.length ≤ H.length + 1 ∧ (k = 6 → u' = IntKind.wrap .i64 (u + 1)) ∧ (k ≠ 6 → u' = u) := by
  by_cases h6 : k = 6
  · subst h6
    cases hn rfl
    by_cases h5 : t.size ≤ 500
    · refine .inr ⟨IntKind.wrap .i64 (u + 1), H, ?_, hg, by omega, fun _ => rfl, fun h => absurd rfl h⟩
      simp only [F4_261779b, iteP_eq]
      rw [say_upd, Option.bind_some]
      simp only
      rw [if_neg (by decide), ifF (by omega), feed_upd, Option.bind_some]
      simp only
      rw [if_neg (by decide), if_neg (by decide)]
    · refine .inl ?_
      simp only [F4_261779b, iteP_eq]
      rw [say_upd, Option.bind_some]
      simp only
      rw [if_neg (by decide), ifT (by omega)]
  by_cases h7 : k = 7
  · subst h7
    by_cases h5 : t.size ≤ 500
    · refine .inr ⟨u, H ++ [msgV 7 0 (ByteArray.mk #[])], ?_, good_snoc hg _ _, by simp, fun h => absurd h (by decide), fun _ => rfl⟩
      have hf := feed_msg u H (ByteArray.mk #[2]) 7 (ByteArray.mk #[]) (by decide) (by omega) (by decide) parse_bell
      simp only [F4_261779b, iteP_eq]
      rw [say_bell, Option.bind_some]
      simp only
      rw [if_neg (by decide), ifF (by omega), hf, Option.bind_some]
      simp only
      rw [if_neg (by decide), if_pos (by decide), ifT (by simp only [List.length_cons, List.length_nil]; omega)]
      rfl
    · refine .inl ?_
      simp only [F4_261779b, iteP_eq]
      rw [say_bell, Option.bind_some]
      simp only
      rw [if_neg (by decide), ifT (by omega)]
  by_cases h5k : k = 5
  · subst h5k
    by_cases h5 : t.size ≤ 500
    · refine .inr ⟨u, H ++ [msgV 5 0 t], ?_, good_snoc hg _ _, by simp, fun h => absurd h (by decide), fun _ => rfl⟩
      have hsz : (stringOf (cutL t)).size = 8 + t.size := by rw [stringOf_size]; simp [cutL, by44, bytesOf_length]; omega
      have hp := F90_cut t (by omega)
      rw [← hsz] at hp
      have hf := feed_msg u H (stringOf (cutL t)) 5 t (by decide) (by omega) (by omega) hp
      simp only [F4_261779b, iteP_eq]
      rw [say_cut _ _ _ _ _ _ _ _ _ _ _ _ _ _ _ _ _ _ (by omega), Option.bind_some]
      simp only
      rw [if_neg (by decide), ifF (by omega), hf, Option.bind_some]
      simp only
      rw [if_pos (by decide), ifT (by simp only [List.length_cons, List.length_nil]; omega), if_neg (by decide)]
      rfl
    · refine .inl ?_
      obtain ⟨r, hr⟩ := say_any b1 n r0 r1 r2 r3 f0 f1 f2 f3 f4 f5 f6 f7 f8 f9 en t ht
      simp only [F4_261779b, iteP_eq]
      rw [hr, Option.bind_some]
      by_cases he : (r.2 != (0 : Int)) = true
      · rw [if_pos he]
      · rw [if_neg he, ifT (by omega)]
  · refine .inl ?_
    simp only [F4_261779b, iteP_eq]
    rw [say_none _ _ _ _ _ _ _ _ _ _ _ _ _ _ _ _ _ _ k h5k h6 h7, Option.bind_some]
    simp only
    rw [if_pos (by decide)]
end
end Go.Proofs.YtgddhgpljnljaaaGreat.Am
set_option maxRecDepth 100000
namespace Go.Proofs.YtgddhgpljnljaaaGreat.Am
open Go.Am
def sized (L : MS) : Prop := ∀ m ∈ L, m.2.2.2.2.2.2.1.size ≤ 140737488351232
theorem rounds_ok (L : MS) (hL : L.length ≤ 20) (hs : sized L) : ∀ (suf pre : MS) (k : Nat) (u : Int) (H : MS), L = pre ++ suf → good H → H.length ≤ pre.length → suf.length < k →
    F4_4090n 200000 k (u, L, ((pre.length : Nat) : Int), true, ByteArray.mk #[], OUT, 83, 0, false, ByteArray.mk #[], 0, 32, 24, false, true, 255, 255, 255, 16, 8, 0, 0, 0, u, H, 2, 2, H, [0, 0, 0, 0]) = some (.inl true) ∨
    ∃ u' H', F4_4090n 200000 k (u, L, ((pre.length : Nat) : Int), true, ByteArray.mk #[], OUT, 83, 0, false, ByteArray.mk #[], 0, 32, 24, false, true, 255, 255, 255, 16, 8, 0, 0, 0, u, H, 2, 2, H, [0, 0, 0, 0]) =
        some (.inr (.inl (true, u', H', ByteArray.mk #[], OUT, 83, 0, false, ByteArray.mk #[], 0, 32, 24, false, true, 255, 255, 255, 16, 8, 0, 0, 0, u', 2, 2, H', [0, 0, 0, 0]))) ∧ good H' ∧ H'.length ≤ 100
  | [], pre, k + 1, u, H, h, hg, hl, hk => by
    rw [List.append_nil] at h
    subst h
    refine .inr ⟨u, H, ?_, hg, by omega⟩
    show B4_4090n 200000 (F4_4090n 200000 k) _ = _
    simp only [B4_4090n, iteP_eq]
    rw [ifF (by omega)]
  | m :: suf, pre, k + 1, u, H, h, hg, hl, hk => by
    have hlen : L.length = pre.length + suf.length + 1 := by rw [h]; simp; omega
    have hget : L[pre.length]? = some m := by rw [h]; simp
    have IH := fun u H hg hl => rounds_ok L hL hs suf (pre ++ [m]) k u H (by rw [h]; simp) hg hl (by simp at hk; omega)
    have hsz := hs m (by rw [h]; simp)
    obtain ⟨q, b1, n, ⟨r0, r1, r2, r3, _⟩, ⟨f0, f1, f2, f3, f4, f5, f6, f7, f8, f9, _⟩, en, t, _⟩ := m
    have hsz : t.size ≤ 140737488351232 := hsz
    simp only [List.length_append, List.length_singleton] at IH
    have hi : IntKind.wrap .i64 (((pre.length : Nat) : Int) + 1) = ((pre.length + 1 : Nat) : Int) := by rw [wrap_i64 (by omega) (by omega)]; omega
    have hB : F4_4090n 200000 (k + 1) = B4_4090n 200000 (F4_4090n 200000 k) := rfl
    rw [hB]
    generalize F4_4090n 200000 k = G at *
    by_cases h6 : q = 6
    · subst h6
      have hR := round_ok L ((pre.length : Nat) : Int) (IntKind.wrap .i64 (u + 1)) u H hg (by omega) 6 b1 0 r0 r1 r2 r3 f0 f1 f2 f3 f4 f5 f6 f7 f8 f9 en t hsz (fun _ => rfl)
      simp only [B4_4090n, iteP_eq]
      rw [ifT (by omega), if_pos (within_nat (by omega)), Int.toNat_natCast, hget, Option.bind_some]
      simp only
      rw [if_pos (by decide)]
      rcases hR with hR | ⟨u', H', hR, hg', hl', hu', _⟩
      · refine .inl ?_
        rw [hR, Option.bind_some]
      · rw [hR, Option.bind_some]
        simp only
        have hu' := hu' rfl
        subst hu'
        rw [hi]
        rcases IH (IntKind.wrap .i64 (u + 1)) H' hg' (by omega) with hI | ⟨u2, H2, hI, hg2, hl2⟩
        · refine .inl ?_
          rw [hI, Option.bind_some]
        · refine .inr ⟨u2, H2, ?_, hg2, hl2⟩
          rw [hI, Option.bind_some]
    · have hR := round_ok L ((pre.length : Nat) : Int) u u H hg (by omega) q b1 n r0 r1 r2 r3 f0 f1 f2 f3 f4 f5 f6 f7 f8 f9 en t hsz (fun h => absurd h h6)
      simp only [B4_4090n, iteP_eq]
      rw [ifT (by omega), if_pos (within_nat (by omega)), Int.toNat_natCast, hget, Option.bind_some]
      simp only
      rw [if_neg (by simp; exact h6)]
      rcases hR with hR | ⟨u', H', hR, hg', hl', _, hu'⟩
      · refine .inl ?_
        rw [hR, Option.bind_some]
      · rw [hR, Option.bind_some]
        simp only
        have hu' := hu' h6
        subst hu'
        rw [hi]
        rcases IH u' H' hg' (by omega) with hI | ⟨u2, H2, hI, hg2, hl2⟩
        · refine .inl ?_
          rw [hI, Option.bind_some]
        · refine .inr ⟨u2, H2, ?_, hg2, hl2⟩
          rw [hI, Option.bind_some]
theorem law4 (L : MS) (hs : sized L) : F4 200000 L = some true := by
  simp only [F4, iteP_eq]
  rw [works5, Option.bind_some]
  simp only [Bool.not_true, Bool.false_eq_true, if_false]
  by_cases hL : L.length ≤ 20
  · rw [ifF (by omega)]
    simp only [F7, F17, Option.bind_some]
    rw [hello_B, Option.bind_some, hello_F, Option.bind_some]
    simp only
    rcases rounds_ok L hL hs L [] 200000 0 [] rfl (fun m hm => by cases hm) (by simp) (by omega) with hR | ⟨u, H, hR, hg, hl⟩
    · have hR : F4_4090n 200000 200000 (0, L, 0, true, ByteArray.mk #[], OUT, 83, 0, false, ByteArray.mk #[], 0, 32, 24, false, true, 255, 255, 255, 16, 8, 0, 0, 0, 0, [], 2, 2, [], [0, 0, 0, 0]) = _ := hR
      unfold OUT at hR
      rw [hR, Option.bind_some]
    · have hR : F4_4090n 200000 200000 (0, L, 0, true, ByteArray.mk #[], OUT, 83, 0, false, ByteArray.mk #[], 0, 32, 24, false, true, 255, 255, 255, 16, 8, 0, 0, 0, 0, [], 2, 2, [], [0, 0, 0, 0]) = _ := hR
      unfold OUT at hR
      rw [hR, Option.bind_some]
      simp only [F20, F41, iteP_eq]
      rw [ifT (by omega), Option.bind_some]
      simp only [Option.bind_some]
      rw [same_all H hg (by omega), Option.bind_some]
      simp only [F16a, F22a, Option.bind_some]
      by_cases h0 : H.length = 0
      · rw [if_pos (by rw [h0]; rfl)]
        simp
      · rw [if_neg (by simp; intro h; exact h0 (by rw [h]; rfl)), if_pos (show within (0 : Int) H.length = true from within_nat (i := 0) (by omega))]
        match H, hg, h0 with
        | m :: r, hg, _ =>
          obtain ⟨q, t, rfl⟩ := hg m (List.mem_cons_self ..)
          show Option.bind (some (msgV q 0 t)) _ = _
          rw [Option.bind_some]
          rw [if_pos (show within (0 : Int) (msgV q 0 t :: r).length = true from within_nat (i := 0) (by simp))]
          show Option.bind (some (msgV q 0 t)) _ = _
          rw [Option.bind_some]
          simp only [msgV]
          rw [same_one, Option.bind_some]
          simp
  · rw [ifT (by omega)]
end Go.Proofs.YtgddhgpljnljaaaGreat.Am
