/- An example is encoded and decoded again; which encoding is chosen is the first one that is known: the Lean function that ChooserOrder comes to answers true at every input. -/
import Derived.Test.YtfcamlibbfnldaaGreatSC
import Derived.Test.YtfcamlibbfnldaaGreatAmC
import Derived.KernelRfl
set_option linter.unusedSimpArgs false
set_option linter.unusedVariables false
set_option linter.unusedSectionVars false
set_option maxRecDepth 100000
namespace Go.Proofs.YtfcamlibbfnldaaGreat.Am
open Go.Am
theorem within_nat {i n : Nat} (h : i < n) : within (i : Int) n = true := by unfold within; simp only [decide_eq_true_eq]; omega
theorem w_next {n : Nat} (h : n ≤ 1000000) : IntKind.wrap .i64 ((n : Int) + 1) = ((n + 1 : Nat) : Int) := by rw [wrap_i64 (by omega) (by omega)]; omega
def known (x : Int) : Bool := x == 0 || x == 2 || x == 5 || x == 16 || x == -260
def wants (l : List Int) (x : Int) : Bool := x == 0 || l.contains x
def choose (l : List Int) (f : Int) : Int := if (known f && wants l f) = true then f else (l.find? known).getD 0
theorem F49_known (x : Int) : F49 200000 x = some (known x) := by
  simp only [F49, iteP_eq]
  unfold known
  cases x == 0 <;> cases x == 2 <;> cases x == 5 <;> cases x == 16 <;> cases x == -260 <;> rfl
def fd : List Int → Nat → Option Nat
  | [], _ => none
  | x :: r, i => if known x = true then some i else fd r (i + 1)
theorem F109_loop (l : List Int) (hl : l.length ≤ 1000000) : ∀ (suf pre : List Int) (k : Nat), l = pre ++ suf → suf.length < k →
    F109a_26 200000 k ((l.length : Int), l, (pre.length : Int)) = some (match fd suf pre.length with | some j => .inl (j : Int) | none => .inr ())
  | [], pre, k + 1, e, _ => by
    show B109a_26 200000 (F109a_26 200000 k) _ = _
    have : l.length = pre.length := by rw [e]; simp
    simp only [B109a_26, iteP_eq]
    rw [ifF (by omega)]
    rfl
  | x :: r, pre, k + 1, e, hk => by
    have hn : l.length = pre.length + r.length + 1 := by rw [e]; simp; omega
    have ih := F109_loop l hl r (pre ++ [x]) k (by rw [e]; simp) (by simp at hk; omega)
    rw [show (pre ++ [x]).length = pre.length + 1 by simp] at ih
    show B109a_26 200000 (F109a_26 200000 k) _ = _
    generalize F109a_26 200000 k = G at *
    simp only [B109a_26, iteP_eq]
    rw [ifT (by omega), if_pos (within_nat (by omega)), Int.toNat_natCast]
    rw [show l[pre.length]? = some x by rw [e]; simp]
    rw [Option.bind_some, F49_known, Option.bind_some, w_next (by omega), ih]
    rw [fd]
    cases hx : known x with
    | true => rfl
    | false =>
      simp only [Bool.false_eq_true, if_false, Option.bind_some]
      generalize fd r (pre.length + 1) = q
      cases q <;> rfl
theorem fd_find : ∀ (suf pre : List Int), match fd suf pre.length with
    | some j => ∃ x, (pre ++ suf)[j]? = some x ∧ suf.find? known = some x ∧ j < (pre ++ suf).length
    | none => suf.find? known = none
  | [], pre => rfl
  | x :: r, pre => by
    rw [fd]
    cases hx : known x with
    | true => exact ⟨x, by simp, by simp [hx], by simp⟩
    | false =>
      have ih := fd_find r (pre ++ [x])
      rw [show (pre ++ [x]).length = pre.length + 1 by simp] at ih
      simp only [Bool.false_eq_true, if_false]
      cases h : fd r (pre.length + 1) with
      | none => rw [h] at ih; simp only at ih ⊢; simp [hx, ih]
      | some j =>
        rw [h] at ih
        obtain ⟨y, h1, h2, h3⟩ := ih
        exact ⟨y, by rw [← h1]; simp, by simp [hx, h2], by simp at h3 ⊢; omega⟩
theorem F109_first (l : List Int) (hl : l.length ≤ 100000) : ∃ j : Int, F109a 200000 l = some j ∧ ((j = -1 ∧ l.find? known = none) ∨ ∃ (i : Nat) (x : Int), j = (i : Int) ∧ i < l.length ∧ l[i]? = some x ∧ l.find? known = some x) := by
  have h1 := F109_loop l (by omega) l [] 200000 rfl (by omega)
  have h2 := fd_find l []
  simp only [F109a]
  rw [show (([] : List Int).length : Int) = 0 from rfl] at h1
  rw [h1, Option.bind_some]
  rw [show ([] : List Int).length = 0 from rfl] at *
  cases h : fd l 0 with
  | none => rw [h] at h2; exact ⟨-1, rfl, .inl ⟨rfl, h2⟩⟩
  | some j =>
    rw [h] at h2
    obtain ⟨x, a, b, c⟩ := h2
    exact ⟨(j : Int), rfl, .inr ⟨j, x, rfl, c, a, b⟩⟩
theorem F180_loop (l : List Int) (hl : l.length ≤ 1000000) (v : Int) : ∀ (suf pre : List Int) (k : Nat), l = pre ++ suf → suf.length < k →
    ∃ r, F180_26 200000 k ((l.length : Int), v, l, (pre.length : Int)) = some r ∧ (match r with | .inl j => 0 ≤ j ∧ suf.contains v = true | .inr _ => suf.contains v = false)
  | [], pre, k + 1, e, _ => by
    have : l.length = pre.length := by rw [e]; simp
    refine ⟨.inr (), ?_, rfl⟩
    show B180_26 200000 (F180_26 200000 k) _ = _
    simp only [B180_26, iteP_eq]
    rw [ifF (by omega)]
  | x :: r, pre, k + 1, e, hk => by
    have hn : l.length = pre.length + r.length + 1 := by rw [e]; simp; omega
    obtain ⟨q, ih, hq⟩ := F180_loop l hl v r (pre ++ [x]) k (by rw [e]; simp) (by simp at hk; omega)
    rw [show (pre ++ [x]).length = pre.length + 1 by simp] at ih
    have step : F180_26 200000 (k + 1) ((l.length : Int), v, l, (pre.length : Int)) = if (v == x) = true then some (.inl (pre.length : Int)) else some q := by
      show B180_26 200000 (F180_26 200000 k) _ = _
      generalize F180_26 200000 k = G at *
      simp only [B180_26, iteP_eq]
      rw [ifT (by omega), if_pos (within_nat (by omega)), Int.toNat_natCast]
      rw [show l[pre.length]? = some x by rw [e]; simp]
      rw [Option.bind_some, w_next (by omega), ih]
      cases q <;> rfl
    rw [step]
    cases hx : v == x with
    | true => exact ⟨_, rfl, by simp, by rw [List.contains_cons, hx]; rfl⟩
    | false =>
      refine ⟨q, rfl, ?_⟩
      cases q with
      | inl j => exact ⟨hq.1, by simp only [List.contains_cons, hx, Bool.false_or]; exact hq.2⟩
      | inr u => simp only [List.contains_cons, hx, Bool.false_or]; exact hq
theorem F51_wants (l : List Int) (hl : l.length ≤ 100000) (x : Int) : F51 200000 (l, x) = some (wants l x) := by
  obtain ⟨r, h1, h2⟩ := F180_loop l (by omega) x l [] 200000 rfl (by omega)
  rw [show (([] : List Int).length : Int) = 0 from rfl] at h1
  simp only [F51, F110, F180, iteP_eq]
  rw [h1]
  unfold wants
  cases hx : x == 0 with
  | true => rfl
  | false =>
    cases r with
    | inl j =>
      simp only [Bool.false_eq_true, if_false, Option.bind_some, Bool.false_or]
      rw [h2.2, decide_eq_true h2.1]
    | inr u =>
      simp only [Bool.false_eq_true, if_false, Option.bind_some, Bool.false_or]
      rw [h2]; rfl
theorem F48_choose (l : List Int) (hl : l.length ≤ 100000) (f : Int) : F48 200000 (l, f) = some (choose l f) := by
  obtain ⟨j, h1, h2⟩ := F109_first l hl
  simp only [F48, iteP_eq]
  rw [F49_known, Option.bind_some, F51_wants l hl, Option.bind_some, h1, Option.bind_some]
  have hj : (if decide (j ≥ 0) = true then (if within j l.length = true then (l[j.toNat]?).bind fun y3 => some y3 else none) else some 0) = some ((l.find? known).getD 0) := by
    rcases h2 with ⟨e, h⟩ | ⟨i, x, e, hi, hx, h⟩
    · subst e; rw [h]; rfl
    · subst e
      rw [ifT (by omega), if_pos (within_nat hi), Int.toNat_natCast, hx, h]
      rfl
  rw [hj]
  unfold choose
  cases known f <;> cases wants l f <;> rfl
end Go.Proofs.YtfcamlibbfnldaaGreat.Am
set_option maxRecDepth 100000
namespace Go.Proofs.YtfcamlibbfnldaaGreat.Am
open Go.Am
theorem F14_loop (a b all : List Int) (fixed : Bool) (forced : Int) (hl : a.length ≤ 1000000) : ∀ (suf pre : List Int) (k : Nat) (s : Bool), a = pre ++ suf → suf.length < k →
    F14_4090 200000 k (s, (pre.length : Int), forced, fixed, b, a, all) = some (a, b, s || suf.any known, fixed, forced, all)
  | [], pre, k + 1, s, e, _ => by
    have : a.length = pre.length := by rw [e]; simp
    show B14_4090 200000 (F14_4090 200000 k) _ = _
    simp only [B14_4090, iteP_eq]
    rw [ifF (by omega)]
    simp
  | x :: r, pre, k + 1, s, e, hk => by
    have hn : a.length = pre.length + r.length + 1 := by rw [e]; simp; omega
    have ih := fun s => F14_loop a b all fixed forced hl r (pre ++ [x]) k s (by rw [e]; simp) (by simp at hk; omega)
    rw [show (pre ++ [x]).length = pre.length + 1 by simp] at ih
    show B14_4090 200000 (F14_4090 200000 k) _ = _
    generalize F14_4090 200000 k = G at *
    simp only [B14_4090, iteP_eq]
    rw [ifT (by omega), w_next (by omega), if_pos (within_nat (by omega)), Int.toNat_natCast]
    rw [show a[pre.length]? = some x by rw [e]; simp]
    rw [Option.bind_some, F49_known, Option.bind_some, ih, ih]
    cases s <;> simp
theorem find_append (a b : List Int) : (a ++ b).find? known = (a.find? known).or (b.find? known) := List.find?_append
theorem law14 (w : F47 200000 () = some true) (a b : List Int) (f : Int) : F14 200000 (a, b, f) = some true := by
  simp only [F14, iteP_eq]
  rw [w, Option.bind_some]
  simp only [Bool.not_true, Bool.false_eq_true, if_false]
  by_cases ha : a.length ≤ 400
  · rw [ifF (by omega)]
    by_cases hb : b.length ≤ 400
    · rw [ifF (by omega)]
      have hab : (a ++ b).length ≤ 100000 := by rw [List.length_append]; omega
      have hloop := F14_loop a b (a ++ b) true f (by omega) a [] 200000 false rfl (by omega)
      rw [show (([] : List Int).length : Int) = 0 from rfl] at hloop
      have key : F14_31 200000 (f, true, b, a) = some true := by
        simp only [F14_31, iteP_eq]
        rw [ifT (by omega), ifT (by omega), hloop]
        simp only [Option.bind_some, Bool.false_or]
        rw [F48_choose _ hab, Option.bind_some, F49_known, Option.bind_some, F51_wants _ hab, F48_choose a (by omega), F48_choose b (by omega)]
        simp only [Option.bind_some, if_true]
        cases hk : known f with
        | true =>
          cases hw : wants (a ++ b) f with
          | true =>
            simp only [if_true]
            rw [show choose (a ++ b) f = f by unfold choose; rw [hk, hw]; rfl]
            simp
          | false =>
            simp only [Bool.false_eq_true, if_false, if_true]
            have h0 : (f == 0) = false ∧ a.contains f = false ∧ b.contains f = false := by
              unfold wants at hw
              have : (a ++ b).contains f = (a.contains f || b.contains f) := by simp
              rw [this] at hw
              simp only [Bool.or_eq_false_iff] at hw
              exact ⟨hw.1, hw.2.1, hw.2.2⟩
            have wa : wants a f = false := by unfold wants; rw [h0.1, h0.2.1]; rfl
            have wb : wants b f = false := by unfold wants; rw [h0.1, h0.2.2]; rfl
            have e0 : choose (a ++ b) f = ((a ++ b).find? known).getD 0 := by unfold choose; rw [hk, hw]; rfl
            have e1 : choose a f = (a.find? known).getD 0 := by unfold choose; rw [hk, wa]; rfl
            have e2 : choose b f = (b.find? known).getD 0 := by unfold choose; rw [hk, wb]; rfl
            rw [e0, e1, e2, find_append]
            cases hs : a.find? known with
            | none =>
              have : a.any known = false := by
                rw [List.find?_eq_none] at hs
                simpa using hs
              rw [this]; simp
            | some x =>
              have : a.any known = true := by
                rw [List.any_eq_true]
                exact ⟨x, List.mem_of_find?_eq_some hs, List.find?_some hs⟩
              rw [this]; simp
        | false =>
          simp only [Bool.false_eq_true, if_false, if_true]
          have e0 : choose (a ++ b) f = ((a ++ b).find? known).getD 0 := by unfold choose; rw [hk]; rfl
          have e1 : choose a f = (a.find? known).getD 0 := by unfold choose; rw [hk]; rfl
          have e2 : choose b f = (b.find? known).getD 0 := by unfold choose; rw [hk]; rfl
          rw [e0, e1, e2, find_append]
          cases hs : a.find? known with
          | none =>
            have : a.any known = false := by
              rw [List.find?_eq_none] at hs
              simpa using hs
            rw [this]; simp
          | some x =>
            have : a.any known = true := by
              rw [List.any_eq_true]
              exact ⟨x, List.mem_of_find?_eq_some hs, List.find?_some hs⟩
            rw [this]; simp
      rw [key, Option.bind_some]
    · rw [ifT (by omega)]
  · rw [ifT (by omega)]
end Go.Proofs.YtfcamlibbfnldaaGreat.Am
set_option maxRecDepth 100000
namespace Go.Proofs.YtfcamlibbfnldaaGreat.Am
open Go.Am
theorem works47a : F107 200000 (16, 32, 24, false, true, 255, 255, 255, 16, 8, 0, 1, 1, false, ByteArray.mk #[], [7]) = some (ByteArray.mk #[0, 0, 0, 12, 120, 156, 98, 100, 103, 96, 0, 0, 0, 0, 255, 255], 0, true, ByteArray.mk #[1, 7, 0, 0]) := by kernel_rfl
theorem works47b : F108 200000 (16, 32, 24, false, true, 255, 255, 255, 16, 8, 0, 1, 1, ByteArray.mk #[0, 0, 0, 12, 120, 156, 98, 100, 103, 96, 0, 0, 0, 0, 255, 255], false, ByteArray.mk #[], 0) = some (16, 0, true, ByteArray.mk #[1, 7, 0, 0], 0, [7]) := by kernel_rfl
theorem works47 : F47 200000 () = some true := by
  simp only [F47]
  rw [show F102 200000 () = some (32, 24, false, true, 255, 255, 255, 16, 8, 0) from rfl, Option.bind_some]
  simp only
  rw [works47a, Option.bind_some]
  simp only
  rw [works47b, Option.bind_some]
  kernel_rfl
end Go.Proofs.YtfcamlibbfnldaaGreat.Am
