/- Codes, their bits, and that they are decoded again. -/
import Derived.Test.YtpjkklailofkjaaSC
import Derived.Test.YtpjkklailofkjaaAmC
namespace Go.Proofs.Ytpjkklailofkjaa.Am
open Go.Am
set_option linter.unusedSimpArgs false
set_option linter.unusedVariables false

/-! ### Lengths of codes: how many of each -/
def cntL (p : List Int) : List Int := (List.range 16).map fun (l : Nat) => ((p.count (l : Int) : Nat) : Int)
theorem cntL_len (p : List Int) : (cntL p).length = 16 := by simp [cntL]
theorem cntL_get (p : List Int) {k : Nat} (h : k < 16) : (cntL p)[k]? = some (p.count (k : Int) : Int) := by
  unfold cntL; rw [List.getElem?_map, List.getElem?_range h]; rfl

theorem cntL_snoc (p : List Int) {x : Nat} (hx : x < 16) : (cntL p).set x ((p.count (x : Int) : Int) + 1) = cntL (p ++ [(x : Int)]) := by
  apply List.ext_getElem?
  intro k
  by_cases hk : k < 16
  · rw [cntL_get _ hk, List.count_append]
    by_cases e : x = k
    · subst e
      rw [List.getElem?_set_self (by rw [cntL_len]; exact hx)]
      simp
    · rw [List.getElem?_set_ne e, cntL_get _ hk, List.count_singleton]
      have : ((x : Int) == (k : Int)) = false := by simp; omega
      simp [this]
  · rw [List.getElem?_eq_none (by rw [List.length_set, cntL_len]; omega), List.getElem?_eq_none (by rw [cntL_len]; omega)]

def okB (lens : List Int) : Bool := lens.all fun x => decide (0 ≤ x) && decide (x ≤ 15)

theorem okB_at {lens : List Int} (h : okB lens = true) {i : Nat} (hi : i < lens.length) : 0 ≤ lens[i] ∧ lens[i] ≤ 15 := by
  have := List.all_eq_true.1 h _ (List.getElem_mem hi)
  simpa using this

theorem F36_loop (N : Nat) (lens m : List Int) (hl : lens.length ≤ 320) : ∀ (d i f : Nat), i + d = lens.length → d < f →
    (okB (lens.drop i) = true → F36_122 N f ((lens.length : Int), lens, (i : Int), cntL (lens.take i), m) = some (.inr (cntL lens, m))) ∧
    (okB (lens.drop i) = false → ∃ c, F36_122 N f ((lens.length : Int), lens, (i : Int), cntL (lens.take i), m) = some (.inl (50, c))) := by
  intro d
  induction d with
  | zero =>
    intro i f hi hf
    cases f with
    | zero => omega
    | succ f =>
      have e : lens.drop i = [] := List.drop_eq_nil_of_le (by omega)
      rw [e]
      refine ⟨fun _ => ?_, fun h => by cases h⟩
      simp only [F36_122, B36_122, iteP_eq]
      rw [if_neg (by simp only [decide_eq_true_eq]; omega), List.take_of_length_le (by omega)]
  | succ d ih =>
    intro i f hi hf
    cases f with
    | zero => omega
    | succ f =>
      have hd : lens.drop i = lens[i] :: lens.drop (i + 1) := List.drop_eq_getElem_cons (by omega)
      have ih' := ih (i + 1) f (by omega) (by omega)
      have hw : IntKind.wrap .i64 ((i : Int) + 1) = ((i + 1 : Nat) : Int) := by rw [wrap_i64 (by omega) (by omega)]; omega
      have ht : lens.take (i + 1) = lens.take i ++ [lens[i]] := by rw [List.take_add_one, List.getElem?_eq_getElem (by omega)]; rfl
      have hok : okB (lens.drop i) = ((decide (0 ≤ lens[i]) && decide (lens[i] ≤ 15)) && okB (lens.drop (i + 1))) := by rw [hd]; rfl
      simp only [F36_122, B36_122, iteP_eq]
      rw [if_pos (show decide ((i : Int) < (lens.length : Int)) = true by simp only [decide_eq_true_eq]; omega), if_pos (show within (i : Int) lens.length = true by unfold within; simp only [decide_eq_true_eq]; omega), Int.toNat_natCast, List.getElem?_eq_getElem (show i < lens.length by omega), Option.bind_some]
      by_cases h1 : lens[i] < 0
      · have hf : okB (lens.drop i) = false := by rw [hok, decide_eq_false (show ¬ 0 ≤ lens[i] by omega)]; rfl
        rw [hf, if_pos (by simpa using h1)]
        exact ⟨fun h => (by cases h), fun _ => ⟨_, rfl⟩⟩
      by_cases h2 : lens[i] > 15
      · have hf : okB (lens.drop i) = false := by rw [hok, decide_eq_false (show ¬ lens[i] ≤ 15 by omega), Bool.and_false]; rfl
        rw [hf, if_neg (by simpa using h1), if_pos (by simpa using h2)]
        exact ⟨fun h => (by cases h), fun _ => ⟨_, rfl⟩⟩
      have hok2 : okB (lens.drop i) = okB (lens.drop (i + 1)) := by rw [hok, decide_eq_true (show 0 ≤ lens[i] by omega), decide_eq_true (show lens[i] ≤ 15 by omega)]; rfl
      obtain ⟨x, hx⟩ := Int.eq_ofNat_of_zero_le (show 0 ≤ lens[i] by omega)
      rw [hok2, if_neg (by simpa using h1), if_neg (by simpa using h2)]
      rw [ht] at ih'
      rw [hx] at ih' ⊢
      have hx16 : x < 16 := by omega
      have hcl : (lens.take i).count (x : Int) ≤ 320 := Nat.le_trans List.count_le_length (by rw [List.length_take]; omega)
      rw [if_pos (show within (x : Int) 16 = true by unfold within; simp only [decide_eq_true_eq]; omega), Int.toNat_natCast, cntL_get _ hx16, Option.bind_some, if_pos (show within (x : Int) 16 = true by unfold within; simp only [decide_eq_true_eq]; omega), Option.bind_some, hw, wrap_i64 (by omega) (by omega), cntL_snoc _ hx16]
      refine ⟨fun h => ?_, fun h => ?_⟩
      · rw [ih'.1 h]; rfl
      · obtain ⟨c, hc⟩ := ih'.2 h
        rw [hc]
        exact ⟨c, rfl⟩

/-- May the lengths be, as far as each one goes? -/
def okL (lens : List Int) : Bool := decide (lens.length ≤ 320) && okB lens

theorem cntL_nil : cntL [] = [0, 0, 0, 0, 0, 0, 0, 0, 0, 0, 0, 0, 0, 0, 0, 0] := rfl

theorem F36_spec {N : Nat} (hN : 400 ≤ N) (lens : List Int) : ∃ c, F36 N lens = some (c, bif okL lens then 0 else 50) ∧ (okL lens = true → c = cntL lens) := by
  unfold okL
  simp only [F36, iteP_eq]
  by_cases h : (320 : Int) < (lens.length : Int)
  · rw [if_pos (by simpa using h), decide_eq_false (show ¬ lens.length ≤ 320 by omega)]
    exact ⟨_, rfl, fun hh => by cases hh⟩
  · rw [if_neg (by simpa using h), decide_eq_true (show lens.length ≤ 320 by omega), Bool.true_and]
    have hl := F36_loop N lens [0, 0, 0, 0, 0, 0, 0, 0, 0, 0, 0, 0, 0, 0, 0, 0] (by omega) lens.length 0 N (by omega) (by omega)
    rw [List.drop_zero, List.take_zero, cntL_nil, show ((0 : Nat) : Int) = 0 from rfl] at hl
    cases hb : okB lens with
    | true =>
      rw [hl.1 hb, Option.bind_some]
      exact ⟨_, rfl, fun _ => rfl⟩
    | false =>
      obtain ⟨c, hc⟩ := hl.2 hb
      rw [hc, Option.bind_some]
      exact ⟨_, rfl, fun h => by cases h⟩

/-! ### The room that is left -/
def lf (lens : List Int) : Nat → Int
  | 0 => 1
  | l + 1 => 2 * lf lens l - (lens.count ((l + 1 : Nat) : Int) : Int)

theorem lf_neg (lens : List Int) (l k : Nat) (h : lf lens l < 0) : lf lens (l + k) < 0 := by
  induction k with
  | zero => exact h
  | succ k ih => rw [← Nat.add_assoc, lf]; omega

theorem lf_le (lens : List Int) : ∀ l, lf lens l ≤ 2 ^ l
  | 0 => by rw [lf]; decide
  | l + 1 => by
    have := lf_le lens l
    rw [lf, Int.pow_succ]
    omega

theorem F12_loop (N : Nat) (lens : List Int) (hl : lens.length ≤ 320) : ∀ (d l f : Nat), l + d = 15 → d + 1 < f → 0 ≤ lf lens l →
    ∃ z, F12_122 N f (lf lens l, 0, ((l + 1 : Nat) : Int), cntL lens) = some (if 0 ≤ lf lens 15 then (lf lens 15, 0) else (z, 50)) := by
  intro d
  induction d with
  | zero =>
    intro l f hi hf h0
    cases f with
    | zero => omega
    | succ f =>
      have : l = 15 := by omega
      subst this
      simp only [F12_122, B12_122, iteP_eq]
      refine ⟨0, ?_⟩
      rw [if_neg (by decide), if_pos h0]
  | succ d ih =>
    intro l f hi hf h0
    cases f with
    | zero => omega
    | succ f =>
      have hb := lf_le lens l
      have hp : (2 : Int) ^ l ≤ 32768 := by
        have : (2 : Nat) ^ l ≤ 2 ^ 15 := Nat.pow_le_pow_right (by decide) (by omega)
        have h2 : ((2 ^ l : Nat) : Int) ≤ ((2 ^ 15 : Nat) : Int) := Int.ofNat_le.2 this
        simpa using h2
      have hc : lens.count ((l + 1 : Nat) : Int) ≤ 320 := Nat.le_trans List.count_le_length hl
      have e : lf lens (l + 1) = 2 * lf lens l - (lens.count ((l + 1 : Nat) : Int) : Int) := rfl
      simp only [F12_122, B12_122, iteP_eq]
      rw [if_pos (by simp only [decide_eq_true_eq]; omega), if_pos (by simp), if_pos (show within ((l + 1 : Nat) : Int) 16 = true by unfold within; simp only [decide_eq_true_eq]; omega), Int.toNat_natCast, cntL_get _ (by omega), Option.bind_some, wrap_i64 (z := lf lens l * 2) (by omega) (by omega), wrap_i64 (z := lf lens l * 2 - _) (by omega) (by omega), wrap_i64 (z := ((l + 1 : Nat) : Int) + 1) (by omega) (by omega), show lf lens l * 2 - (lens.count ((l + 1 : Nat) : Int) : Int) = lf lens (l + 1) by rw [e]; omega]
      by_cases hneg : lf lens (l + 1) < 0
      · rw [if_pos (by simpa using hneg)]
        have h15 : lf lens 15 < 0 := by
          have := lf_neg lens (l + 1) (15 - (l + 1)) hneg
          rwa [show l + 1 + (15 - (l + 1)) = 15 by omega] at this
        cases f with
        | zero => omega
        | succ f =>
          simp only [F12_122, B12_122, iteP_eq]
          refine ⟨lf lens (l + 1), ?_⟩
          rw [if_neg (show ¬ 0 ≤ lf lens 15 by omega)]
          split <;> rfl
      · rw [if_neg (by simpa using hneg)]
        obtain ⟨z, hz⟩ := ih (l + 1) f (by omega) (by omega) (by omega)
        rw [show ((l + 1 : Nat) : Int) + 1 = ((l + 1 + 1 : Nat) : Int) by omega, hz]
        exact ⟨z, rfl⟩

/-- What 'Check' tells. -/
def chk (lens : List Int) : Int × Int := if okL lens = true ∧ 0 ≤ lf lens 15 then (lf lens 15, 0) else (0, 50)

theorem F12_chk {N : Nat} (hN : 400 ≤ N) (lens : List Int) : F12 N lens = some (chk lens) := by
  obtain ⟨c, hc, hcc⟩ := F36_spec hN lens
  unfold chk
  simp only [F12, iteP_eq]
  rw [hc, Option.bind_some]
  simp only
  cases hok : okL lens with
  | false =>
    rw [if_neg (by simp)]
    simp only [cond_false]
    cases N with
    | zero => omega
    | succ N =>
      simp only [F12_122, B12_122, iteP_eq]
      rw [if_pos (by decide), if_neg (by decide), Option.bind_some, if_pos (by decide)]
  | true =>
    rw [hcc hok]
    simp only [cond_true]
    have hl : lens.length ≤ 320 := by
      unfold okL at hok
      simp only [Bool.and_eq_true, decide_eq_true_eq] at hok
      exact hok.1
    obtain ⟨z, hz⟩ := F12_loop N lens hl 15 0 N (by omega) (by omega) (by rw [lf]; decide)
    have hz : F12_122 N N (1, 0, 1, cntL lens) = _ := hz
    rw [hz, Option.bind_some]
    by_cases h : 0 ≤ lf lens 15
    · have e1 : (if 0 ≤ lf lens 15 then (lf lens 15, (0 : Int)) else (z, 50)) = (lf lens 15, 0) := if_pos h
      have e2 : (if (True ∧ 0 ≤ lf lens 15) then (lf lens 15, (0 : Int)) else (0, 50)) = (lf lens 15, 0) := if_pos ⟨trivial, h⟩
      rw [e1, e2]
      rfl
    · have e1 : (if 0 ≤ lf lens 15 then (lf lens 15, (0 : Int)) else (z, 50)) = (z, 50) := if_neg h
      have e2 : (if (True ∧ 0 ≤ lf lens 15) then (lf lens 15, (0 : Int)) else (0, 50)) = (0, 50) := if_neg fun hh => h hh.2
      rw [e1, e2]
      rfl
end Go.Proofs.Ytpjkklailofkjaa.Am

namespace Go.Proofs.Ytpjkklailofkjaa.Am
open Go.Am
set_option linter.unusedSimpArgs false
set_option linter.unusedVariables false

/-! ### The document's room -/
theorem F37_loop (N : Nat) (k : Nat) (hk : k ≤ 60) : ∀ (d i f : Nat), i + d = k → d < f → F37_58 N f ((2 : Int) ^ i, (i : Int), (k : Int)) = some ((2 : Int) ^ k) := by
  intro d
  induction d with
  | zero =>
    intro i f hi hf
    cases f with
    | zero => omega
    | succ f =>
      simp only [F37_58, B37_58, iteP_eq]
      rw [if_neg (by simp only [decide_eq_true_eq]; omega), show i = k by omega]
  | succ d ih =>
    intro i f hi hf
    cases f with
    | zero => omega
    | succ f =>
      have hp : (2 : Int) ^ i ≤ 1152921504606846976 := by
        have : (2 : Nat) ^ i ≤ 2 ^ 60 := Nat.pow_le_pow_right (by decide) (by omega)
        have h2 : ((2 ^ i : Nat) : Int) ≤ ((2 ^ 60 : Nat) : Int) := Int.ofNat_le.2 this
        simpa using h2
      have hp0 : (0 : Int) < 2 ^ i := Int.pow_pos (by decide)
      simp only [F37_58, B37_58, iteP_eq]
      rw [if_pos (by simp only [decide_eq_true_eq]; omega), wrap_i64 (z := 2 ^ i * 2) (by omega) (by omega), wrap_i64 (by omega) (by omega), ← Int.pow_succ, show ((i : Int) + 1) = ((i + 1 : Nat) : Int) by omega, ih (i + 1) f (by omega) (by omega), Option.bind_some]

theorem F37_pow {N : Nat} (hN : 61 < N) (k : Nat) (hk : k ≤ 60) : F37 N (k : Int) = some ((2 : Int) ^ k) := by
  simp only [F37, iteP_eq]
  have := F37_loop N k hk k 0 N (by omega) (by omega)
  rw [Int.pow_zero, show ((0 : Nat) : Int) = 0 from rfl] at this
  rw [this, Option.bind_some]

/-- What the codes of some lengths take, of 32768. -/
def took : List Int → Int
  | [] => 0
  | x :: l => (if 0 < x then (2 : Int) ^ (15 - x).toNat else 0) + took l

theorem took_append : ∀ a b : List Int, took (a ++ b) = took a + took b
  | [], b => by simp [took]
  | x :: a, b => by rw [List.cons_append, took, took, took_append a b]; omega

theorem took_le : ∀ l : List Int, 0 ≤ took l ∧ took l ≤ 32768 * l.length
  | [] => by simp [took]
  | x :: l => by
    have := took_le l
    rw [took]
    have hp : 0 < x → (2 : Int) ^ (15 - x).toNat ≤ 32768 := fun hx => by
      have : (2 : Nat) ^ (15 - x).toNat ≤ 2 ^ 15 := Nat.pow_le_pow_right (by decide) (by omega)
      have h2 : ((2 ^ (15 - x).toNat : Nat) : Int) ≤ ((2 ^ 15 : Nat) : Int) := Int.ofNat_le.2 this
      simpa using h2
    have hp0 : (0 : Int) < 2 ^ (15 - x).toNat := Int.pow_pos (by decide)
    simp only [List.length_cons]
    split
    · have := hp (by assumption)
      omega
    · omega

theorem F13_loop (N : Nat) (hN : 100 ≤ N) (lens : List Int) (hl : lens.length ≤ 320) : ∀ (d i f : Nat), i + d = lens.length → d < f →
    (okB (lens.drop i) = true → F13_122 N f (lens, (i : Int), 32768 - took (lens.take i)) = some (.inr (32768 - took lens))) ∧
    (okB (lens.drop i) = false → F13_122 N f (lens, (i : Int), 32768 - took (lens.take i)) = some (.inl (0, 50))) := by
  intro d
  induction d with
  | zero =>
    intro i f hi hf
    cases f with
    | zero => omega
    | succ f =>
      have e : lens.drop i = [] := List.drop_eq_nil_of_le (by omega)
      rw [e]
      refine ⟨fun _ => ?_, fun h => by cases h⟩
      simp only [F13_122, B13_122, iteP_eq]
      rw [if_neg (by simp only [decide_eq_true_eq]; omega), List.take_of_length_le (by omega)]
  | succ d ih =>
    intro i f hi hf
    cases f with
    | zero => omega
    | succ f =>
      have hd : lens.drop i = lens[i] :: lens.drop (i + 1) := List.drop_eq_getElem_cons (by omega)
      have ih' := ih (i + 1) f (by omega) (by omega)
      have hw : IntKind.wrap .i64 ((i : Int) + 1) = ((i + 1 : Nat) : Int) := by rw [wrap_i64 (by omega) (by omega)]; omega
      have ht : lens.take (i + 1) = lens.take i ++ [lens[i]] := by rw [List.take_add_one, List.getElem?_eq_getElem (by omega)]; rfl
      have hok : okB (lens.drop i) = ((decide (0 ≤ lens[i]) && decide (lens[i] ≤ 15)) && okB (lens.drop (i + 1))) := by rw [hd]; rfl
      have hc : decide ((i : Int) < (lens.length : Int)) = true := by simp only [decide_eq_true_eq]; omega
      have hwi : within (i : Int) lens.length = true := by unfold within; simp only [decide_eq_true_eq]; omega
      have hg : lens[i]? = some lens[i] := List.getElem?_eq_getElem (by omega)
      simp only [F13_122, B13_122, hc, hwi, hg, Int.toNat_natCast, if_true, Option.bind_some, hw, iteP_eq]
      by_cases h1 : lens[i] < 0
      · have hf : okB (lens.drop i) = false := by rw [hok, decide_eq_false (show ¬ 0 ≤ lens[i] by omega)]; rfl
        rw [hf, if_pos (by simpa using h1)]
        exact ⟨fun h => (by cases h), fun _ => rfl⟩
      rw [if_neg (by simpa using h1)]
      by_cases h2 : lens[i] > 15
      · have hf : okB (lens.drop i) = false := by rw [hok, decide_eq_false (show ¬ lens[i] ≤ 15 by omega), Bool.and_false]; rfl
        rw [hf, if_pos (by simpa using h2)]
        exact ⟨fun h => (by cases h), fun _ => rfl⟩
      rw [if_neg (by simpa using h2)]
      have hok2 : okB (lens.drop i) = okB (lens.drop (i + 1)) := by rw [hok, decide_eq_true (show 0 ≤ lens[i] by omega), decide_eq_true (show lens[i] ≤ 15 by omega)]; rfl
      have htk : took (lens.take (i + 1)) = took (lens.take i) + (if 0 < lens[i] then (2 : Int) ^ (15 - lens[i]).toNat else 0) := by rw [ht, took_append]; simp [took]
      have tb := took_le (lens.take i)
      have tl : (lens.take i).length ≤ 320 := by rw [List.length_take]; omega
      rw [hok2]
      rw [htk] at ih'
      by_cases h3 : 0 < lens[i]
      · rw [if_pos (by simpa using h3)]
        rw [if_pos h3] at ih'
        obtain ⟨k, hk⟩ := Int.eq_ofNat_of_zero_le (show 0 ≤ 15 - lens[i] by omega)
        have hpk : (2 : Int) ^ k ≤ 32768 := by
          have : (2 : Nat) ^ k ≤ 2 ^ 15 := Nat.pow_le_pow_right (by decide) (by omega)
          have h2 : ((2 ^ k : Nat) : Int) ≤ ((2 ^ 15 : Nat) : Int) := Int.ofNat_le.2 this
          simpa using h2
        have hp0 : (0 : Int) < 2 ^ k := Int.pow_pos (by decide)
        rw [hk, Int.toNat_natCast] at ih'
        rw [wrap_i64 (z := 15 - lens[i]) (by omega) (by omega), hk, F37_pow (by omega) k (by omega), Option.bind_some, wrap_i64 (by omega) (by omega), show 32768 - took (lens.take i) - 2 ^ k = 32768 - (took (lens.take i) + 2 ^ k) by omega]
        exact ⟨fun h => by rw [ih'.1 h]; rfl, fun h => by rw [ih'.2 h]; rfl⟩
      · rw [if_neg (by simpa using h3)]
        rw [if_neg h3, Int.add_zero] at ih'
        exact ⟨fun h => by rw [ih'.1 h]; rfl, fun h => by rw [ih'.2 h]; rfl⟩

/-- Both rooms are the same. -/
def tookTo (l : Nat) : List Int → Int
  | [] => 0
  | x :: r => (if 0 < x ∧ x ≤ (l : Int) then (2 : Int) ^ (15 - x).toNat else 0) + tookTo l r

theorem tookTo_succ (l : Nat) (hl : l < 15) : ∀ r : List Int, tookTo (l + 1) r = tookTo l r + (r.count ((l + 1 : Nat) : Int) : Int) * 2 ^ (15 - (l + 1))
  | [] => by simp [tookTo]
  | x :: r => by
    rw [tookTo, tookTo, tookTo_succ l hl r, List.count_cons]
    by_cases e : x = ((l + 1 : Nat) : Int)
    · subst e
      rw [if_pos (by omega), if_neg (by omega)]
      have : (15 - ((l + 1 : Nat) : Int)).toNat = 15 - (l + 1) := by omega
      rw [this]
      simp only [beq_self_eq_true, if_true, Int.natCast_add, Int.natCast_one, Int.add_mul, Int.one_mul, Int.zero_add]
      omega
    · have hb : (x == ((l + 1 : Nat) : Int)) = false := by simpa using e
      rw [hb]
      simp only [Bool.false_eq_true, if_false, Nat.add_zero]
      by_cases h : 0 < x ∧ x ≤ (l : Int)
      · rw [if_pos h, if_pos (by omega)]; omega
      · rw [if_neg h, if_neg (by omega)]; omega

theorem tookTo_zero : ∀ r : List Int, tookTo 0 r = 0
  | [] => rfl
  | x :: r => by rw [tookTo, tookTo_zero r, if_neg (by omega)]; rfl

theorem tookTo_all : ∀ r : List Int, okB r = true → tookTo 15 r = took r
  | [], _ => rfl
  | x :: r, h => by
    have h' : (decide (0 ≤ x) && decide (x ≤ 15)) = true ∧ okB r = true := by
      unfold okB at h ⊢
      rw [List.all_cons, Bool.and_eq_true] at h
      exact h
    simp only [Bool.and_eq_true, decide_eq_true_eq] at h'
    rw [tookTo, took, tookTo_all r h'.2]
    by_cases h0 : 0 < x
    · rw [if_pos h0, if_pos (by omega)]
    · rw [if_neg h0, if_neg (by omega)]

theorem lf_took (lens : List Int) : ∀ l, l ≤ 15 → lf lens l * 2 ^ (15 - l) = 32768 - tookTo l lens
  | 0, _ => by rw [lf, tookTo_zero]; decide
  | l + 1, h => by
    have ih := lf_took lens l (by omega)
    rw [tookTo_succ l (by omega), lf, Int.sub_mul, Int.mul_assoc, Int.mul_comm 2, Int.mul_assoc, Int.mul_comm _ 2]
    have e : (2 : Int) ^ (15 - l) = 2 * 2 ^ (15 - (l + 1)) := by
      rw [show 15 - l = (15 - (l + 1)) + 1 by omega, Int.pow_succ, Int.mul_comm]
    rw [e] at ih
    omega

theorem F13_chk {N : Nat} (hN : 400 ≤ N) (lens : List Int) : F13 N lens = some (chk lens) := by
  unfold chk okL
  simp only [F13, iteP_eq]
  by_cases h : (320 : Int) < (lens.length : Int)
  · rw [if_pos (by simpa using h), decide_eq_false (show ¬ lens.length ≤ 320 by omega)]
    rfl
  · rw [if_neg (by simpa using h), decide_eq_true (show lens.length ≤ 320 by omega), Bool.true_and]
    have hl := F13_loop N (by omega) lens (by omega) lens.length 0 N (by omega) (by omega)
    rw [List.drop_zero, List.take_zero, show took [] = 0 from rfl, show ((0 : Nat) : Int) = 0 from rfl, show (32768 : Int) - 0 = 32768 from rfl] at hl
    cases hb : okB lens with
    | true =>
      rw [hl.1 hb, Option.bind_some]
      have e := lf_took lens 15 (by omega)
      rw [tookTo_all lens hb] at e
      have e : lf lens 15 = 32768 - took lens := by simpa using e
      simp only
      rw [← e]
      by_cases hn : lf lens 15 < 0
      · rw [if_pos (by simpa using hn), if_neg (by omega)]
      · rw [if_neg (by simpa using hn), if_pos ⟨trivial, by omega⟩]
    | false =>
      rw [hl.2 hb, Option.bind_some]
      rfl
end Go.Proofs.Ytpjkklailofkjaa.Am

namespace Go.Proofs.Ytpjkklailofkjaa.Am
open Go.Am
set_option linter.unusedSimpArgs false
set_option linter.unusedVariables false

/-! ### Codes -/
abbrev Cod := Int × (Int × Unit)
/-- The first code of a length. -/
def first (lens : List Int) : Nat → Nat
  | 0 => 0
  | 1 => 0
  | l + 2 => 2 * (first lens (l + 1) + lens.count ((l + 1 : Nat) : Int))

theorem first_le (lens : List Int) (hl : lens.length ≤ 320) : ∀ l, first lens l + 640 ≤ 640 * 2 ^ l
  | 0 => by simp [first]
  | 1 => by simp [first]
  | l + 2 => by
    have := first_le lens hl (l + 1)
    have hc : lens.count ((l + 1 : Nat) : Int) ≤ 320 := Nat.le_trans List.count_le_length hl
    have hp : 1 ≤ 2 ^ l := Nat.one_le_two_pow
    rw [first]
    have e1 : 2 ^ (l + 1) = 2 * 2 ^ l := by rw [Nat.pow_succ]; omega
    have e2 : 2 ^ (l + 2) = 4 * 2 ^ l := by rw [Nat.pow_succ, e1]; omega
    rw [e1] at this
    rw [e2]
    generalize 2 ^ l = q at *
    omega

theorem first_small (lens : List Int) (hl : lens.length ≤ 320) {l : Nat} (h : l ≤ 15) : first lens l ≤ 20971520 := by
  have h1 := first_le lens hl l
  have h2 : 2 ^ l ≤ 2 ^ 15 := Nat.pow_le_pow_right (by decide) h
  omega

/-- A symbol's code. -/
def codeAt (lens : List Int) (i : Nat) : Cod :=
  let x := lens.getD i 0
  if 0 < x then (((first lens x.toNat + (lens.take i).count x : Nat) : Int), x, ()) else (0, 0, ())
def codesOf (lens : List Int) : List Cod := (List.range lens.length).map (codeAt lens)

/-- Codes of the symbols up to one. -/
def outTo (lens : List Int) (i : Nat) : List Cod := (List.range lens.length).map fun j => if j < i then codeAt lens j else (0, 0, ())
theorem outTo_len (lens : List Int) (i : Nat) : (outTo lens i).length = lens.length := by simp [outTo]
theorem outTo_get (lens : List Int) (i : Nat) {j : Nat} (h : j < lens.length) : (outTo lens i)[j]? = some (if j < i then codeAt lens j else (0, 0, ())) := by
  unfold outTo; rw [List.getElem?_map, List.getElem?_range h]; rfl

theorem outTo_set (lens : List Int) {i : Nat} (h : i < lens.length) : (outTo lens i).set i (codeAt lens i) = outTo lens (i + 1) := by
  apply List.ext_getElem?
  intro k
  by_cases hk : k < lens.length
  · rw [outTo_get _ _ hk]
    by_cases e : i = k
    · subst e
      rw [List.getElem?_set_self (by rw [outTo_len]; exact h), if_pos (by omega)]
    · rw [List.getElem?_set_ne e, outTo_get _ _ hk]
      by_cases hlt : k < i
      · rw [if_pos hlt, if_pos (by omega)]
      · rw [if_neg hlt, if_neg (by omega)]
  · rw [List.getElem?_eq_none (by rw [List.length_set, outTo_len]; omega), List.getElem?_eq_none (by rw [outTo_len]; omega)]

theorem outTo_skip (lens : List Int) {i : Nat} (h : i < lens.length) (h0 : ¬ 0 < lens[i]) : outTo lens i = outTo lens (i + 1) := by
  apply List.ext_getElem?
  intro k
  by_cases hk : k < lens.length
  · rw [outTo_get _ _ hk, outTo_get _ _ hk]
    by_cases e : k = i
    · subst e
      rw [if_neg (by omega), if_pos (by omega)]
      unfold codeAt
      have hg : lens.getD k 0 = lens[k] := by rw [List.getD, List.getElem?_eq_getElem h]; rfl
      rw [hg]
      simp only
      rw [if_neg h0]
    · by_cases hlt : k < i
      · rw [if_pos hlt, if_pos (by omega)]
      · rw [if_neg hlt, if_neg (by omega)]
  · rw [List.getElem?_eq_none (by rw [outTo_len]; omega), List.getElem?_eq_none (by rw [outTo_len]; omega)]

/-- The next code of each length, behind some symbols. -/
def nxt (lens : List Int) (i : Nat) : List Int := (List.range 16).map fun (k : Nat) => (((if k = 0 then 0 else first lens k + (lens.take i).count (k : Int)) : Nat) : Int)
theorem nxt_len (lens : List Int) (i : Nat) : (nxt lens i).length = 16 := by simp [nxt]
theorem nxt_get (lens : List Int) (i : Nat) {k : Nat} (h : k < 16) : (nxt lens i)[k]? = some (((if k = 0 then 0 else first lens k + (lens.take i).count (k : Int)) : Nat) : Int) := by
  unfold nxt; rw [List.getElem?_map, List.getElem?_range h]; rfl

theorem take_snoc {lens : List Int} {i : Nat} (h : i < lens.length) : lens.take (i + 1) = lens.take i ++ [lens[i]] := by
  rw [List.take_add_one, List.getElem?_eq_getElem h]; rfl

theorem nxt_set (lens : List Int) {i x : Nat} (h : i < lens.length) (hx : lens[i] = (x : Int)) (h0 : 0 < x) (h16 : x < 16) :
    (nxt lens i).set x (((first lens x + (lens.take i).count (x : Int) : Nat) : Int) + 1) = nxt lens (i + 1) := by
  apply List.ext_getElem?
  intro k
  by_cases hk : k < 16
  · rw [nxt_get _ _ hk, take_snoc h, hx, List.count_append]
    by_cases e : x = k
    · subst e
      rw [List.getElem?_set_self (by rw [nxt_len]; exact h16), if_neg (by omega)]
      simp
      omega
    · rw [List.getElem?_set_ne e, nxt_get _ _ hk, List.count_singleton]
      have : ((x : Int) == (k : Int)) = false := by simp; omega
      simp [this]
  · rw [List.getElem?_eq_none (by rw [List.length_set, nxt_len]; omega), List.getElem?_eq_none (by rw [nxt_len]; omega)]

theorem nxt_skip (lens : List Int) {i : Nat} (h : i < lens.length) (h0 : lens[i] = 0) : nxt lens i = nxt lens (i + 1) := by
  apply List.ext_getElem?
  intro k
  by_cases hk : k < 16
  · rw [nxt_get _ _ hk, nxt_get _ _ hk, take_snoc h, h0, List.count_append, List.count_singleton]
    by_cases e : k = 0
    · rw [if_pos e, if_pos e]
    · have : ((0 : Int) == (k : Int)) = false := by simp; omega
      rw [if_neg e, if_neg e, this]
      simp
  · rw [List.getElem?_eq_none (by rw [nxt_len]; omega), List.getElem?_eq_none (by rw [nxt_len]; omega)]

theorem F14_loop2 (N : Nat) (lens : List Int) (hl : lens.length ≤ 320) (hok : okB lens = true) : ∀ (d i f : Nat), i + d = lens.length → d < f →
    F14_1018 N f ((i : Int), (lens.length : Int), lens, outTo lens i, nxt lens i) = some (outTo lens lens.length) := by
  intro d
  induction d with
  | zero =>
    intro i f hi hf
    cases f with
    | zero => omega
    | succ f =>
      simp only [F14_1018, B14_1018, iteP_eq]
      rw [if_neg (by simp only [decide_eq_true_eq]; omega), show i = lens.length by omega]
  | succ d ih =>
    intro i f hi hf
    cases f with
    | zero => omega
    | succ f =>
      have hil : i < lens.length := by omega
      obtain ⟨b1, b2⟩ := okB_at hok hil
      obtain ⟨x, hx⟩ := Int.eq_ofNat_of_zero_le b1
      have ih' := ih (i + 1) f (by omega) (by omega)
      have hw : IntKind.wrap .i64 ((i : Int) + 1) = ((i + 1 : Nat) : Int) := by rw [wrap_i64 (by omega) (by omega)]; omega
      have hc : decide ((i : Int) < (lens.length : Int)) = true := by simp only [decide_eq_true_eq]; omega
      have hwi : within (i : Int) lens.length = true := by unfold within; simp only [decide_eq_true_eq]; omega
      have hg : lens[i]? = some lens[i] := List.getElem?_eq_getElem hil
      simp only [F14_1018, B14_1018, hc, hwi, hg, Int.toNat_natCast, if_true, Option.bind_some, hw, iteP_eq]
      by_cases h0 : 0 < lens[i]
      · have hx0 : 0 < x := by omega
        have hx16 : x < 16 := by omega
        have hwx : within (x : Int) 16 = true := by unfold within; simp only [decide_eq_true_eq]; omega
        have hwo : within (i : Int) (outTo lens i).length = true := by rw [outTo_len]; exact hwi
        have hng : (nxt lens i)[x]? = some (((first lens x + (lens.take i).count (x : Int) : Nat)) : Int) := by rw [nxt_get _ _ hx16, if_neg (by omega)]
        have hog := outTo_get lens i hil
        have hfs := first_small lens hl (show x ≤ 15 by omega)
        have hcl : (lens.take i).count (x : Int) ≤ 320 := Nat.le_trans List.count_le_length (by rw [List.length_take]; omega)
        have hca : codeAt lens i = ((((first lens x + (lens.take i).count (x : Int) : Nat)) : Int), (x : Int), ()) := by
          unfold codeAt
          have hgd : lens.getD i 0 = lens[i] := by rw [List.getD, hg]; rfl
          rw [hgd, hx]
          simp only [Int.toNat_natCast]
          rw [if_pos (by omega)]
        rw [if_pos (by simpa using h0), hx]
        simp only [hwx, hwo, hng, hog, Int.toNat_natCast, if_true, Option.bind_some]
        rw [← hca, outTo_set lens hil, wrap_i64 (by omega) (by omega), nxt_set lens hil hx hx0 hx16, ih', Option.bind_some]
      · rw [if_neg (by simpa using h0)]
        rw [outTo_skip lens hil h0, nxt_skip lens hil (by omega), ih', Option.bind_some]

/-- The first codes of the lengths up to one. -/
def fst16 (lens : List Int) (l : Nat) : List Int := (List.range 16).map fun (k : Nat) => (((if k ≤ l then first lens k else 0) : Nat) : Int)
theorem fst16_len (lens : List Int) (l : Nat) : (fst16 lens l).length = 16 := by simp [fst16]
theorem fst16_get (lens : List Int) (l : Nat) {k : Nat} (h : k < 16) : (fst16 lens l)[k]? = some (((if k ≤ l then first lens k else 0) : Nat) : Int) := by
  unfold fst16; rw [List.getElem?_map, List.getElem?_range h]; rfl

theorem fst16_set (lens : List Int) {l : Nat} (h : l + 1 < 16) : (fst16 lens l).set (l + 1) ((first lens (l + 1) : Nat) : Int) = fst16 lens (l + 1) := by
  apply List.ext_getElem?
  intro k
  by_cases hk : k < 16
  · rw [fst16_get _ _ hk]
    by_cases e : l + 1 = k
    · subst e
      rw [List.getElem?_set_self (by rw [fst16_len]; exact hk), if_pos (by omega)]
    · rw [List.getElem?_set_ne e, fst16_get _ _ hk]
      by_cases hlt : k ≤ l
      · rw [if_pos hlt, if_pos (by omega)]
      · rw [if_neg hlt, if_neg (by omega)]
  · rw [List.getElem?_eq_none (by rw [List.length_set, fst16_len]; omega), List.getElem?_eq_none (by rw [fst16_len]; omega)]

theorem F14_loop1 (N : Nat) (lens : List Int) (hl : lens.length ≤ 320) : ∀ (d l f : Nat), l + d = 14 → d + 1 < f →
    F14_250 N f (((l + 1 : Nat) : Int), lens, cntL lens, fst16 lens (l + 1)) = some (lens, fst16 lens 15) := by
  intro d
  induction d with
  | zero =>
    intro l f hi hf
    cases f with
    | zero => omega
    | succ f =>
      have : l = 14 := by omega
      subst this
      simp only [F14_250, B14_250, iteP_eq]
      rw [if_neg (by decide)]
  | succ d ih =>
    intro l f hi hf
    cases f with
    | zero => omega
    | succ f =>
      have ih' := ih (l + 1) f (by omega) (by omega)
      have hw : IntKind.wrap .i64 (((l + 1 : Nat) : Int) + 1) = ((l + 1 + 1 : Nat) : Int) := by rw [wrap_i64 (by omega) (by omega)]; omega
      have hc : decide (((l + 1 : Nat) : Int) < 15) = true := by simp only [decide_eq_true_eq]; omega
      have hwi : within ((l + 1 : Nat) : Int) 16 = true := by unfold within; simp only [decide_eq_true_eq]; omega
      have hwj : within ((l + 1 + 1 : Nat) : Int) 16 = true := by unfold within; simp only [decide_eq_true_eq]; omega
      have g1 : (fst16 lens (l + 1))[l + 1]? = some ((first lens (l + 1) : Nat) : Int) := by rw [fst16_get _ _ (by omega), if_pos (by omega)]
      have g2 := cntL_get lens (show l + 1 < 16 by omega)
      have g3 : (fst16 lens (l + 1))[l + 1 + 1]? = some (0 : Int) := by rw [fst16_get _ _ (by omega), if_neg (by omega)]; rfl
      have hfs := first_small lens hl (show l + 1 ≤ 15 by omega)
      have hcl : lens.count ((l + 1 : Nat) : Int) ≤ 320 := Nat.le_trans List.count_le_length hl
      simp only [F14_250, B14_250, hc, hwi, hw, hwj, g1, g2, g3, Int.toNat_natCast, if_true, Option.bind_some, iteP_eq]
      have e : IntKind.wrap .i64 (IntKind.wrap .i64 (((first lens (l + 1) : Nat) : Int) + (lens.count ((l + 1 : Nat) : Int) : Int)) * 2) = ((first lens (l + 1 + 1) : Nat) : Int) := by
        rw [wrap_i64 (z := ((first lens (l + 1) : Nat) : Int) + _) (by omega) (by omega), wrap_i64 (by omega) (by omega), first]; omega
      rw [e, fst16_set lens (show l + 1 + 1 < 16 by omega), ih', Option.bind_some]

theorem outTo_all (lens : List Int) : outTo lens lens.length = codesOf lens := by
  apply List.ext_getElem?
  intro k
  by_cases hk : k < lens.length
  · rw [outTo_get _ _ hk, if_pos hk]
    unfold codesOf
    rw [List.getElem?_map, List.getElem?_range hk]; rfl
  · rw [List.getElem?_eq_none (by rw [outTo_len]; omega), List.getElem?_eq_none (by simp [codesOf]; omega)]

theorem outTo_zero (lens : List Int) : outTo lens 0 = List.replicate lens.length (0, 0, ()) := by
  apply List.ext_getElem?
  intro k
  by_cases hk : k < lens.length
  · rw [outTo_get _ _ hk, if_neg (by omega), List.getElem?_replicate, if_pos hk]
  · rw [List.getElem?_eq_none (by rw [outTo_len]; omega), List.getElem?_eq_none (by simp; omega)]

theorem nxt_zero (lens : List Int) : nxt lens 0 = fst16 lens 15 := by
  apply List.ext_getElem?
  intro k
  by_cases hk : k < 16
  · rw [nxt_get _ _ hk, fst16_get _ _ hk, if_pos (show k ≤ 15 by omega)]
    by_cases e : k = 0
    · subst e; rfl
    · rw [if_neg e]; simp
  · rw [List.getElem?_eq_none (by rw [nxt_len]; omega), List.getElem?_eq_none (by rw [fst16_len]; omega)]

theorem fst16_one (lens : List Int) : fst16 lens (0 + 1) = [0, 0, 0, 0, 0, 0, 0, 0, 0, 0, 0, 0, 0, 0, 0, 0] := rfl

/-- What 'Codes' tells. -/
theorem F14_codes {N : Nat} (hN : 400 ≤ N) (lens : List Int) : F14 N lens = some (if (chk lens).2 = 0 then (0, codesOf lens) else ((chk lens).2, [])) := by
  obtain ⟨c, hc, hcc⟩ := F36_spec hN lens
  simp only [F14, iteP_eq]
  rw [F12_chk hN, Option.bind_some]
  by_cases h : (chk lens).2 = 0
  · have hok : okL lens = true := by
      unfold chk at h
      by_cases hh : okL lens = true ∧ 0 ≤ lf lens 15
      · exact hh.1
      · rw [if_neg hh] at h; cases h
    have hb : okB lens = true ∧ lens.length ≤ 320 := by
      unfold okL at hok
      simp only [Bool.and_eq_true, decide_eq_true_eq] at hok
      exact ⟨hok.2, hok.1⟩
    rw [if_neg (by simpa using h), if_pos h, hc, Option.bind_some, hcc hok]
    have l1 := F14_loop1 N lens hb.2 14 0 N (by omega) (by omega)
    rw [fst16_one] at l1
    simp only
    rw [show (((0 + 1 : Nat)) : Int) = 1 from rfl] at l1
    rw [l1, Option.bind_some]
    simp only
    have l2 := F14_loop2 N lens hb.2 hb.1 lens.length 0 N (by omega) (by omega)
    rw [outTo_zero, nxt_zero, outTo_all, show ((0 : Nat) : Int) = 0 from rfl] at l2
    rw [if_pos (by simp only [decide_eq_true_eq]; omega), Int.toNat_natCast, l2, Option.bind_some]
  · rw [if_pos (by simpa using h), if_neg h]
end Go.Proofs.Ytpjkklailofkjaa.Am

namespace Go.Proofs.Ytpjkklailofkjaa.Am
open Go.Am
set_option linter.unusedSimpArgs false
set_option linter.unusedVariables false

/-! ### The document's codes: length by length -/
/-- Codes of lengths below one, and of this one up to a symbol. -/
def outD (lens : List Int) (l i : Nat) : List Cod := (List.range lens.length).map fun j =>
  if 0 < lens.getD j 0 ∧ (lens.getD j 0 < (l : Int) ∨ (lens.getD j 0 = (l : Int) ∧ j < i)) then codeAt lens j else (0, 0, ())
theorem outD_len (lens : List Int) (l i : Nat) : (outD lens l i).length = lens.length := by simp [outD]
theorem outD_get (lens : List Int) (l i : Nat) {j : Nat} (h : j < lens.length) : (outD lens l i)[j]? = some (if 0 < lens.getD j 0 ∧ (lens.getD j 0 < (l : Int) ∨ (lens.getD j 0 = (l : Int) ∧ j < i)) then codeAt lens j else (0, 0, ())) := by
  unfold outD; rw [List.getElem?_map, List.getElem?_range h]; rfl

theorem outD_ext {lens : List Int} {l i l' i' : Nat} (h : ∀ j, j < lens.length → ((0 < lens.getD j 0 ∧ (lens.getD j 0 < (l : Int) ∨ (lens.getD j 0 = (l : Int) ∧ j < i))) ↔ (0 < lens.getD j 0 ∧ (lens.getD j 0 < (l' : Int) ∨ (lens.getD j 0 = (l' : Int) ∧ j < i'))))) : outD lens l i = outD lens l' i' := by
  apply List.ext_getElem?
  intro k
  by_cases hk : k < lens.length
  · rw [outD_get _ _ _ hk, outD_get _ _ _ hk]
    have := h k hk
    by_cases hp : (0 < lens.getD k 0 ∧ (lens.getD k 0 < (l : Int) ∨ (lens.getD k 0 = (l : Int) ∧ k < i)))
    · rw [if_pos hp, if_pos (this.1 hp)]
    · rw [if_neg hp, if_neg (fun hq => hp (this.2 hq))]
  · rw [List.getElem?_eq_none (by rw [outD_len]; omega), List.getElem?_eq_none (by rw [outD_len]; omega)]

theorem outD_set {lens : List Int} {l i : Nat} (h : i < lens.length) (hl : lens.getD i 0 = (l : Int)) (h0 : 0 < l) : (outD lens l i).set i (codeAt lens i) = outD lens l (i + 1) := by
  apply List.ext_getElem?
  intro k
  by_cases hk : k < lens.length
  · rw [outD_get _ _ _ hk]
    by_cases e : i = k
    · subst e
      rw [List.getElem?_set_self (by rw [outD_len]; exact h), if_pos ⟨by omega, .inr ⟨hl, by omega⟩⟩]
    · rw [List.getElem?_set_ne e, outD_get _ _ _ hk]
      by_cases hp : (0 < lens.getD k 0 ∧ (lens.getD k 0 < (l : Int) ∨ (lens.getD k 0 = (l : Int) ∧ k < i)))
      · rw [if_pos hp, if_pos ⟨hp.1, hp.2.imp id fun q => ⟨q.1, by omega⟩⟩]
      · rw [if_neg hp, if_neg (fun hq => hp ⟨hq.1, hq.2.imp id fun q => ⟨q.1, by omega⟩⟩)]
  · rw [List.getElem?_eq_none (by rw [List.length_set, outD_len]; omega), List.getElem?_eq_none (by rw [outD_len]; omega)]

theorem F16_inner (N : Nat) (lens : List Int) (hl : lens.length ≤ 320) (l : Nat) (h0 : 0 < l) (h15 : l ≤ 15) : ∀ (d i f : Nat), i + d = lens.length → d < f →
    F16_15654 N f (((first lens l + (lens.take i).count (l : Int) : Nat) : Int), (i : Int), lens, (l : Int), outD lens l i) =
      some ((l : Int), ((first lens l + lens.count (l : Int) : Nat) : Int), lens, outD lens l lens.length) := by
  intro d
  induction d with
  | zero =>
    intro i f hi hf
    cases f with
    | zero => omega
    | succ f =>
      simp only [F16_15654, B16_15654, iteP_eq]
      rw [if_neg (by simp only [decide_eq_true_eq]; omega), List.take_of_length_le (by omega), show i = lens.length by omega]
  | succ d ih =>
    intro i f hi hf
    cases f with
    | zero => omega
    | succ f =>
      have hil : i < lens.length := by omega
      have ih' := ih (i + 1) f (by omega) (by omega)
      have hw : IntKind.wrap .i64 ((i : Int) + 1) = ((i + 1 : Nat) : Int) := by rw [wrap_i64 (by omega) (by omega)]; omega
      have hc : decide ((i : Int) < (lens.length : Int)) = true := by simp only [decide_eq_true_eq]; omega
      have hwi : within (i : Int) lens.length = true := by unfold within; simp only [decide_eq_true_eq]; omega
      have hwo : within (i : Int) (outD lens l i).length = true := by rw [outD_len]; exact hwi
      have hg : lens[i]? = some lens[i] := List.getElem?_eq_getElem hil
      have hgd : lens.getD i 0 = lens[i] := by rw [List.getD, hg]; rfl
      have hog := outD_get lens l i hil
      have hfs := first_small lens hl h15
      have hcl : (lens.take i).count (l : Int) ≤ 320 := Nat.le_trans List.count_le_length (by rw [List.length_take]; omega)
      rw [take_snoc hil, List.count_append, List.count_singleton] at ih'
      simp only [F16_15654, B16_15654, hc, hwi, hg, hwo, hog, Int.toNat_natCast, if_true, Option.bind_some, hw, iteP_eq]
      by_cases he : lens[i] = (l : Int)
      · have hb : (lens[i] == (l : Int)) = true := by simpa using he
        rw [hb] at ih'
        have hca : codeAt lens i = ((((first lens l + (lens.take i).count (l : Int) : Nat)) : Int), (l : Int), ()) := by
          unfold codeAt
          rw [hgd, he]
          simp only [Int.toNat_natCast]
          rw [if_pos (by omega)]
        rw [if_pos hb, ← hca, outD_set hil (hgd.trans he) h0, wrap_i64 (by omega) (by omega)]
        simp only [if_true] at ih'
        rw [show (((first lens l + (lens.take i).count (l : Int) : Nat)) : Int) + 1 = ((first lens l + ((lens.take i).count (l : Int) + 1) : Nat) : Int) by omega, ih', Option.bind_some]
      · have hb : (lens[i] == (l : Int)) = false := by simpa using he
        rw [hb] at ih'
        simp only [Bool.false_eq_true, if_false, Nat.add_zero] at ih'
        rw [if_neg (by rw [hb]; decide)]
        have e : outD lens l i = outD lens l (i + 1) := outD_ext fun j hj => by
          by_cases e : j = i
          · subst e
            rw [hgd]
            constructor
            · rintro ⟨h1, h2 | ⟨h2, h3⟩⟩
              · exact ⟨h1, .inl h2⟩
              · exact absurd h2 he
            · rintro ⟨h1, h2 | ⟨h2, h3⟩⟩
              · exact ⟨h1, .inl h2⟩
              · exact absurd h2 he
          · constructor
            · rintro ⟨h1, h2 | ⟨h2, h3⟩⟩
              · exact ⟨h1, .inl h2⟩
              · exact ⟨h1, .inr ⟨h2, by omega⟩⟩
            · rintro ⟨h1, h2 | ⟨h2, h3⟩⟩
              · exact ⟨h1, .inl h2⟩
              · exact ⟨h1, .inr ⟨h2, by omega⟩⟩
        rw [e, ih', Option.bind_some]

/-- What stands there ahead of a length, halved. -/
def before (lens : List Int) : Nat → Nat
  | 0 => 0
  | 1 => 0
  | l + 2 => first lens (l + 1) + lens.count ((l + 1 : Nat) : Int)

theorem before_twice (lens : List Int) (l : Nat) (h : 0 < l) : 2 * before lens l = first lens l := by
  match l, h with
  | 1, _ => rfl
  | l + 2, _ => rfl

theorem F16_outer (N : Nat) (hN : 400 ≤ N) (lens : List Int) (hl : lens.length ≤ 320) : ∀ (d l f : Nat), l + d = 16 → 0 < l → d < f →
    F16_122 N f ((before lens l : Int), lens, (l : Int), outD lens l 0) = some (outD lens 16 0) := by
  intro d
  induction d with
  | zero =>
    intro l f hi h0 hf
    cases f with
    | zero => omega
    | succ f =>
      have : l = 16 := by omega
      subst this
      simp only [F16_122, B16_122, iteP_eq]
      rw [if_neg (by decide)]
  | succ d ih =>
    intro l f hi h0 hf
    cases f with
    | zero => omega
    | succ f =>
      have ih' := ih (l + 1) f (by omega) (by omega) (by omega)
      have hfs := first_small lens hl (show l ≤ 15 by omega)
      have hb := before_twice lens l h0
      have hin := F16_inner N lens hl l h0 (by omega) lens.length 0 N (by omega) (by omega)
      rw [List.take_zero, List.count_nil, Nat.add_zero, show ((0 : Nat) : Int) = 0 from rfl] at hin
      simp only [F16_122, B16_122, iteP_eq]
      rw [if_pos (by simp only [decide_eq_true_eq]; omega), wrap_i64 (z := (before lens l : Int) * 2) (by omega) (by omega), show (before lens l : Int) * 2 = ((first lens l : Nat) : Int) by omega, hin, Option.bind_some]
      simp only
      have e1 : ((first lens l + lens.count (l : Int) : Nat) : Int) = (before lens (l + 1) : Int) := by
        match l, h0 with
        | k + 1, _ => rfl
      have e2 : outD lens l lens.length = outD lens (l + 1) 0 := outD_ext fun j hj => by
        constructor
        · rintro ⟨h1, h2 | ⟨h2, h3⟩⟩
          · exact ⟨h1, .inl (by omega)⟩
          · exact ⟨h1, .inl (by omega)⟩
        · rintro ⟨h1, h2 | ⟨h2, h3⟩⟩
          · by_cases e : lens.getD j 0 = (l : Int)
            · exact ⟨h1, .inr ⟨e, hj⟩⟩
            · exact ⟨h1, .inl (by omega)⟩
          · omega
      rw [e1, e2, wrap_i64 (by omega) (by omega), show ((l : Int) + 1) = ((l + 1 : Nat) : Int) by omega, ih', Option.bind_some]

theorem F16_codes {N : Nat} (hN : 400 ≤ N) (lens : List Int) (hl : lens.length ≤ 320) (hok : okB lens = true) : F16 N lens = some (codesOf lens) := by
  simp only [F16, iteP_eq]
  rw [if_pos (by simp only [decide_eq_true_eq]; omega), Int.toNat_natCast]
  have h := F16_outer N hN lens hl 15 1 N (by omega) (by omega) (by omega)
  have e0 : outD lens 1 0 = List.replicate lens.length (0, 0, ()) := by
    apply List.ext_getElem?
    intro k
    by_cases hk : k < lens.length
    · rw [outD_get _ _ _ hk, if_neg (by omega), List.getElem?_replicate, if_pos hk]
    · rw [List.getElem?_eq_none (by rw [outD_len]; omega), List.getElem?_eq_none (by simp; omega)]
  have e1 : outD lens 16 0 = codesOf lens := by
    apply List.ext_getElem?
    intro k
    by_cases hk : k < lens.length
    · have hc : (codesOf lens)[k]? = some (codeAt lens k) := by
        unfold codesOf
        rw [List.getElem?_map, List.getElem?_range hk]; rfl
      rw [outD_get _ _ _ hk, hc]
      have hg : lens.getD k 0 = lens[k] := by rw [List.getD, List.getElem?_eq_getElem hk]; rfl
      obtain ⟨b1, b2⟩ := okB_at hok hk
      by_cases h0 : 0 < lens[k]
      · rw [if_pos ⟨by omega, .inl (by omega)⟩]
      · rw [if_neg (fun q => h0 (by rw [← hg]; exact q.1))]
        unfold codeAt
        rw [hg]
        simp only
        rw [if_neg h0]
    · rw [List.getElem?_eq_none (by rw [outD_len]; omega), List.getElem?_eq_none (by simp [codesOf]; omega)]
  rw [e0, e1, show (before lens 1 : Int) = 0 from rfl, show ((1 : Nat) : Int) = 1 from rfl] at h
  rw [h, Option.bind_some]
end Go.Proofs.Ytpjkklailofkjaa.Am

namespace Go.Proofs.Ytpjkklailofkjaa.Am
open Go.Am
set_option linter.unusedSimpArgs false
set_option linter.unusedVariables false

theorem codesOf_len (lens : List Int) : (codesOf lens).length = lens.length := by simp [codesOf]

theorem chk_ok {lens : List Int} (h : (chk lens).2 = 0) : lens.length ≤ 320 ∧ okB lens = true := by
  have hok : okL lens = true := by
    unfold chk at h
    by_cases hh : okL lens = true ∧ 0 ≤ lf lens 15
    · exact hh.1
    · rw [if_neg hh] at h; cases h
  unfold okL at hok
  simp only [Bool.and_eq_true, decide_eq_true_eq] at hok
  exact hok

theorem get_at {a : List Int} {i : Nat} (h : i < a.length) : a[i]? = some (a.getD i 0) := by
  rw [List.getD, List.getElem?_eq_getElem h]; rfl
end Go.Proofs.Ytpjkklailofkjaa.Am

namespace Go.Proofs.Ytpjkklailofkjaa.Am
open Go.Am
set_option linter.unusedSimpArgs false
set_option linter.unusedVariables false

/-! ### A decoder: its symbols by their codes -/
/-- The symbols of a length, up to one. -/
def symsTo (lens : List Int) (l : Nat) : Nat → List Int
  | 0 => []
  | i + 1 => if lens.getD i 0 = (l : Int) then symsTo lens l i ++ [(i : Int)] else symsTo lens l i

theorem symsTo_len (lens : List Int) (l : Nat) : ∀ i, i ≤ lens.length → (symsTo lens l i).length = (lens.take i).count (l : Int)
  | 0, _ => by simp [symsTo]
  | i + 1, h => by
    have ih := symsTo_len lens l i (by omega)
    have hg : lens.getD i 0 = lens[i] := by rw [List.getD, List.getElem?_eq_getElem (by omega)]; rfl
    rw [symsTo, hg, take_snoc (by omega), List.count_append, List.count_singleton]
    by_cases e : lens[i] = (l : Int)
    · have hb : (lens[i] == (l : Int)) = true := by simpa using e
      rw [if_pos e, hb, List.length_append, ih]; rfl
    · have hb : (lens[i] == (l : Int)) = false := by simpa using e
      rw [if_neg e, hb, ih]; rfl

/-- The longest so far. -/
def lgOr (lens : List Int) (l i lg : Nat) : Nat := if (symsTo lens l i).isEmpty then lg else l

theorem F20_inner (N : Nat) (lens x2 x5 : List Int) (hl : lens.length ≤ 320) (l lg : Nat) (S : List Int) (hS : S.length ≤ 10000) : ∀ (d i f : Nat), i + d = lens.length → d < f →
    F20_16018 N f ((i : Int), (lens.length : Int), x2, lens, (l : Int), x5, ((lgOr lens l i lg : Nat) : Int), S ++ symsTo lens l i) =
      some ((l : Int), x2, x5, ((lgOr lens l lens.length lg : Nat) : Int), S ++ symsTo lens l lens.length) := by
  intro d
  induction d with
  | zero =>
    intro i f hi hf
    cases f with
    | zero => omega
    | succ f =>
      simp only [F20_16018, B20_16018, iteP_eq]
      rw [if_neg (by simp only [decide_eq_true_eq]; omega), show i = lens.length by omega]
  | succ d ih =>
    intro i f hi hf
    cases f with
    | zero => omega
    | succ f =>
      have hil : i < lens.length := by omega
      have ih' := ih (i + 1) f (by omega) (by omega)
      have hw : IntKind.wrap .i64 ((i : Int) + 1) = ((i + 1 : Nat) : Int) := by rw [wrap_i64 (by omega) (by omega)]; omega
      have hc : decide ((i : Int) < (lens.length : Int)) = true := by simp only [decide_eq_true_eq]; omega
      have hwi : within (i : Int) lens.length = true := by unfold within; simp only [decide_eq_true_eq]; omega
      have hg : lens[i]? = some lens[i] := List.getElem?_eq_getElem hil
      have hgd : lens.getD i 0 = lens[i] := by rw [List.getD, hg]; rfl
      have hsl := symsTo_len lens l i (by omega)
      have hcl : (lens.take i).count (l : Int) ≤ 320 := Nat.le_trans List.count_le_length (by rw [List.length_take]; omega)
      simp only [F20_16018, B20_16018, hc, hwi, hg, hw, Int.toNat_natCast, if_true, Option.bind_some, iteP_eq]
      by_cases he : lens[i] = (l : Int)
      · have hb : (lens[i] == (l : Int)) = true := by simpa using he
        have es : symsTo lens l (i + 1) = symsTo lens l i ++ [(i : Int)] := by rw [symsTo, hgd, if_pos he]
        have el : lgOr lens l (i + 1) lg = l := by unfold lgOr; rw [es]; simp
        rw [es, el, ← List.append_assoc] at ih'
        rw [if_pos hb, if_pos (by simp only [decide_eq_true_eq, List.length_append, List.length_singleton]; omega), ih', Option.bind_some]
      · have hb : (lens[i] == (l : Int)) = false := by simpa using he
        have es : symsTo lens l (i + 1) = symsTo lens l i := by rw [symsTo, hgd, if_neg he]
        have el : lgOr lens l (i + 1) lg = lgOr lens l i lg := by unfold lgOr; rw [es]
        rw [es, el] at ih'
        rw [if_neg (by rw [hb]; decide), ih', Option.bind_some]

def symsUp (lens : List Int) : Nat → List Int
  | 0 => []
  | l + 1 => symsUp lens l ++ symsTo lens (l + 1) lens.length
def lgUp (lens : List Int) : Nat → Nat
  | 0 => 0
  | l + 1 => lgOr lens (l + 1) lens.length (lgUp lens l)

theorem symsUp_len (lens : List Int) (hl : lens.length ≤ 320) : ∀ l, (symsUp lens l).length ≤ 320 * l
  | 0 => by simp [symsUp]
  | l + 1 => by
    have h1 := symsUp_len lens hl l
    have h2 := symsTo_len lens (l + 1) lens.length (Nat.le_refl _)
    have h3 : (lens.take lens.length).count ((l + 1 : Nat) : Int) ≤ 320 := Nat.le_trans List.count_le_length (by rw [List.length_take]; omega)
    rw [symsUp, List.length_append]
    omega

theorem F20_outer (N : Nat) (hN : 400 ≤ N) (lens x2 : List Int) (hl : lens.length ≤ 320) : ∀ (d l f : Nat), l + d = 15 → d < f →
    F20_250 N f (lens, ((l + 1 : Nat) : Int), x2, ((lgUp lens l : Nat) : Int), symsUp lens l) = some (x2, ((lgUp lens 15 : Nat) : Int), symsUp lens 15) := by
  intro d
  induction d with
  | zero =>
    intro l f hi hf
    cases f with
    | zero => omega
    | succ f =>
      have : l = 15 := by omega
      subst this
      simp only [F20_250, B20_250, iteP_eq]
      rw [if_neg (by decide)]
  | succ d ih =>
    intro l f hi hf
    cases f with
    | zero => omega
    | succ f =>
      have ih' := ih (l + 1) f (by omega) (by omega)
      have hs := symsUp_len lens hl l
      have hin := F20_inner N lens lens x2 hl (l + 1) (lgUp lens l) (symsUp lens l) (by omega) lens.length 0 N (by omega) (by omega)
      have e0 : lgOr lens (l + 1) 0 (lgUp lens l) = lgUp lens l := rfl
      rw [e0, show symsTo lens (l + 1) 0 = [] from rfl, List.append_nil, show ((0 : Nat) : Int) = 0 from rfl] at hin
      simp only [F20_250, B20_250, iteP_eq]
      rw [if_pos (by simp only [decide_eq_true_eq]; omega), hin, Option.bind_some]
      simp only
      rw [wrap_i64 (by omega) (by omega), show ((l + 1 : Nat) : Int) + 1 = ((l + 1 + 1 : Nat) : Int) by omega]
      have ih'' : F20_250 N f (lens, ((l + 1 + 1 : Nat) : Int), x2, ((lgOr lens (l + 1) lens.length (lgUp lens l) : Nat) : Int), symsUp lens l ++ symsTo lens (l + 1) lens.length) = _ := ih'
      rw [ih'', Option.bind_some]

/-- What 'New' makes. -/
theorem F20_new {N : Nat} (hN : 400 ≤ N) (lens : List Int) : F20 N lens = some (if (chk lens).2 = 0 then .inr (0, cntL lens, ((lgUp lens 15 : Nat) : Int), symsUp lens 15) else .inl (chk lens).2) := by
  obtain ⟨c, hc, hcc⟩ := F36_spec hN lens
  simp only [F20, iteP_eq]
  rw [F12_chk hN, Option.bind_some]
  by_cases h : (chk lens).2 = 0
  · obtain ⟨a1, a2⟩ := chk_ok h
    have hok : okL lens = true := by unfold okL; rw [decide_eq_true a1, a2]; rfl
    have ho := F20_outer N hN lens (cntL lens) a1 15 0 N (by omega) (by omega)
    rw [show ((0 + 1 : Nat) : Int) = 1 from rfl, show ((lgUp lens 0 : Nat) : Int) = 0 from rfl, show symsUp lens 0 = [] from rfl] at ho
    rw [if_neg (by simpa using h), if_pos h, hc, Option.bind_some, hcc hok]
    simp only
    rw [ho, Option.bind_some]
  · rw [if_pos (by simpa using h), if_neg h]
end Go.Proofs.Ytpjkklailofkjaa.Am

namespace Go.Proofs.Ytpjkklailofkjaa.Am
open Go.Am
set_option linter.unusedSimpArgs false
set_option linter.unusedVariables false

/-! ### The document: with which codes do some bits begin? -/
/-- A code's i-th bit, the greatest one first. -/
def bitOf (c n : Nat) (i : Nat) : Bool := c.testBit (n - 1 - i)

theorem F62_bit {N : Nat} (hN : 61 < N) (c n i : Nat) (hc : c < 1000000000) (hn : n ≤ 15) (hi : i < n) : F62 N ((c : Int), (n : Int), (i : Int)) = some (bitOf c n i) := by
  have hp : (2 : Int) ^ (n - 1 - i) ≤ 32768 := by
    have : (2 : Nat) ^ (n - 1 - i) ≤ 2 ^ 15 := Nat.pow_le_pow_right (by decide) (by omega)
    have h2 : ((2 ^ (n - 1 - i) : Nat) : Int) ≤ ((2 ^ 15 : Nat) : Int) := Int.ofNat_le.2 this
    simpa using h2
  have hp0 : (0 : Int) < 2 ^ (n - 1 - i) := Int.pow_pos (by decide)
  simp only [F62, iteP_eq]
  have e : IntKind.wrap .i64 (IntKind.wrap .i64 ((n : Int) - 1) - (i : Int)) = ((n - 1 - i : Nat) : Int) := by
    rw [wrap_i64 (z := (n : Int) - 1) (by omega) (by omega), wrap_i64 (by omega) (by omega)]; omega
  rw [e, F37_pow hN _ (by omega), Option.bind_some, if_neg (by simp only [decide_eq_true_eq]; omega)]
  congr 1
  unfold bitOf
  have e2 : Int.tdiv (c : Int) (2 ^ (n - 1 - i)) = ((c / 2 ^ (n - 1 - i) : Nat) : Int) := by
    rw [Int.tdiv_eq_ediv_of_nonneg (by omega)]; simp
  have hd : c / 2 ^ (n - 1 - i) ≤ c := Nat.div_le_self ..
  rw [e2, Nat.testBit_eq_decide_div_mod_eq]
  clear e2
  generalize c / 2 ^ (n - 1 - i) = q at *
  rw [wrap_i64 (by omega) (by omega), Int.tmod_eq_emod_of_nonneg (by omega)]
  have hq := Nat.mod_two_eq_zero_or_one q
  have e3 : (q : Int) % 2 = ((q % 2 : Nat) : Int) := by omega
  rw [e3]
  rcases hq with h | h <;> rw [h] <;> rfl

/-- Does a code of n bits begin with some bits? -/
def beginsN (c n : Nat) (l : List Bool) : Bool := decide (l.length ≤ n) && (List.range l.length).all fun i => bitOf c n i == l.getD i false

theorem F45_loop {N : Nat} (hN : 61 < N) (c n : Nat) (hc : c < 1000000000) (hn : n ≤ 15) (l : List Bool) (hl : l.length ≤ n) : ∀ (d i f : Nat), i + d = l.length → d < f →
    ((∀ j, i ≤ j → j < l.length → bitOf c n j = l.getD j false) → F45_58 N f (l, (i : Int), (c : Int), (n : Int)) = some (.inr ())) ∧
    ((∃ j, i ≤ j ∧ j < l.length ∧ bitOf c n j ≠ l.getD j false) → F45_58 N f (l, (i : Int), (c : Int), (n : Int)) = some (.inl false)) := by
  intro d
  induction d with
  | zero =>
    intro i f hi hf
    cases f with
    | zero => omega
    | succ f =>
      simp only [F45_58, B45_58, iteP_eq]
      rw [if_neg (by simp only [decide_eq_true_eq]; omega)]
      exact ⟨fun _ => rfl, fun ⟨j, h1, h2, _⟩ => by omega⟩
  | succ d ih =>
    intro i f hi hf
    cases f with
    | zero => omega
    | succ f =>
      obtain ⟨ih1, ih2⟩ := ih (i + 1) f (by omega) (by omega)
      have hil : i < l.length := by omega
      have hw : IntKind.wrap .i64 ((i : Int) + 1) = ((i + 1 : Nat) : Int) := by rw [wrap_i64 (by omega) (by omega)]; omega
      have hwi : within (i : Int) l.length = true := by unfold within; simp only [decide_eq_true_eq]; omega
      have hcc : decide ((i : Int) < (l.length : Int)) = true := by simp only [decide_eq_true_eq]; omega
      have hg : l[i]? = some (l.getD i false) := by rw [List.getD, List.getElem?_eq_getElem hil]; rfl
      simp only [F45_58, B45_58, hcc, hwi, hg, hw, Int.toNat_natCast, if_true, Option.bind_some, iteP_eq]
      rw [F62_bit hN c n i hc hn (by omega), Option.bind_some]
      by_cases he : bitOf c n i = l.getD i false
      · rw [he, if_neg (by simp)]
        refine ⟨fun h => by rw [ih1 fun j h1 h2 => h j (by omega) h2]; rfl, fun ⟨j, h1, h2, h3⟩ => ?_⟩
        rw [ih2 ⟨j, by
          by_cases e : j = i
          · subst e; exact absurd he h3
          · omega, h2, h3⟩]
        rfl
      · rw [if_pos (by simpa using he)]
        exact ⟨fun h => absurd (h i (Nat.le_refl _) hil) he, fun _ => by first | rfl | trivial⟩

theorem F45_begins {N : Nat} (hN : 61 < N) (c n : Nat) (hc : c < 1000000000) (hn : n ≤ 15) (l : List Bool) (hl : l.length ≤ 100) (hN2 : 101 < N) : F45 N ((c : Int), (n : Int), l) = some (beginsN c n l) := by
  unfold beginsN
  simp only [F45, iteP_eq]
  by_cases h : n < l.length
  · rw [if_pos (by simp only [decide_eq_true_eq]; omega), decide_eq_false (by omega)]; rfl
  · rw [if_neg (by simp only [decide_eq_true_eq]; omega), decide_eq_true (by omega), Bool.true_and]
    obtain ⟨h1, h2⟩ := F45_loop hN c n hc hn l (by omega) l.length 0 N (by omega) (by omega)
    rw [show ((0 : Nat) : Int) = 0 from rfl] at h1 h2
    cases ha : (List.range l.length).all fun i => bitOf c n i == l.getD i false with
    | true =>
      rw [h1 fun j _ hj => by simpa using List.all_eq_true.1 ha j (List.mem_range.2 hj), Option.bind_some]
    | false =>
      have : ∃ j, 0 ≤ j ∧ j < l.length ∧ bitOf c n j ≠ l.getD j false := by
        refine Classical.byContradiction fun hn => ?_
        have : (List.range l.length).all (fun i => bitOf c n i == l.getD i false) = true := List.all_eq_true.2 fun j hj => by
          have hj := List.mem_range.1 hj
          by_cases e : bitOf c n j = l.getD j false
          · simpa using e
          · exact absurd ⟨j, Nat.zero_le _, hj, e⟩ hn
        rw [ha] at this; cases this
      rw [h2 this, Option.bind_some]
end Go.Proofs.Ytpjkklailofkjaa.Am

namespace Go.Proofs.Ytpjkklailofkjaa.Am
open Go.Am
set_option linter.unusedSimpArgs false
set_option linter.unusedVariables false

/-- Does the j-th code begin with some bits? -/
def preB (c n : Nat → Nat) (l : List Bool) (j : Nat) : Bool := !(n j == 0) && beginsN (c j) (n j) l
/-- Is it those bits? -/
def hitB (c n : Nat → Nat) (l : List Bool) (j : Nat) : Bool := preB c n l j && (n j == l.length)
def smF (c n : Nat → Nat) (l : List Bool) (i : Nat) : Int := bif (List.range i).any (preB c n l) then -1 else -2

theorem smF_succ (c n : Nat → Nat) (l : List Bool) (i : Nat) : smF c n l (i + 1) = bif preB c n l i then -1 else smF c n l i := by
  unfold smF
  rw [List.range_succ, List.any_append, List.any_cons, List.any_nil, Bool.or_false]
  cases (List.range i).any (preB c n l) <;> cases preB c n l i <;> rfl

theorem F24_loop {N : Nat} (hN : 101 < N) (C : List Cod) (c n : Nat → Nat) (hC : ∀ j, j < C.length → C[j]? = some ((c j : Int), (n j : Int), ()) ∧ c j < 1000000000 ∧ n j ≤ 15) (hl : C.length ≤ 1000) (l : List Bool) (hll : l.length ≤ 100) :
    ∀ (d i f : Nat), i + d = C.length → d < f →
    (∀ k, i ≤ k → k < C.length → hitB c n l k = true → (∀ j, i ≤ j → j < k → hitB c n l j = false) → F24_58 N f ((i : Int), smF c n l i, l, C) = some (.inl (k : Int))) ∧
    ((∀ j, i ≤ j → j < C.length → hitB c n l j = false) → F24_58 N f ((i : Int), smF c n l i, l, C) = some (.inr (smF c n l C.length))) := by
  intro d
  induction d with
  | zero =>
    intro i f hi hf
    cases f with
    | zero => omega
    | succ f =>
      simp only [F24_58, B24_58, iteP_eq]
      rw [if_neg (by simp only [decide_eq_true_eq]; omega), show i = C.length by omega]
      exact ⟨fun k h1 h2 => by omega, fun _ => rfl⟩
  | succ d ih =>
    intro i f hi hf
    cases f with
    | zero => omega
    | succ f =>
      have hil : i < C.length := by omega
      obtain ⟨ih1, ih2⟩ := ih (i + 1) f (by omega) (by omega)
      obtain ⟨hg, hc, hn⟩ := hC i hil
      have hw : IntKind.wrap .i64 ((i : Int) + 1) = ((i + 1 : Nat) : Int) := by rw [wrap_i64 (by omega) (by omega)]; omega
      have hwi : within (i : Int) C.length = true := by unfold within; simp only [decide_eq_true_eq]; omega
      have hcc : decide ((i : Int) < (C.length : Int)) = true := by simp only [decide_eq_true_eq]; omega
      have hs := smF_succ c n l i
      simp only [F24_58, B24_58, hcc, hwi, hg, hw, Int.toNat_natCast, if_true, Option.bind_some, iteP_eq]
      by_cases h0 : n i = 0
      · have hp : preB c n l i = false := by unfold preB; rw [h0]; rfl
        have hh : hitB c n l i = false := by unfold hitB; rw [hp]; rfl
        rw [hp] at hs
        have hs : smF c n l (i + 1) = smF c n l i := hs
        rw [hs] at ih1 ih2
        rw [if_pos (by simp [h0])]
        refine ⟨fun k h1 h2 h3 h4 => ?_, fun h => ?_⟩
        · rw [ih1 k (by
            by_cases e : k = i
            · subst e; rw [hh] at h3; cases h3
            · omega) h2 h3 fun j g1 g2 => h4 j (by omega) g2]; rfl
        · rw [ih2 fun j g1 g2 => h j (by omega) g2]; rfl
      · have hn0 : (n i == 0) = false := by simpa using h0
        rw [if_neg (by simp; omega), F45_begins (by omega) (c i) (n i) hc hn l hll hN, Option.bind_some]
        cases hb : beginsN (c i) (n i) l with
        | false =>
          have hp : preB c n l i = false := by unfold preB; rw [hb, Bool.and_false]
          have hh : hitB c n l i = false := by unfold hitB; rw [hp]; rfl
          rw [hp] at hs
          have hs : smF c n l (i + 1) = smF c n l i := hs
          rw [hs] at ih1 ih2
          simp only [Bool.false_eq_true, if_false]
          refine ⟨fun k h1 h2 h3 h4 => ?_, fun h => ?_⟩
          · rw [ih1 k (by
              by_cases e : k = i
              · subst e; rw [hh] at h3; cases h3
              · omega) h2 h3 fun j g1 g2 => h4 j (by omega) g2]; rfl
          · rw [ih2 fun j g1 g2 => h j (by omega) g2]; rfl
        | true =>
          have hp : preB c n l i = true := by unfold preB; rw [hb, hn0]; rfl
          rw [hp] at hs
          have hs : smF c n l (i + 1) = -1 := hs
          rw [hs] at ih1 ih2
          simp only [if_true]
          by_cases he : n i = l.length
          · have hh : hitB c n l i = true := by unfold hitB; rw [hp, Bool.true_and]; simpa using he
            rw [if_pos (by simp [he])]
            refine ⟨fun k h1 h2 h3 h4 => ?_, fun h => ?_⟩
            · by_cases e : k = i
              · subst e; rfl
              · have := h4 i (Nat.le_refl _) (by omega)
                rw [hh] at this; cases this
            · have := h i (Nat.le_refl _) hil
              rw [hh] at this; cases this
          · have hh : hitB c n l i = false := by unfold hitB; rw [hp, Bool.true_and]; simpa using he
            rw [if_neg (by simp; omega)]
            refine ⟨fun k h1 h2 h3 h4 => ?_, fun h => ?_⟩
            · rw [ih1 k (by
                by_cases e : k = i
                · subst e; rw [hh] at h3; cases h3
                · omega) h2 h3 fun j g1 g2 => h4 j (by omega) g2]; rfl
            · rw [ih2 fun j g1 g2 => h j (by omega) g2]; rfl

/-- What the document's 'Find' tells. -/
theorem F24_hit {N : Nat} (hN : 2000 < N) {C : List Cod} {c n : Nat → Nat} (hC : ∀ j, j < C.length → C[j]? = some ((c j : Int), (n j : Int), ()) ∧ c j < 1000000000 ∧ n j ≤ 15) (hl : C.length ≤ 1000) (l : List Bool) (hll : l.length ≤ 100) {k : Nat} (hk : k < C.length) (hh : hitB c n l k = true) (hf : ∀ j, j < k → hitB c n l j = false) : F24 N (C, l) = some (k : Int) := by
  obtain ⟨h1, _⟩ := F24_loop (N := N) (by omega) C c n hC hl l hll C.length 0 N (by omega) (by omega)
  simp only [F24, iteP_eq]
  have := h1 k (Nat.zero_le _) hk hh fun j _ hj => hf j hj
  rw [show smF c n l 0 = -2 from rfl, show ((0 : Nat) : Int) = 0 from rfl] at this
  rw [this, Option.bind_some]

theorem F24_none {N : Nat} (hN : 2000 < N) {C : List Cod} {c n : Nat → Nat} (hC : ∀ j, j < C.length → C[j]? = some ((c j : Int), (n j : Int), ()) ∧ c j < 1000000000 ∧ n j ≤ 15) (hl : C.length ≤ 1000) (l : List Bool) (hll : l.length ≤ 100) (hf : ∀ j, j < C.length → hitB c n l j = false) : F24 N (C, l) = some (smF c n l C.length) := by
  obtain ⟨_, h2⟩ := F24_loop (N := N) (by omega) C c n hC hl l hll C.length 0 N (by omega) (by omega)
  simp only [F24, iteP_eq]
  have := h2 fun j _ hj => hf j hj
  rw [show smF c n l 0 = -2 from rfl, show ((0 : Nat) : Int) = 0 from rfl] at this
  rw [this, Option.bind_some]
end Go.Proofs.Ytpjkklailofkjaa.Am

namespace Go.Proofs.Ytpjkklailofkjaa.Am
open Go.Am
set_option linter.unusedSimpArgs false
set_option linter.unusedVariables false

/-! ### How many numbers begin longer codes -/
/-- So many, d lengths below the longest one. -/
def restR (lens : List Int) (lg : Nat) : Nat → Nat
  | 0 => 0
  | d + 1 => (restR lens lg d + lens.count ((lg - d : Nat) : Int) + 1) / 2

theorem restR_le (lens : List Int) (lg : Nat) (hl : lens.length ≤ 320) : ∀ d, restR lens lg d ≤ 321
  | 0 => by simp [restR]
  | d + 1 => by
    have h1 := restR_le lens lg hl d
    have h2 : lens.count ((lg - d : Nat) : Int) ≤ 320 := Nat.le_trans List.count_le_length hl
    rw [restR]
    omega

theorem F44_loop (N : Nat) (lens : List Int) (hl : lens.length ≤ 320) (lg l : Nat) (hlg : lg ≤ 15) (hle : l ≤ lg) (x4 : Int) (x5 : List Int) : ∀ (e d f : Nat), d + e = lg - l → e < f →
    F44_58 N f ((restR lens lg d : Int), ((lg - d : Nat) : Int), (l : Int), cntL lens, x4, x5) = some ((restR lens lg (lg - l) : Int), cntL lens, x4, x5) := by
  intro e
  induction e with
  | zero =>
    intro d f hd hf
    cases f with
    | zero => omega
    | succ f =>
      simp only [F44_58, B44_58, iteP_eq]
      rw [if_neg (by simp only [decide_eq_true_eq]; omega), show d = lg - l by omega]
  | succ e ih =>
    intro d f hd hf
    cases f with
    | zero => omega
    | succ f =>
      have ih' := ih (d + 1) f (by omega) (by omega)
      have hr := restR_le lens lg hl d
      have hc : lens.count ((lg - d : Nat) : Int) ≤ 320 := Nat.le_trans List.count_le_length hl
      simp only [F44_58, B44_58, iteP_eq]
      rw [if_pos (by simp only [decide_eq_true_eq]; omega), if_pos (show within ((lg - d : Nat) : Int) 16 = true by unfold within; simp only [decide_eq_true_eq]; omega), Int.toNat_natCast, cntL_get _ (by omega), Option.bind_some]
      rw [wrap_i64 (z := (restR lens lg d : Int) + _) (by omega) (by omega), wrap_i64 (z := (restR lens lg d : Int) + (lens.count ((lg - d : Nat) : Int) : Int) + 1) (by omega) (by omega)]
      have e1 : Int.tdiv ((restR lens lg d : Int) + (lens.count ((lg - d : Nat) : Int) : Int) + 1) 2 = ((restR lens lg (d + 1) : Nat) : Int) := by
        rw [Int.tdiv_eq_ediv_of_nonneg (by omega), restR]; omega
      have hr2 := restR_le lens lg hl (d + 1)
      rw [e1, wrap_i64 (by omega) (by omega), wrap_i64 (by omega) (by omega), show ((lg - d : Nat) : Int) - 1 = ((lg - (d + 1) : Nat) : Int) by omega, ih', Option.bind_some]

theorem F44_rest {N : Nat} (hN : 20 < N) (lens : List Int) (hl : lens.length ≤ 320) (lg l : Nat) (hlg : lg ≤ 15) (hle : l ≤ lg) (x5 : List Int) : F44 N ((l : Int), cntL lens, (lg : Int), x5) = some ((restR lens lg (lg - l) : Int), cntL lens, (lg : Int), x5) := by
  simp only [F44, iteP_eq]
  have h := F44_loop N lens hl lg l hlg hle (lg : Int) x5 (lg - l) 0 N (by omega) (by omega)
  rw [show ((restR lens lg 0 : Nat) : Int) = 0 from rfl, Nat.sub_zero] at h
  rw [h, Option.bind_some]

theorem lgUp_le (lens : List Int) : ∀ l, lgUp lens l ≤ l
  | 0 => Nat.le_refl _
  | l + 1 => by
    have := lgUp_le lens l
    rw [lgUp]
    unfold lgOr
    split <;> omega
end Go.Proofs.Ytpjkklailofkjaa.Am

namespace Go.Proofs.Ytpjkklailofkjaa.Am
open Go.Am
set_option linter.unusedSimpArgs false
set_option linter.unusedVariables false

theorem F64_rev (N : Nat) (X : BitVec 64) : F64 N (U X) = some (U (rev64 X)) := by
  simp only [F64, F74, wrapU, ofU, shr1, shr2, shr4, shr8, shr16, shr32, shl1, shl2, shl4, shl8, shl16, shl32, Option.bind_some, iteP_eq]
  rfl

def clampN (b : Int) : Nat := min b.toNat 32
theorem clampN_le (b : Int) : clampN b ≤ 32 := Nat.min_le_right ..
theorem clamp_eq (b : Int) : (if (32 : Int) < (if (0 : Int) > b then (0 : Int) else b) then (32 : Int) else if (0 : Int) > b then (0 : Int) else b) = (clampN b : Int) := by
  unfold clampN
  split <;> split at * <;> omega
theorem F60_clamp (N : Nat) (b : Int) : F60 N b = some (clampN b : Int) := by
  show some _ = _
  rw [← clamp_eq]

def lowN (n : Nat) (v : Int) : Nat := (BitVec.ofInt 64 v).toNat % 2 ^ n
theorem lowN_lt (n : Nat) (v : Int) : lowN n v < 2 ^ n := Nat.mod_lt _ (Nat.pow_pos (by decide))
theorem pow_le32 {n : Nat} (h : n ≤ 32) : 2 ^ n ≤ 4294967296 := Nat.pow_le_pow_right (n := 2) (by decide) h

theorem mask_eq {n : Nat} (hn : n ≤ 32) : IntKind.wrap .i64 ((1 : Int) * 2 ^ min (Int.toNat (n : Int)) 64) = ((2 ^ n : Nat) : Int) := by
  have := pow_le32 hn
  have h1 : min (Int.toNat (n : Int)) 64 = n := by simp; omega
  rw [h1, Int.one_mul, show ((2 : Int) ^ n) = ((2 ^ n : Nat) : Int) by simp]
  generalize 2 ^ n = k at *
  exact wrap_i64 (by omega) (by omega)

theorem low_eq {n : Nat} (hn : n ≤ 32) (v : Int) : IntKind.wrap .i64 ((BitVec.toNat (BitVec.ofInt 64 v &&& BitVec.ofInt 64 (IntKind.wrap .i64 (IntKind.wrap .i64 ((1 : Int) * 2 ^ min (Int.toNat (n : Int)) 64) - 1))) : Nat) : Int) = (lowN n v : Int) := by
  have hp := pow_le32 hn
  have hpos : 0 < 2 ^ n := Nat.pow_pos (by decide)
  have hw : IntKind.wrap .i64 (((2 ^ n : Nat) : Int) - 1) = ((2 ^ n : Nat) : Int) - 1 := by
    generalize 2 ^ n = k at *
    exact wrap_i64 (by omega) (by omega)
  rw [mask_eq hn, hw]
  have e : BitVec.ofInt 64 (((2 ^ n : Nat) : Int) - 1) = BitVec.ofNat 64 (2 ^ n - 1) := by
    rw [show ((2 ^ n : Nat) : Int) - 1 = ((2 ^ n - 1 : Nat) : Int) by generalize 2 ^ n = k at *; omega]
    exact BitVec.ofInt_natCast ..
  have e2 : (BitVec.ofInt 64 v &&& BitVec.ofNat 64 (2 ^ n - 1)).toNat = lowN n v := by
    rw [BitVec.toNat_and, BitVec.toNat_ofNat, Nat.mod_eq_of_lt (by omega), Nat.and_two_pow_sub_one_eq_mod]
    rfl
  rw [e, e2]
  have := lowN_lt n v
  exact wrap_i64 (by omega) (by omega)

theorem F63_low (N : Nat) {n : Nat} (hn : n ≤ 32) (v : Int) : F63 N ((n : Int), v) = some (lowN n v : Int) := by
  show (if decide ((n : Int) < 0) = true then none else some _) = _
  rw [if_neg (by simp)]
  exact congrArg some (low_eq hn v)

def revN (n : Nat) (L : Nat) : Nat := (rev64 (BitVec.ofNat 64 L)).toNat >>> (64 - n)

theorem revN_lt {n : Nat} (hn : n ≤ 32) (L : Nat) : revN n L < 2 ^ n := by
  unfold revN
  rw [Nat.shiftRight_eq_div_pow]
  apply Nat.div_lt_of_lt_mul
  rw [← Nat.pow_add, show 64 - n + n = 64 by omega]
  exact (rev64 _).isLt

theorem revN_bit {n : Nat} (hn : n ≤ 32) {L : Nat} (i : Nat) : (revN n L).testBit i = (decide (i < n) && L.testBit (n - 1 - i)) := by
  unfold revN
  rw [Nat.testBit_shiftRight]
  by_cases h : i < n
  · have := rev64_bit (BitVec.ofNat 64 L) (i := 64 - n + i) (by omega)
    rw [BitVec.getLsbD, BitVec.getLsbD] at this
    rw [this, BitVec.toNat_ofNat, Nat.testBit_mod_two_pow]
    have e : 63 - (64 - n + i) = n - 1 - i := by omega
    rw [e]
    simp [h]; omega
  · have : (rev64 (BitVec.ofNat 64 L)).getLsbD (64 - n + i) = false := BitVec.getLsbD_of_ge _ _ (by omega)
    rw [BitVec.getLsbD] at this
    rw [this]
    simp [h]

theorem F47_rev (N : Nat) (a b : Int) : F47 N (a, b) = some (revN (clampN b) (lowN (clampN b) a) : Int) := by
  have hc := clampN_le b
  have hp := pow_le32 hc
  have hl := lowN_lt (clampN b) a
  simp only [F47, iteP_eq]
  rw [F60_clamp, Option.bind_some, F63_low N hc, Option.bind_some]
  have e1 : IntKind.wrap .u64 ((lowN (clampN b) a : Nat) : Int) = U (BitVec.ofNat 64 (lowN (clampN b) a)) := by
    rw [wrap_u64]; unfold U
    rw [BitVec.toNat_ofNat]
    omega
  rw [e1, F64_rev, Option.bind_some]
  have e2 : IntKind.wrap .i64 ((64 : Int) - (clampN b : Int)) = ((64 - clampN b : Nat) : Int) := by
    rw [wrap_i64 (by omega) (by omega)]; omega
  rw [e2, if_neg (by simp)]
  have e3 : min (Int.toNat ((64 - clampN b : Nat) : Int)) 64 = 64 - clampN b := by
    simp
  rw [e3, shrU]
  congr 1
  have hr := revN_lt hc (lowN (clampN b) a)
  have e4 : U (rev64 (BitVec.ofNat 64 (lowN (clampN b) a)) >>> (64 - clampN b)) = (revN (clampN b) (lowN (clampN b) a) : Int) := by
    unfold U revN
    rw [BitVec.toNat_ushiftRight]
  rw [e4]
  exact wrap_i64 (by omega) (by omega)


theorem bit1 (z : Int) : IntKind.wrap .i64 ((BitVec.toNat (BitVec.ofInt 64 z &&& BitVec.ofInt 64 1) : Nat) : Int) = z % 2 := by
  have e : (BitVec.ofInt 64 z &&& BitVec.ofInt 64 1).toNat = (z % 2).toNat := by
    rw [BitVec.toNat_and, show (BitVec.ofInt 64 1).toNat = 2 ^ 1 - 1 from rfl, Nat.and_two_pow_sub_one_eq_mod, BitVec.toNat_ofInt]
    omega
  rw [e]
  rw [wrap_i64 (by omega) (by omega)]
  omega

theorem bit_low {n k : Nat} (hn : n ≤ 32) (hk : k < n) (a : Int) : (Int.fdiv a (2 ^ k)) % 2 = ((lowN n a / 2 ^ k % 2 : Nat) : Int) := by
  have hpos : (0 : Int) < 2 ^ k := Int.pow_pos (by decide)
  rw [Int.fdiv_eq_ediv_of_nonneg _ (Int.le_of_lt hpos)]
  have hL : (lowN n a : Int) = a % (2 ^ n : Int) := by
    unfold lowN
    rw [BitVec.toNat_ofInt]
    have h64 : (2 ^ n : Int) ∣ (2 ^ 64 : Int) := by
      refine ⟨2 ^ (64 - n), ?_⟩
      rw [← Int.pow_add, show n + (64 - n) = 64 by omega]
    have hm : a % (2 ^ 64 : Int) % (2 ^ n : Int) = a % (2 ^ n : Int) := Int.emod_emod_of_dvd a h64
    rw [← hm]
    have hnn : 0 ≤ a % (2 ^ 64 : Int) := Int.emod_nonneg _ (by decide)
    rw [Int.natCast_emod, Int.toNat_of_nonneg (by simpa using hnn)]
    simp
  obtain ⟨m, hm⟩ : ∃ m : Int, a = (lowN n a : Int) + 2 ^ k * (2 * m) := by
    refine ⟨2 ^ (n - k - 1) * (a / 2 ^ n), ?_⟩
    have e : (2 : Int) ^ k * (2 * (2 ^ (n - k - 1) * (a / 2 ^ n))) = 2 ^ n * (a / 2 ^ n) := by
      rw [← Int.mul_assoc, ← Int.mul_assoc, ← Int.pow_succ, ← Int.pow_add, show k + 1 + (n - k - 1) = n by omega]
    rw [e, hL]
    have := Int.emod_add_mul_ediv a (2 ^ n)
    omega
  have e2 : a / 2 ^ k = (lowN n a : Int) / 2 ^ k + 2 * m := by
    rw [hm, Int.add_mul_ediv_left _ _ (by omega)]
    rw [← hm]
  rw [e2]
  have e3 : ((lowN n a / 2 ^ k % 2 : Nat) : Int) = (lowN n a : Int) / 2 ^ k % 2 := by simp
  rw [e3]
  omega

theorem rev_rev {n : Nat} (hn : n ≤ 32) (a : Int) : revN n (lowN n ((revN n (lowN n a) : Nat) : Int)) = lowN n a := by
  have hr := revN_lt hn (lowN n a)
  have hp := pow_le32 hn
  have e : lowN n ((revN n (lowN n a) : Nat) : Int) = revN n (lowN n a) := by
    show (BitVec.ofInt 64 ((revN n (lowN n a) : Nat) : Int)).toNat % 2 ^ n = revN n (lowN n a)
    rw [BitVec.ofInt_natCast, BitVec.toNat_ofNat]
    generalize 2 ^ n = q at *
    rw [Nat.mod_eq_of_lt (show revN n (lowN n a) < 2 ^ 64 by omega), Nat.mod_eq_of_lt hr]
  rw [e]
  apply Nat.eq_of_testBit_eq
  intro i
  rw [revN_bit hn, revN_bit hn]
  by_cases h : i < n
  · have h2 : n - 1 - i < n := by omega
    rw [show n - 1 - (n - 1 - i) = i by omega]
    simp [h, h2]
  · have : (lowN n a).testBit i = false := Nat.testBit_lt_two_pow (Nat.lt_of_lt_of_le (lowN_lt n a) (Nat.pow_le_pow_right (by decide) (by omega)))
    simp [h, this]


theorem F46_loop (N : Nat) : ∀ (k : Nat) (r : List Bool) (b : List Int), r.length / 8 < k → b.length + r.length ≤ 140737488355328 →
    F46_30 N k ((val r : Int), (r.length : Int), b) = some (lastF r, nF r, b ++ bF r) := by
  intro k
  induction k with
  | zero => intro r b h; omega
  | succ k ih =>
    intro r b h hb
    simp only [F46_30, B46_30, iteP_eq]
    by_cases h8 : 8 ≤ r.length
    · rw [if_pos (by simp; omega), if_pos (by simp; omega)]
      have e1 : Int.fdiv (val r : Int) 256 = (val (r.drop 8) : Int) := by
        rw [Int.fdiv_eq_ediv_of_nonneg _ (by decide), ← val_div r 8 h8]; simp
      have e2 : IntKind.wrap .i64 ((r.length : Int) - 8) = ((r.drop 8).length : Int) := by
        rw [wrap_i64 (by omega) (by omega), List.length_drop]; omega
      have e3 : IntKind.wrap .u8 (val r : Int) = (val (r.take 8) : Int) := by
        rw [wrap_u8, ← val_mod r 8 h8]; simp
      rw [e1, e2, e3, ih (r.drop 8) _ (by rw [List.length_drop]; omega) (by simp; omega)]
      have hk : r.length / 8 = (r.drop 8).length / 8 + 1 := by rw [List.length_drop]; omega
      have f1 : bF r = (val (r.take 8) : Int) :: bF (r.drop 8) := by
        unfold bF; rw [hk, bytesF]
      have f2 : restF r = restF (r.drop 8) := by
        unfold restF; rw [List.drop_drop, hk]; congr 1; omega
      have f3 : nF r = nF (r.drop 8) := by
        unfold nF; rw [List.length_drop]; congr 1; omega
      simp only [Option.bind_some, lastF, f1, f2, f3, List.append_assoc, List.singleton_append]
    · rw [if_neg (by simp; omega)]
      have hk : r.length / 8 = 0 := by omega
      have f1 : bF r = [] := by unfold bF; rw [hk]; rfl
      have f2 : restF r = r := by unfold restF; rw [hk]; rfl
      have f3 : nF r = (r.length : Int) := by unfold nF; congr 1; omega
      simp only [lastF, f1, f2, f3, List.append_nil]

/-- What 'Bits' puts in. -/
def putB (n v : Int) : List Bool := bitsN (clampN n) (lowN (clampN n) v)

theorem F46_bits {N : Nat} (hN : 6 ≤ N) (m : List Bool) (hm : m.length ≤ 1000000000) (n v : Int) :
    F46 N (n, v, lastF m, nF m, bF m) = some (lastF (m ++ putB n v), nF (m ++ putB n v), bF (m ++ putB n v)) := by
  have hc := clampN_le n
  have hl := lowN_lt (clampN n) v
  have hr := val_lt (restF m)
  have hrl := restF_length m
  have h8 : (restF m).length < 8 := by omega
  simp only [F46, iteP_eq]
  rw [F60_clamp, Option.bind_some, F63_low N hc, Option.bind_some, if_neg (by unfold nF; simp only [decide_eq_true_eq]; omega)]
  have e1 : IntKind.wrap .i64 ((BitVec.toNat (BitVec.ofInt 64 (lastF m) ||| BitVec.ofInt 64 (IntKind.wrap .i64 (((lowN (clampN n) v : Nat) : Int) * 2 ^ min (Int.toNat (nF m)) 64))) : Nat) : Int) = (val (restF m ++ putB n v) : Int) := by
    unfold lastF nF
    rw [← hrl, or_eq hr hl (by omega), val_append]
    unfold putB
    rw [val_bitsN, Nat.mod_eq_of_lt hl]
  have e2 : IntKind.wrap .i64 (nF m + (clampN n : Int)) = ((restF m ++ putB n v).length : Int) := by
    unfold nF putB
    rw [wrap_i64 (by omega) (by omega), List.length_append, bitsN_length, hrl]; omega
  have hlen : (restF m ++ putB n v).length < 40 := by
    unfold putB; rw [List.length_append, bitsN_length]; omega
  have hb := bF_len m
  rw [e1, e2, F46_loop N N _ _ (by omega) (by omega), Option.bind_some]
  obtain ⟨p1, p2, p3⟩ := parts m (putB n v)
  simp only [lastF, p1, p2, p3]

def sbit (s : ByteArray) (j : Nat) : Bool := (s.data.toList.getD (j / 8) 0).toNat.testBit (j % 8)
def sbits (s : ByteArray) (at_ k : Nat) : List Bool := (List.range k).map fun i => sbit s (at_ + i)
theorem sbits_length (s : ByteArray) (p k : Nat) : (sbits s p k).length = k := by simp [sbits]
theorem sbits_succ (s : ByteArray) (p k : Nat) : sbits s p (k + 1) = sbits s p k ++ [sbit s (p + k)] := by
  unfold sbits; rw [List.range_succ, List.map_append]; rfl

theorem byte_at (s : ByteArray) (i : Nat) (h : i < s.size) : s[i]? = some (s.data.toList.getD i 0) := by
  have h' : i < s.data.toList.length := by simpa using h
  rw [getElem?_pos s i h]
  congr 1
  have h2 : i < s.data.size := h
  simp only [List.getD, ByteArray.getElem_eq_getElem_data, Array.getElem?_toList]
  rw [Array.getElem?_eq_getElem h2]; rfl

theorem F42_loop (N : Nat) (s : ByteArray) (p : Nat) (n3 err : Int) (hs : s.size ≤ 1000000000) {k : Nat} (hk : k ≤ 32) (hp : p + k ≤ 8 * s.size) : ∀ (d i f : Nat), i + d = k → d < f →
    F42_250 N f ((val (sbits s p i) : Int), (i : Int), (k : Int), n3, s, (p : Int), err) = some (n3, (val (sbits s p k) : Int), s, (p : Int), err) := by
  intro d
  induction d with
  | zero =>
    intro i f hi hf
    cases f with
    | zero => omega
    | succ f =>
      simp only [F42_250, B42_250, iteP_eq]
      rw [if_neg (by simp; omega), show i = k by omega]
  | succ d ih =>
    intro i f hi hf
    cases f with
    | zero => omega
    | succ f =>
      simp only [F42_250, B42_250, iteP_eq]
      have e0 : IntKind.wrap .i64 ((p : Int) + (i : Int)) = ((p + i : Nat) : Int) := by
        rw [wrap_i64 (by omega) (by omega)]; omega
      have e1 : Int.tdiv ((p + i : Nat) : Int) 8 = (((p + i) / 8 : Nat) : Int) := by
        rw [Int.tdiv_eq_ediv_of_nonneg (by omega)]; omega
      have e2 : IntKind.wrap .i64 ((((p + i) / 8 : Nat)) : Int) = (((p + i) / 8 : Nat) : Int) := wrap_i64 (by omega) (by omega)
      have e3 : Int.tmod ((p + i : Nat) : Int) 8 = (((p + i) % 8 : Nat) : Int) := by
        rw [Int.tmod_eq_emod_of_nonneg (by omega)]; omega
      rw [if_pos (by simp; omega)]
      simp only [e0, e1, e2, e3, Int.toNat_natCast]
      rw [if_pos (by simp only [decide_eq_true_eq]; omega), byte_at s _ (by omega), Option.bind_some, if_neg (by simp; omega), if_neg (by simp)]
      have hy := (s.data.toList.getD ((p + i) / 8) 0).toNat_lt
      have e4 : IntKind.wrap .i64 (((s.data.toList.getD ((p + i) / 8) 0).toNat : Nat) : Int) = (((s.data.toList.getD ((p + i) / 8) 0).toNat : Nat) : Int) := wrap_i64 (by omega) (by omega)
      have e5 : min ((p + i) % 8) 64 = (p + i) % 8 := by omega
      have e6 : (Int.fdiv (((s.data.toList.getD ((p + i) / 8) 0).toNat : Nat) : Int) (2 ^ ((p + i) % 8))) % 2 = (((sbit s (p + i)).toNat : Nat) : Int) := by
        rw [Int.fdiv_eq_ediv_of_nonneg _ (Int.pow_nonneg (by decide))]
        unfold sbit
        rw [Nat.toNat_testBit]
        simp
      rw [e4, e5, bit1, e6]
      have hA := val_lt (sbits s p i)
      rw [sbits_length] at hA
      have hB : (sbit s (p + i)).toNat < 2 ^ 1 := by cases sbit s (p + i) <;> decide
      have e7 := or_eq hA hB (by omega)
      rw [Int.toNat_natCast] at e7
      rw [e7]
      have e8 : val (sbits s p i) + 2 ^ i * (sbit s (p + i)).toNat = val (sbits s p (i + 1)) := by
        rw [sbits_succ, val_append, sbits_length]
        simp [val]
      have e9 : IntKind.wrap .i64 ((i : Int) + 1) = ((i + 1 : Nat) : Int) := by
        rw [wrap_i64 (by omega) (by omega)]; omega
      rw [e8, e9, ih (i + 1) f (by omega) (by omega), Option.bind_some]

/-- So many bits are left: they are read. -/
theorem F42_read {N : Nat} (hN : 33 ≤ N) (s : ByteArray) (p : Nat) (n : Int) (hs : s.size ≤ 1000000000) (hp : p + clampN n ≤ 8 * s.size) :
    F42 N (n, s, (p : Int), 0) = some ((val (sbits s p (clampN n)) : Int), s, ((p + clampN n : Nat) : Int), 0) := by
  have hc := clampN_le n
  simp only [F42, F61, F73, iteP_eq]
  rw [F60_clamp, Option.bind_some, if_pos (by simp), Option.bind_some]
  have e1 : IntKind.wrap .i64 (IntKind.wrap .i64 ((8 : Int) * (s.size : Int)) - (p : Int)) = ((8 * s.size - p : Nat) : Int) := by
    rw [wrap_i64 (z := (8 : Int) * (s.size : Int)) (by omega) (by omega), wrap_i64 (by omega) (by omega)]; omega
  simp only [e1]
  rw [if_neg (by simp; omega)]
  simp only [Option.bind_some]
  rw [if_neg (by simp)]
  have h0 : (0 : Int) = (val (sbits s p 0) : Int) := by simp [sbits, val]
  have hl := F42_loop N s p ((clampN n : Nat) : Int) 0 hs hc hp (clampN n) 0 N (by omega) (by omega)
  rw [show ((0 : Nat) : Int) = 0 from rfl, ← h0] at hl
  rw [hl, Option.bind_some]
  simp only
  rw [wrap_i64 (by omega) (by omega)]
  simp

theorem stringOf_append (xs ys : List Int) : stringOf xs ++ stringOf ys = stringOf (xs ++ ys) := by
  unfold stringOf
  apply ByteArray.ext
  simp

theorem stringOf_size (xs : List Int) : (stringOf xs).size = xs.length := by
  unfold stringOf
  show (List.toArray _).size = _
  simp

/-- All the bytes, the last one filled up. -/
def allF (m : List Bool) : List Int := bytesF ((m.length + 7) / 8) m
def strF (m : List Bool) : ByteArray := stringOf (allF m)

theorem strF_size (m : List Bool) : (strF m).size = (m.length + 7) / 8 := by
  unfold strF allF; rw [stringOf_size, bytesF_len]

theorem F27_string (N : Nat) (m : List Bool) (hm : m.length ≤ 1000000000) : F27 N (bF m, lastF m, nF m, ()) = some (strF m) := by
  simp only [F27, iteP_eq]
  have hb := bF_len m
  have hr := val_lt (restF m)
  rw [restF_length] at hr
  by_cases h : m.length % 8 = 0
  · rw [if_neg (by unfold nF; simp only [decide_eq_true_eq]; omega)]
    have : allF m = bF m := by unfold allF bF; congr 1; omega
    unfold strF; rw [this]
  · rw [if_pos (by unfold nF; simp only [decide_eq_true_eq]; omega)]
    have hp : 2 ^ (m.length % 8) ≤ 256 := Nat.pow_le_pow_right (n := 2) (by decide) (show m.length % 8 ≤ 8 by omega)
    have e : IntKind.wrap .u8 (lastF m) = lastF m := by
      rw [wrap_u8]; unfold lastF; omega
    rw [if_neg (by rw [stringOf_size, stringOf_size]; simp only [decide_eq_true_eq, List.length_singleton]; omega), e, stringOf_append]
    have : allF m = bF m ++ [lastF m] := by
      unfold allF bF lastF restF
      rw [show (m.length + 7) / 8 = m.length / 8 + 1 by omega, bytesF_snoc, List.take_of_length_le (by rw [List.length_drop]; omega)]
    unfold strF; rw [this]

theorem F28_len (N : Nat) (m : List Bool) (hm : m.length ≤ 1000000000) : F28 N (bF m, lastF m, nF m, ()) = some (m.length : Int) := by
  simp only [F28, iteP_eq]
  have hb := bF_len m
  have e : IntKind.wrap .i64 (IntKind.wrap .i64 ((8 : Int) * ((bF m).length : Int)) + nF m) = (m.length : Int) := by
    unfold nF
    rw [wrap_i64 (z := (8 : Int) * ((bF m).length : Int)) (by omega) (by omega), wrap_i64 (by omega) (by omega)]; omega
  rw [e]

theorem bytesF_get : ∀ (k : Nat) (m : List Bool) (i : Nat), i < k → (bytesF k m)[i]? = some ((val ((m.drop (8 * i)).take 8) : Nat) : Int)
  | 0, m, i, h => by omega
  | k + 1, m, 0, h => by simp [bytesF]
  | k + 1, m, i + 1, h => by
    rw [bytesF, List.getElem?_cons_succ, bytesF_get k _ i (by omega), List.drop_drop, show 8 + 8 * i = 8 * (i + 1) by omega]

/-- The bits of the bytes are the bits. -/
theorem sbit_strF (m : List Bool) (j : Nat) : sbit (strF m) j = m.getD j false := by
  unfold sbit
  have hd : (strF m).data.toList = (allF m).map fun n => UInt8.ofNat n.toNat := by unfold strF stringOf; simp
  rw [hd]
  by_cases h : j / 8 < (m.length + 7) / 8
  · have e : ((allF m).map fun n => UInt8.ofNat n.toNat).getD (j / 8) 0 = UInt8.ofNat (val ((m.drop (8 * (j / 8))).take 8)) := by
      unfold allF
      rw [List.getD, List.getElem?_map, bytesF_get _ _ _ h]
      simp
    have hv := val_lt ((m.drop (8 * (j / 8))).take 8)
    have hp : 2 ^ ((m.drop (8 * (j / 8))).take 8).length ≤ 256 := Nat.pow_le_pow_right (n := 2) (by decide) (show _ ≤ 8 by rw [List.length_take]; omega)
    rw [e, UInt8.toNat_ofNat', Nat.mod_eq_of_lt (by show _ < 256; omega), val_bit, List.getD, List.getElem?_take_of_lt (by omega), List.getElem?_drop, show 8 * (j / 8) + j % 8 = j by omega]
    rfl
  · have e : ((allF m).map fun n => UInt8.ofNat n.toNat).getD (j / 8) 0 = 0 := by
      unfold allF
      rw [List.getD, List.getElem?_eq_none (by rw [List.length_map, bytesF_len]; omega)]; rfl
    rw [e, List.getD, List.getElem?_eq_none (by omega)]
    simp

theorem sbits_strF (a s r : List Bool) : sbits (strF (a ++ s ++ r)) a.length s.length = s := by
  apply List.ext_getElem?
  intro i
  unfold sbits
  by_cases h : i < s.length
  · rw [List.getElem?_map, List.getElem?_range h]
    simp only [Option.map_some, sbit_strF, List.getD]
    rw [List.append_assoc, List.getElem?_append_right (by omega), show a.length + i - a.length = i by omega, List.getElem?_append_left h, List.getElem?_eq_getElem h]
    rfl
  · rw [List.getElem?_eq_none (by simp; omega), List.getElem?_eq_none (by omega)]

theorem putB_length (n v : Int) : (putB n v).length = clampN n := by simp [putB]
theorem val_putB (n v : Int) : val (putB n v) = lowN (clampN n) v := by
  unfold putB
  rw [val_bitsN, Nat.mod_eq_of_lt (lowN_lt _ _)]

theorem getD_bitsN (n L i : Nat) : (bitsN n L)[i]? = if i < n then some (L.testBit i) else none := by
  unfold bitsN
  by_cases h : i < n
  · simp [h]
  · simp [h]

theorem low_testBit (n : Nat) (v : Int) (i : Nat) : (lowN n v).testBit i = (decide (i < n) && (BitVec.ofInt 64 v).toNat.testBit i) := Nat.testBit_mod_two_pow ..

/-- A number's bits in two pieces. -/
theorem put_split {a b : Nat} (h : a + b ≤ 32) (v : Int) (hv1 : -9223372036854775808 ≤ v) (hv2 : v ≤ 9223372036854775807) :
    putB (a : Int) v ++ putB (b : Int) (Int.fdiv v (2 ^ a)) = putB ((a + b : Nat) : Int) v := by
  have c1 : clampN (a : Int) = a := by unfold clampN; omega
  have c2 : clampN (b : Int) = b := by unfold clampN; omega
  have c3 : clampN ((a + b : Nat) : Int) = a + b := by unfold clampN; omega
  unfold putB
  rw [c1, c2, c3]
  apply List.ext_getElem?
  intro i
  by_cases hi : i < a
  · rw [List.getElem?_append_left (by simpa using hi), getD_bitsN, getD_bitsN, if_pos hi, if_pos (by omega), low_testBit, low_testBit]
    simp [hi]; omega
  · rw [List.getElem?_append_right (by simp; omega), bitsN_length, getD_bitsN, getD_bitsN]
    by_cases hj : i < a + b
    · rw [if_pos (by omega), if_pos hj, low_testBit, low_testBit]
      have hs : Int.fdiv v (2 ^ a) = ((BitVec.ofInt 64 v).sshiftRight a).toInt := by
        rw [BitVec.toInt_sshiftRight, BitVec.toInt_ofInt, Int.shiftRight_eq_div_pow, Int.fdiv_eq_ediv_of_nonneg _ (Int.pow_nonneg (by decide))]
        rw [Int.bmod_eq_of_le (by omega) (by omega)]
        simp
      have hb : ((BitVec.ofInt 64 v).sshiftRight a).getLsbD (i - a) = (BitVec.ofInt 64 v).getLsbD i := by
        rw [BitVec.getLsbD_sshiftRight, if_pos (by omega), show a + (i - a) = i by omega]
        simp; omega
      rw [hs, BitVec.ofInt_toInt]
      unfold BitVec.getLsbD at hb
      rw [hb]
      simp [hj]; omega
    · rw [if_neg (by omega), if_neg hj]

end Go.Proofs.Ytpjkklailofkjaa.Am

namespace Go.Proofs.Ytpjkklailofkjaa.Am
open Go.Am
set_option linter.unusedSimpArgs false
set_option linter.unusedVariables false

/-! ### The document's functions, by lists of bits -/
theorem F59_clamp (N : Nat) (b : Int) : F59 N b = some (clampN b : Int) := by
  show some _ = _
  rw [← clamp_eq]

theorem fdiv_two (v : Int) (i : Nat) : Int.fdiv (Int.fdiv v (2 ^ i)) 2 = Int.fdiv v (2 ^ (i + 1)) := by
  have h : (0 : Int) ≤ 2 ^ i := Int.pow_nonneg (by decide)
  rw [Int.fdiv_eq_ediv_of_nonneg _ (by decide), Int.fdiv_eq_ediv_of_nonneg _ h, Int.fdiv_eq_ediv_of_nonneg _ (Int.pow_nonneg (by decide)), Int.ediv_ediv_of_nonneg h, Int.pow_succ]

theorem bit_at {n i : Nat} (hn : n ≤ 32) (hi : i < n) (v : Int) :
    (IntKind.wrap .i64 ((BitVec.toNat (BitVec.ofInt 64 (Int.fdiv v (2 ^ i)) &&& BitVec.ofInt 64 1) : Nat) : Int) == 1) = (lowN n v).testBit i := by
  rw [bit1, bit_low hn hi, Nat.testBit_eq_decide_div_mod_eq]
  have := Nat.mod_two_eq_zero_or_one (lowN n v / 2 ^ i)
  generalize lowN n v / 2 ^ i % 2 = q at *
  rcases this with rfl | rfl <;> rfl

theorem F41_loop (N : Nat) (n v : Int) : ∀ (d i f : Nat), i + d = clampN n → d < f → F41_58 N f (Int.fdiv v (2 ^ i), (i : Int), n, (putB n v).take i) = some (putB n v) := by
  have hc := clampN_le n
  have hl := putB_length n v
  intro d
  induction d with
  | zero =>
    intro i f hi hf
    cases f with
    | zero => omega
    | succ f =>
      simp only [F41_58, B41_58, iteP_eq]
      rw [F59_clamp, Option.bind_some, if_neg (by simp; omega), List.take_of_length_le (by omega)]
  | succ d ih =>
    intro i f hi hf
    cases f with
    | zero => omega
    | succ f =>
      simp only [F41_58, B41_58, iteP_eq]
      rw [F59_clamp, Option.bind_some, if_pos (by simp; omega), if_pos (by simp; omega), fdiv_two, bit_at hc (by omega), wrap_i64 (by omega) (by omega)]
      have e : (putB n v).take i ++ [(lowN (clampN n) v).testBit i] = (putB n v).take (i + 1) := by
        rw [List.take_add_one]
        unfold putB
        rw [getD_bitsN, if_pos (by omega)]; rfl
      rw [e, show ((i : Int) + 1) = ((i + 1 : Nat) : Int) by omega, ih (i + 1) f (by omega) (by omega), Option.bind_some]

theorem F41_of {N : Nat} (hN : 33 ≤ N) (n v : Int) : F41 N (n, v) = some (putB n v) := by
  have hc := clampN_le n
  simp only [F41, iteP_eq]
  have h := F41_loop N n v (clampN n) 0 N (by omega) (by omega)
  simp only [Int.pow_zero, Int.fdiv_one, List.take_zero] at h
  rw [show ((0 : Nat) : Int) = 0 from rfl] at h
  rw [h, Option.bind_some]

/-- The code's and the document's number of a code the other way round. -/
theorem revN_val (n v : Int) : revN (clampN n) (lowN (clampN n) v) = val (putB n v).reverse := by
  have hc := clampN_le n
  apply Nat.eq_of_testBit_eq
  intro i
  rw [revN_bit hc, val_bit]
  have hl := putB_length n v
  by_cases h : i < clampN n
  · rw [List.getD, List.getElem?_reverse (by omega), hl]
    unfold putB
    rw [getD_bitsN, if_pos (by omega)]
    simp [h]
  · rw [List.getD, List.getElem?_eq_none (by rw [List.length_reverse]; omega)]
    simp [h]

/-! ### Whole bytes -/
def padN (m : List Bool) : Nat := (8 - m.length % 8) % 8
def alignL (m : List Bool) : List Bool := m ++ List.replicate (padN m) false

theorem alignL_length (m : List Bool) : (alignL m).length = 8 * ((m.length + 7) / 8) := by
  unfold alignL padN; rw [List.length_append, List.length_replicate]; omega

theorem putB_zero (k : Nat) (hk : k ≤ 32) : putB (k : Int) 0 = List.replicate k false := by
  have c : clampN (k : Int) = k := by unfold clampN; omega
  unfold putB lowN
  rw [c]
  apply List.ext_getElem?
  intro i
  rw [getD_bitsN, List.getElem?_replicate]
  simp

theorem val_pad : ∀ (l : List Bool) (k : Nat), val (l ++ List.replicate k false) = val l := by
  intro l k
  rw [val_append]
  have : val (List.replicate k false) = 0 := by
    induction k with
    | zero => rfl
    | succ k ih => rw [List.replicate_succ, val, ih]; rfl
  rw [this]; simp

theorem bytesF_pad : ∀ (k : Nat) (m : List Bool) (j : Nat), bytesF k (m ++ List.replicate j false) = bytesF k m
  | 0, _, _ => rfl
  | k + 1, m, j => by
    rw [bytesF, bytesF]
    have e1 : val ((m ++ List.replicate j false).take 8) = val (m.take 8) := by
      rw [List.take_append, List.take_replicate, val_pad]
    have e2 : (m ++ List.replicate j false).drop 8 = m.drop 8 ++ List.replicate (j - (8 - m.length)) false := by
      rw [List.drop_append, List.drop_replicate]
    rw [e1, e2, bytesF_pad k]

theorem allF_align (m : List Bool) : bytesF ((m.length + 7) / 8) (alignL m) = allF m := bytesF_pad _ _ _

theorem stringOf_nil : stringOf [] = ByteArray.mk #[] := rfl

/-! ### A text's bits -/
def bitsOf (l : List UInt8) : List Bool := l.flatMap fun x => bitsN 8 x.toNat
def allB (s : ByteArray) : List Bool := bitsOf s.data.toList

theorem bitsOf_length : ∀ l : List UInt8, (bitsOf l).length = 8 * l.length
  | [] => rfl
  | x :: l => by
    unfold bitsOf
    rw [List.flatMap_cons, List.length_append, bitsN_length]
    have := bitsOf_length l
    unfold bitsOf at this
    rw [this, List.length_cons]; omega
theorem allB_length (s : ByteArray) : (allB s).length = 8 * s.size := by
  unfold allB; rw [bitsOf_length]; simp

theorem bitsOf_append (a b : List UInt8) : bitsOf (a ++ b) = bitsOf a ++ bitsOf b := List.flatMap_append

theorem putB_byte (x : UInt8) : putB 8 (x.toNat : Int) = bitsN 8 x.toNat := by
  have c : clampN 8 = 8 := rfl
  have := x.toNat_lt
  unfold putB lowN
  rw [c, BitVec.ofInt_natCast, BitVec.toNat_ofNat, Nat.mod_eq_of_lt (show x.toNat < 2 ^ 64 by omega), Nat.mod_eq_of_lt (show x.toNat < 2 ^ 8 by omega)]

theorem F21_loop (N : Nat) (hN : 33 ≤ N) (s : ByteArray) (hs : s.size ≤ 1000000000) : ∀ (d i f : Nat), i + d = s.size → d < f → F21_58 N f ((i : Int), s, bitsOf (s.data.toList.take i)) = some (allB s) := by
  intro d
  have hsl : s.data.toList.length = s.size := by simp
  induction d with
  | zero =>
    intro i f hi hf
    cases f with
    | zero => omega
    | succ f =>
      simp only [F21_58, B21_58, iteP_eq]
      rw [if_neg (by simp; omega), List.take_of_length_le (by omega)]
      rfl
  | succ d ih =>
    intro i f hi hf
    cases f with
    | zero => omega
    | succ f =>
      simp only [F21_58, B21_58, iteP_eq]
      have hb := (s.data.toList.getD i 0).toNat_lt
      rw [if_pos (by simp; omega), if_pos (by simp), Int.toNat_natCast, byte_at s i (by omega), Option.bind_some, wrap_i64 (z := ((s.data.toList.getD i 0).toNat : Int)) (by omega) (by omega), F41_of hN, Option.bind_some, putB_byte]
      have hL := bitsOf_length (s.data.toList.take i)
      rw [List.length_take] at hL
      rw [if_pos (by rw [hL, bitsN_length]; simp; omega), wrap_i64 (by omega) (by omega)]
      have e : bitsOf (s.data.toList.take i) ++ bitsN 8 (s.data.toList.getD i 0).toNat = bitsOf (s.data.toList.take (i + 1)) := by
        rw [List.take_add_one, bitsOf_append, List.getElem?_eq_getElem (by omega), List.getD, List.getElem?_eq_getElem (by omega)]
        simp [bitsOf]
      rw [e, show ((i : Int) + 1) = ((i + 1 : Nat) : Int) by omega, ih (i + 1) f (by omega) (by omega), Option.bind_some]

theorem F21_all {N : Nat} (s : ByteArray) (hs : s.size ≤ 10000) (hN : 100000 ≤ N) : F21 N s = some (allB s) := by
  simp only [F21, iteP_eq]
  have h := F21_loop N (by omega) s (by omega) s.size 0 N (by omega) (by omega)
  rw [List.take_zero, show bitsOf [] = [] from rfl, show ((0 : Nat) : Int) = 0 from rfl] at h
  rw [h, Option.bind_some]

theorem val_bits8 (x : UInt8) : val (bitsN 8 x.toNat) = x.toNat := by
  have := x.toNat_lt
  rw [val_bitsN, Nat.mod_eq_of_lt (by omega)]

theorem bytesF_bitsOf : ∀ l : List UInt8, bytesF l.length (bitsOf l) = l.map fun x => (x.toNat : Int)
  | [] => rfl
  | x :: l => by
    have e : bitsOf (x :: l) = bitsN 8 x.toNat ++ bitsOf l := by unfold bitsOf; rw [List.flatMap_cons]
    rw [List.length_cons, bytesF, e, List.take_left' (bitsN_length ..), List.drop_left' (bitsN_length ..), val_bits8, bytesF_bitsOf l]
    rfl

theorem toList_data (s : ByteArray) : s.toList = s.data.toList := by
  exact ByteArray.toList_eq s

theorem bytesOf_eq (s : ByteArray) : bytesOf s = s.data.toList.map fun x => (x.toNat : Int) := by
  unfold bytesOf; rw [toList_data]
end Go.Proofs.Ytpjkklailofkjaa.Am

namespace Go.Proofs.Ytpjkklailofkjaa.Am
open Go.Am
set_option linter.unusedSimpArgs false
set_option linter.unusedVariables false

/-! ### Reading -/
theorem bitsOf_get : ∀ (l : List UInt8) (j : Nat), j < 8 * l.length → (bitsOf l)[j]? = some ((l.getD (j / 8) 0).toNat.testBit (j % 8))
  | [], j, h => by simp at h
  | x :: l, j, h => by
    have e : bitsOf (x :: l) = bitsN 8 x.toNat ++ bitsOf l := by unfold bitsOf; rw [List.flatMap_cons]
    rw [e]
    by_cases h8 : j < 8
    · rw [List.getElem?_append_left (by rw [bitsN_length]; exact h8), getD_bitsN, if_pos h8, show j / 8 = 0 by omega, show j % 8 = j by omega]
      rfl
    · rw [List.getElem?_append_right (by rw [bitsN_length]; omega), bitsN_length, bitsOf_get l (j - 8) (by rw [List.length_cons] at h; omega), show j / 8 = (j - 8) / 8 + 1 by omega, show (j - 8) % 8 = j % 8 by omega]
      simp

theorem sbits_eq (s : ByteArray) (p k : Nat) (h : p + k ≤ 8 * s.size) : sbits s p k = ((allB s).drop p).take k := by
  have hal := allB_length s
  have hsl : s.data.toList.length = s.size := by simp
  apply List.ext_getElem?
  intro i
  unfold sbits
  by_cases hi : i < k
  · rw [List.getElem?_map, List.getElem?_range hi, List.getElem?_take_of_lt hi, List.getElem?_drop]
    unfold allB
    rw [bitsOf_get _ _ (by omega)]
    rfl
  · rw [List.getElem?_eq_none (by simp; omega), List.getElem?_eq_none (by simp; omega)]

/-- What the next bits are, and what is left. -/
def rd (L : List Bool) (p : Nat) (e n : Int) : Nat × Nat × Int :=
  if e = 0 then (if p + clampN n ≤ L.length then (val ((L.drop p).take (clampN n)), p + clampN n, 0) else (0, p, 2)) else (0, p, e)

theorem F73_left (N : Nat) (s : ByteArray) (p : Nat) (e : Int) (hs : s.size ≤ 1000000000) (hp : p ≤ 8 * s.size) : F73 N (s, (p : Int), e, ()) = some (((8 * s.size - p : Nat) : Int)) := by
  simp only [F73, iteP_eq]
  rw [wrap_i64 (z := (8 : Int) * (s.size : Int)) (by omega) (by omega), wrap_i64 (by omega) (by omega)]
  congr 1
  omega

theorem F42_rd {N : Nat} (hN : 33 ≤ N) (s : ByteArray) (p : Nat) (e n : Int) (hs : s.size ≤ 1000000000) (hp : p ≤ 8 * s.size) :
    F42 N (n, s, (p : Int), e) = some (((rd (allB s) p e n).1 : Int), s, ((rd (allB s) p e n).2.1 : Int), (rd (allB s) p e n).2.2) := by
  have hal := allB_length s
  have hc := clampN_le n
  unfold rd
  by_cases he : e = 0
  · subst he
    rw [if_pos rfl]
    by_cases h : p + clampN n ≤ 8 * s.size
    · rw [if_pos (by omega), F42_read hN s p n hs h, sbits_eq s p _ h]
    · rw [if_neg (by omega)]
      simp only [F42, F61, iteP_eq]
      rw [F60_clamp, Option.bind_some, if_pos (by simp), F73_left N s p 0 hs hp, Option.bind_some, if_pos (by simp; omega), Option.bind_some, if_pos (by simp)]
      rfl
  · rw [if_neg he]
    simp only [F42, F61, iteP_eq]
    rw [F60_clamp, Option.bind_some, if_neg (by simpa using he), Option.bind_some, if_pos (by simpa using he)]
    rfl

theorem rd_le {L : List Bool} {p : Nat} {e n : Int} (hp : p ≤ L.length) : (rd L p e n).2.1 ≤ L.length := by
  unfold rd
  split
  · split <;> simp only <;> omega
  · exact hp

end Go.Proofs.Ytpjkklailofkjaa.Am

namespace Go.Proofs.Ytpjkklailofkjaa.Am
open Go.Am
set_option linter.unusedSimpArgs false
set_option linter.unusedVariables false

theorem or_bit (v b : Nat) (hv : v < 1000000000) (hb : b < 2) : IntKind.wrap .i64 ((BitVec.toNat (BitVec.ofInt 64 ((2 * v : Nat) : Int) ||| BitVec.ofInt 64 (b : Int)) : Nat) : Int) = ((2 * v + b : Nat) : Int) := by
  have e : (BitVec.ofInt 64 ((2 * v : Nat) : Int) ||| BitVec.ofInt 64 (b : Int)).toNat = 2 * v + b := by
    have h := Nat.two_pow_add_eq_or_of_lt (i := 1) (b := b) (by simpa using hb) v
    rw [BitVec.toNat_or, BitVec.ofInt_natCast, BitVec.ofInt_natCast, BitVec.toNat_ofNat, BitVec.toNat_ofNat, Nat.mod_eq_of_lt (by omega), Nat.mod_eq_of_lt (by omega)]
    simpa using h.symm
  rw [e]
  exact wrap_i64 (by omega) (by omega)

/-- What the next symbol is, or why there is none, and how far it was read: d lengths are left; v: the value of the bits so far. -/
def decN (lens : List Int) (lg : Nat) (L : List Bool) : Nat → Nat → Nat → Option (Int × Int × Nat)
  | 0, _, p => some (0, 3, p)
  | d + 1, v, p =>
    let l := lg - d
    if p < L.length then
      let w := 2 * v + (L.getD p false).toNat
      if w < first lens l + lens.count (l : Int) then
        if first lens l ≤ w then some ((symsUp lens 15).getD ((symsUp lens (l - 1)).length + (w - first lens l)) 0, 0, p + 1) else none
      else if restR lens lg d ≤ w - (first lens l + lens.count (l : Int)) then some (0, 3, p + 1)
      else decN lens lg L d w (p + 1)
    else some (0, 2, p)

theorem first_next (lens : List Int) {l : Nat} (h : 0 < l) : first lens (l + 1) = 2 * (first lens l + lens.count (l : Int)) := by
  match l, h with
  | k + 1, _ => rfl

theorem symsUp_step (lens : List Int) {l : Nat} (h : 0 < l) : (symsUp lens l).length = (symsUp lens (l - 1)).length + lens.count (l : Int) := by
  match l, h with
  | k + 1, _ =>
    rw [symsUp, List.length_append, symsTo_len lens (k + 1) lens.length (Nat.le_refl _), List.take_length]
    rfl

end Go.Proofs.Ytpjkklailofkjaa.Am

namespace Go.Proofs.Ytpjkklailofkjaa.Am
open Go.Am
set_option linter.unusedSimpArgs false
set_option linter.unusedVariables false

abbrev DR := Int × Int × (List Int) × Int × ByteArray × Int × Int × (List Int)
def resOf : (DR ⊕ ((List Int) × Int × ByteArray × Int × Int × (List Int))) → DR
  | .inl y => y
  | .inr z => (0, 3, z)

theorem rd_one {L : List Bool} {p : Nat} : rd L p 0 1 = if p + 1 ≤ L.length then ((L.getD p false).toNat, p + 1, 0) else (0, p, 2) := by
  have c : clampN 1 = 1 := rfl
  unfold rd
  rw [if_pos rfl, c]
  by_cases h : p + 1 ≤ L.length
  · rw [if_pos h, if_pos h]
    have e : (L.drop p).take 1 = [L.getD p false] := by
      rw [List.drop_eq_getElem_cons (by omega), List.take_succ_cons, List.take_zero, List.getD, List.getElem?_eq_getElem (by omega)]; rfl
    rw [e]
    simp [val]
  · rw [if_neg h, if_neg h]

theorem F23_loop {N : Nat} (hN : 100 ≤ N) (lens : List Int) (hl : lens.length ≤ 320) (s : ByteArray) (hs : s.size ≤ 1000000) (lg : Nat) (hlg : lg ≤ 15) :
    ∀ (d f v p : Nat), d ≤ lg → d < f → p ≤ 8 * s.size → v < 2 ^ (lg - d) → ∀ y e' p', decN lens lg (allB s) d v p = some (y, e', p') →
    (∀ l, l ≤ 15 → ∀ w, first lens l ≤ w → w < first lens l + lens.count (l : Int) → 0 < l → (symsUp lens (l - 1)).length + (w - first lens l) < (symsUp lens 15).length) →
    ∃ r, F23_58 N f (((symsUp lens (lg - d)).length : Int), ((first lens (lg - d + 1) : Nat) : Int), ((lg - d + 1 : Nat) : Int), ((2 * v : Nat) : Int), cntL lens, (lg : Int), s, (p : Int), 0, symsUp lens 15) = some r ∧
      resOf r = (y, e', cntL lens, (lg : Int), s, (p' : Int), (if e' = 2 then 2 else 0), symsUp lens 15) := by
  have hal := allB_length s
  intro d
  induction d with
  | zero =>
    intro f v p hd hf hp hv y e' p' hdec hin
    cases f with
    | zero => omega
    | succ f =>
      unfold decN at hdec
      cases hdec
      simp only [F23_58, B23_58, iteP_eq]
      rw [if_neg (by simp only [decide_eq_true_eq]; omega)]
      exact ⟨_, rfl, rfl⟩
  | succ d ih =>
    intro f v p hd hf hp hv y e' p' hdec hin
    cases f with
    | zero => omega
    | succ f =>
      have hl1 : lg - (d + 1) + 1 = lg - d := by omega
      have hl0 : lg - (d + 1) = lg - d - 1 := by omega
      rw [hl1, hl0]
      have hlp : 0 < lg - d := by omega
      have hle : lg - d ≤ lg := by omega
      simp only [decN] at hdec
      have hfs := first_small lens hl (show lg - d ≤ 15 by omega)
      have hcl : lens.count ((lg - d : Nat) : Int) ≤ 320 := Nat.le_trans List.count_le_length hl
      have hsu := symsUp_len lens hl (lg - d - 1)
      have hv15 : 2 ^ (lg - (d + 1)) ≤ 2 ^ 15 := Nat.pow_le_pow_right (by decide) (by omega)
      have hd' : lg - (lg - d) = d := by omega
      have hrr := restR_le lens lg hl d
      have hfn := first_next lens hlp
      have hst := symsUp_step lens hlp
      generalize hL : lg - d = l at *
      have hwl : within (l : Int) 16 = true := by unfold within; simp only [decide_eq_true_eq]; omega
      have hg := cntL_get lens (show l < 16 by omega)
      have hF67 := F44_rest (N := N) (by omega) lens hl lg l hlg (by omega) (symsUp lens 15)
      rw [hd'] at hF67
      have h66 : ∀ (q : Nat) (e : Int), F43 N (s, (q : Int), e, ()) = some e := fun q e => rfl
      simp only [F23_58, B23_58, iteP_eq]
      rw [if_pos (by simp only [decide_eq_true_eq]; omega), F42_rd (by omega) s p 0 1 (by omega) hp, Option.bind_some, rd_one]
      by_cases hlt : p < (allB s).length
      · rw [if_pos hlt] at hdec
        rw [if_pos (show p + 1 ≤ (allB s).length by omega)]
        have hb2 : ((allB s).getD p false).toNat < 2 := by cases (allB s).getD p false <;> decide
        generalize ((allB s).getD p false).toNat = b at *
        simp only
        rw [h66, Option.bind_some, if_neg (by decide), if_pos hwl, Int.toNat_natCast, hg, Option.bind_some, or_bit v b (by omega) hb2]
        have hvw : v ≤ 32768 := by omega
        have hw2 : 2 * v + b < 2 ^ l := by
          have e : 2 ^ l = 2 * 2 ^ (l - 1) := by
            obtain ⟨k, rfl⟩ : ∃ k, l = k + 1 := ⟨l - 1, by omega⟩
            rw [Nat.add_sub_cancel, Nat.pow_succ]; omega
          have e3 : lg - (d + 1) = l - 1 := by omega
          rw [e3] at hv
          omega
        generalize hw : 2 * v + b = w at *
        have hwb : w ≤ 65537 := by omega
        rw [wrap_i64 (z := (w : Int) - ((first lens l : Nat) : Int)) (by omega) (by omega)]
        by_cases hA : w < first lens l + lens.count (l : Int)
        · rw [if_pos hA] at hdec
          by_cases hF : first lens l ≤ w
          · rw [if_pos hF] at hdec
            simp only [Option.some.injEq, Prod.mk.injEq] at hdec
            obtain ⟨rfl, rfl, rfl⟩ := hdec
            have hi := hin l (by omega) w hF hA hlp
            have hidx : IntKind.wrap .i64 (((symsUp lens (l - 1)).length : Int) + ((w : Int) - ((first lens l : Nat) : Int))) = (((symsUp lens (l - 1)).length + (w - first lens l) : Nat) : Int) := by
              rw [wrap_i64 (by omega) (by omega)]; omega
            have hgi := get_at hi
            rw [if_pos (by simp only [decide_eq_true_eq]; omega), hidx, if_pos (show within (((symsUp lens (l - 1)).length + (w - first lens l) : Nat) : Int) (symsUp lens 15).length = true by unfold within; simp only [decide_eq_true_eq]; omega), Int.toNat_natCast, hgi, Option.bind_some]
            exact ⟨_, rfl, rfl⟩
          · rw [if_neg hF] at hdec
            cases hdec
        · rw [if_neg hA] at hdec
          have e2 : Int.fdiv (IntKind.wrap .i64 ((w : Int) * 2)) 2 = (w : Int) := by
            rw [wrap_i64 (by omega) (by omega), Int.fdiv_eq_ediv_of_nonneg _ (by decide)]; omega
          have e4 : IntKind.wrap .i64 (IntKind.wrap .i64 (((first lens l : Nat) : Int) + (lens.count (l : Int) : Int)) * 2) = ((first lens (l + 1) : Nat) : Int) := by
            rw [wrap_i64 (z := ((first lens l : Nat) : Int) + _) (by omega) (by omega), wrap_i64 (by omega) (by omega), hfn]; omega
          have e5 : Int.fdiv ((first lens (l + 1) : Nat) : Int) 2 = ((first lens l + lens.count (l : Int) : Nat) : Int) := by
            rw [Int.fdiv_eq_ediv_of_nonneg _ (by decide), hfn]; omega
          rw [if_neg (by simp only [decide_eq_true_eq]; omega), if_pos hwl, Option.bind_some, if_pos hwl, Option.bind_some, hF67, Option.bind_some]
          simp only [e2, e4, e5]
          rw [wrap_i64 (z := (w : Int) - _) (by omega) (by omega)]
          by_cases hR : restR lens lg d ≤ w - (first lens l + lens.count (l : Int))
          · rw [if_pos hR] at hdec
            simp only [Option.some.injEq, Prod.mk.injEq] at hdec
            obtain ⟨rfl, rfl, rfl⟩ := hdec
            rw [if_pos (by simp only [decide_eq_true_eq]; omega)]
            exact ⟨_, rfl, rfl⟩
          · rw [if_neg hR] at hdec
            obtain ⟨r, r1, r2⟩ := ih f w (p + 1) (by omega) (by omega) (by omega) hw2 y e' p' hdec hin
            have hstl : (symsUp lens l).length ≤ 320 * l := symsUp_len lens hl l
            have e6 : IntKind.wrap .i64 (((symsUp lens (l - 1)).length : Int) + (lens.count (l : Int) : Int)) = ((symsUp lens l).length : Int) := by
              rw [wrap_i64 (by omega) (by omega), hst]; omega
            have e7 : IntKind.wrap .i64 ((w : Int) * 2) = ((2 * w : Nat) : Int) := by rw [wrap_i64 (by omega) (by omega)]; omega
            have e8 : IntKind.wrap .i64 ((l : Int) + 1) = ((l + 1 : Nat) : Int) := by rw [wrap_i64 (by omega) (by omega)]; omega
            rw [if_neg (by simp only [decide_eq_true_eq]; omega), e6, e7, e8, r1, Option.bind_some]
            cases r with
            | inl z => exact ⟨_, rfl, r2⟩
            | inr z => exact ⟨_, rfl, r2⟩
      · rw [if_neg hlt] at hdec
        cases hdec
        rw [if_neg (show ¬ p + 1 ≤ (allB s).length by omega)]
        simp only
        rw [h66, Option.bind_some, if_pos (by decide)]
        exact ⟨_, rfl, rfl⟩
end Go.Proofs.Ytpjkklailofkjaa.Am

namespace Go.Proofs.Ytpjkklailofkjaa.Am
open Go.Am
set_option linter.unusedSimpArgs false
set_option linter.unusedVariables false

theorem symsUp_mono (lens : List Int) (l : Nat) : ∀ k, (symsUp lens l).length ≤ (symsUp lens (l + k)).length
  | 0 => Nat.le_refl _
  | k + 1 => by
    have := symsUp_mono lens l k
    rw [← Nat.add_assoc, symsUp, List.length_append]
    omega

theorem dec_in (lens : List Int) : ∀ l, l ≤ 15 → ∀ w, first lens l ≤ w → w < first lens l + lens.count (l : Int) → 0 < l → (symsUp lens (l - 1)).length + (w - first lens l) < (symsUp lens 15).length := by
  intro l hl w h1 h2 h0
  have hst := symsUp_step lens h0
  have hm := symsUp_mono lens l (15 - l)
  rw [show l + (15 - l) = 15 by omega] at hm
  omega
end Go.Proofs.Ytpjkklailofkjaa.Am
namespace Go.Proofs.Ytpjkklailofkjaa.Am
open Go.Am

/-- What 'Next' tells, of a reader without an error. -/
theorem F23_next {N : Nat} (hN : 100 ≤ N) (lens : List Int) (hl : lens.length ≤ 320) (s : ByteArray) (hs : s.size ≤ 1000000) (p : Nat) (hp : p ≤ 8 * s.size) {y e' : Int} {p' : Nat} (hd : decN lens (lgUp lens 15) (allB s) (lgUp lens 15) 0 p = some (y, e', p')) :
    F23 N (cntL lens, ((lgUp lens 15 : Nat) : Int), s, (p : Int), 0, symsUp lens 15) = some (y, e', cntL lens, ((lgUp lens 15 : Nat) : Int), s, (p' : Int), (if e' = 2 then 2 else 0), symsUp lens 15) := by
  have hlg := lgUp_le lens 15
  obtain ⟨r, r1, r2⟩ := F23_loop hN lens hl s hs (lgUp lens 15) hlg (lgUp lens 15) N 0 p (Nat.le_refl _) (by omega) hp (by rw [Nat.sub_self]; decide) y e' p' hd (dec_in lens)
  rw [Nat.sub_self] at r1
  simp only [F23, iteP_eq]
  have r1' : F23_58 N N (0, 0, 1, 0, cntL lens, ((lgUp lens 15 : Nat) : Int), s, (p : Int), 0, symsUp lens 15) = some r := r1
  rw [r1', Option.bind_some]
  cases r with
  | inl z => rw [← r2]; rfl
  | inr z => rw [← r2]; rfl
end Go.Proofs.Ytpjkklailofkjaa.Am

namespace Go.Proofs.Ytpjkklailofkjaa.Am
open Go.Am
set_option linter.unusedSimpArgs false
set_option linter.unusedVariables false

/-! ### Codes as numbers: where those of a length lie, and what they begin with -/
/-- A symbol's code, as a number. -/
def codeN (lens : List Int) (j : Nat) : Nat := first lens (lens.getD j 0).toNat + (lens.take j).count (lens.getD j 0)

theorem getD_at {lens : List Int} {j : Nat} (h : j < lens.length) : lens.getD j 0 = lens[j] := by
  rw [List.getD, List.getElem?_eq_getElem h]; rfl

theorem codeAt_eq (lens : List Int) (j : Nat) : codeAt lens j = if 0 < lens.getD j 0 then ((codeN lens j : Int), lens.getD j 0, ()) else (0, 0, ()) := rfl

theorem count_take_lt {lens : List Int} {j : Nat} (h : j < lens.length) : (lens.take j).count (lens.getD j 0) < lens.count (lens.getD j 0) := by
  have e : lens.count (lens.getD j 0) = (lens.take (j + 1) ++ lens.drop (j + 1)).count (lens.getD j 0) := by rw [List.take_append_drop]
  rw [e, take_snoc h, List.count_append, List.count_append, getD_at h, List.count_singleton_self]
  omega

/-- The j-th code of a length, in order. -/
theorem symsTo_at (lens : List Int) (l : Nat) : ∀ n, n ≤ lens.length → ∀ r, r < (symsTo lens l n).length → ∃ j, j < n ∧ lens.getD j 0 = (l : Int) ∧ (lens.take j).count (l : Int) = r ∧ (symsTo lens l n).getD r 0 = (j : Int)
  | 0, _, r, h => by simp [symsTo] at h
  | n + 1, hn, r, h => by
    have ih := symsTo_at lens l n (by omega)
    have hlen := symsTo_len lens l n (by omega)
    by_cases e : lens.getD n 0 = (l : Int)
    · have es : symsTo lens l (n + 1) = symsTo lens l n ++ [(n : Int)] := by rw [symsTo, if_pos e]
      rw [es] at h ⊢
      rw [List.length_append, List.length_singleton] at h
      by_cases hr : r < (symsTo lens l n).length
      · obtain ⟨j, h1, h2, h3, h4⟩ := ih r hr
        refine ⟨j, by omega, h2, h3, ?_⟩
        rw [List.getD, List.getElem?_append_left hr]
        exact h4
      · have : r = (symsTo lens l n).length := by omega
        subst this
        refine ⟨n, by omega, e, hlen.symm, ?_⟩
        rw [List.getD, List.getElem?_append_right (Nat.le_refl _), Nat.sub_self]
        rfl
    · have es : symsTo lens l (n + 1) = symsTo lens l n := by rw [symsTo, if_neg e]
      rw [es] at h ⊢
      obtain ⟨j, h1, h2⟩ := ih r h
      exact ⟨j, by omega, h2⟩

theorem symsUp_get (lens : List Int) {l : Nat} (h0 : 0 < l) {r : Nat} (hr : r < lens.count (l : Int)) : ∀ k, (symsUp lens (l + k)).getD ((symsUp lens (l - 1)).length + r) 0 = (symsTo lens l lens.length).getD r 0
  | 0 => by
    obtain ⟨m, rfl⟩ : ∃ m, l = m + 1 := ⟨l - 1, by omega⟩
    have hlen := symsTo_len lens (m + 1) lens.length (Nat.le_refl _)
    rw [List.take_length] at hlen
    rw [Nat.add_zero, Nat.add_sub_cancel, symsUp, List.getD, List.getD, List.getElem?_append_right (by omega), Nat.add_sub_cancel_left]
  | k + 1 => by
    have ih := symsUp_get lens h0 hr k
    have hst := symsUp_step lens h0
    have hm := symsUp_mono lens l k
    rw [← Nat.add_assoc, symsUp, List.getD, List.getElem?_append_left (by omega)]
    exact ih

/-- Which symbol a number of a length is. -/
theorem sym_at (lens : List Int) {l : Nat} (h0 : 0 < l) (hl : l ≤ 15) {w : Nat} (h1 : first lens l ≤ w) (h2 : w < first lens l + lens.count (l : Int)) :
    ∃ j, j < lens.length ∧ lens.getD j 0 = (l : Int) ∧ codeN lens j = w ∧ (symsUp lens 15).getD ((symsUp lens (l - 1)).length + (w - first lens l)) 0 = (j : Int) := by
  have hlen := symsTo_len lens l lens.length (Nat.le_refl _)
  rw [List.take_length] at hlen
  have hg := symsUp_get lens h0 (show w - first lens l < lens.count (l : Int) by omega) (15 - l)
  rw [show l + (15 - l) = 15 by omega] at hg
  obtain ⟨j, a1, a2, a3, a4⟩ := symsTo_at lens l lens.length (Nat.le_refl _) (w - first lens l) (by omega)
  refine ⟨j, a1, a2, ?_, by rw [hg, a4]⟩
  unfold codeN
  rw [a2, a3, Int.toNat_natCast]
  omega

theorem codeN_range {lens : List Int} {j : Nat} (hj : j < lens.length) {l : Nat} (hl : lens.getD j 0 = (l : Int)) : first lens l ≤ codeN lens j ∧ codeN lens j < first lens l + lens.count (l : Int) := by
  have h := count_take_lt hj
  unfold codeN
  rw [hl] at h ⊢
  rw [Int.toNat_natCast]
  omega

theorem codeN_inj {lens : List Int} {i j : Nat} (hi : i < lens.length) (hj : j < lens.length) (h1 : lens.getD i 0 = lens.getD j 0) (h2 : codeN lens i = codeN lens j) : i = j := by
  have key : ∀ a b, a < b → b < lens.length → lens.getD a 0 = lens.getD b 0 → (lens.take a).count (lens.getD a 0) < (lens.take b).count (lens.getD a 0) := by
    intro a b hab hb he
    have e : lens.take b = (lens.take b).take (a + 1) ++ (lens.take b).drop (a + 1) := (List.take_append_drop ..).symm
    rw [e, List.count_append, List.take_take, Nat.min_eq_left (by omega), take_snoc (show a < lens.length by omega), List.count_append, getD_at (show a < lens.length by omega), List.count_singleton_self]
    omega
  unfold codeN at h2
  rw [h1] at h2
  rcases Nat.lt_trichotomy i j with h | h | h
  · have := key i j h hj h1
    rw [h1] at this
    omega
  · exact h
  · have := key j i h hi h1.symm
    omega

/-- The longest length that comes. -/
theorem lgUp_none (lens : List Int) : ∀ n l, lgUp lens n < l → l ≤ n → lens.count (l : Int) = 0
  | 0, l, h1, h2 => by omega
  | n + 1, l, h1, h2 => by
    have hlen := symsTo_len lens (n + 1) lens.length (Nat.le_refl _)
    rw [List.take_length] at hlen
    rw [lgUp] at h1
    unfold lgOr at h1
    by_cases he : (symsTo lens (n + 1) lens.length).isEmpty = true
    · rw [if_pos he] at h1
      by_cases h : l = n + 1
      · subst h
        rw [List.isEmpty_iff] at he
        rw [← hlen, he]; rfl
      · exact lgUp_none lens n l h1 (by omega)
    · rw [if_neg he] at h1
      omega

theorem lgUp_some (lens : List Int) : ∀ n, 0 < lgUp lens n → 0 < lens.count ((lgUp lens n : Nat) : Int)
  | 0, h => by simp [lgUp] at h
  | n + 1, h => by
    have hlen := symsTo_len lens (n + 1) lens.length (Nat.le_refl _)
    rw [List.take_length] at hlen
    rw [lgUp] at h ⊢
    unfold lgOr at h ⊢
    by_cases he : (symsTo lens (n + 1) lens.length).isEmpty = true
    · rw [if_pos he] at h ⊢
      exact lgUp_some lens n h
    · rw [if_neg he] at h ⊢
      have : (symsTo lens (n + 1) lens.length) ≠ [] := fun e => he (by rw [e]; rfl)
      have := List.length_pos_iff.2 this
      omega

/-- A length that comes is not above the longest one. -/
theorem len_le_lg {lens : List Int} (hok : okB lens = true) {j : Nat} (hj : j < lens.length) : (lens.getD j 0).toNat ≤ lgUp lens 15 := by
  obtain ⟨a, b⟩ := okB_at hok hj
  rw [← getD_at hj] at a b
  refine Classical.byContradiction fun hn => ?_
  have h := lgUp_none lens 15 (lens.getD j 0).toNat (by omega) (by omega)
  have e : (((lens.getD j 0).toNat : Nat) : Int) = lens.getD j 0 := by omega
  rw [e] at h
  have := count_take_lt hj
  omega

theorem div_pow_succ (a b : Nat) : a / 2 ^ (b + 1) = a / 2 ^ b / 2 := by rw [Nat.pow_succ, Nat.div_div_eq_div_mul]

/-- With which numbers longer codes begin. -/
theorem pre_range {lens : List Int} (hok : okB lens = true) : ∀ d l, 0 < l → l + d = lgUp lens 15 → ∀ w,
    (∃ j, j < lens.length ∧ (l : Int) < lens.getD j 0 ∧ codeN lens j / 2 ^ ((lens.getD j 0).toNat - l) = w) ↔ (first lens l + lens.count (l : Int) ≤ w ∧ w < first lens l + lens.count (l : Int) + restR lens (lgUp lens 15) d)
  | 0, l, h0, h1, w => by
    constructor
    · rintro ⟨j, hj, h2, _⟩
      have := len_le_lg hok hj
      omega
    · rintro ⟨h2, h3⟩
      rw [restR] at h3
      omega
  | d + 1, l, h0, h1, w => by
    have ih := pre_range hok d (l + 1) (by omega) (by omega)
    have hf := first_next lens h0
    have hr : restR lens (lgUp lens 15) (d + 1) = (restR lens (lgUp lens 15) d + lens.count ((l + 1 : Nat) : Int) + 1) / 2 := by
      rw [restR, show lgUp lens 15 - d = l + 1 by omega]
    have hlg := lgUp_le lens 15
    constructor
    · rintro ⟨j, hj, h2, h3⟩
      by_cases e : lens.getD j 0 = ((l + 1 : Nat) : Int)
      · obtain ⟨r1, r2⟩ := codeN_range hj e
        rw [e, show ((l + 1 : Nat) : Int).toNat - l = 1 by omega] at h3
        omega
      · have h4 := (ih (codeN lens j / 2 ^ ((lens.getD j 0).toNat - (l + 1)))).1 ⟨j, hj, by omega, rfl⟩
        rw [show (lens.getD j 0).toNat - l = (lens.getD j 0).toNat - (l + 1) + 1 by omega, div_pow_succ] at h3
        omega
    · rintro ⟨h2, h3⟩
      by_cases e : 2 * w < first lens (l + 1) + lens.count ((l + 1 : Nat) : Int)
      · obtain ⟨j, a1, a2, a3, _⟩ := sym_at lens (l := l + 1) (w := 2 * w) (by omega) (by omega) (by omega) e
        refine ⟨j, a1, by omega, ?_⟩
        rw [a2, a3, show ((l + 1 : Nat) : Int).toNat - l = 1 by omega]
        omega
      · obtain ⟨j, a1, a2, a3⟩ := (ih (2 * w)).2 (by omega)
        refine ⟨j, a1, by omega, ?_⟩
        rw [show (lens.getD j 0).toNat - l = (lens.getD j 0).toNat - (l + 1) + 1 by omega, div_pow_succ, a3]
        omega

/-- Codes of a length are below its power of two. -/
theorem room {lens : List Int} : ∀ l, lf lens (l + 1) = 2 ^ (l + 1) - ((first lens (l + 1) + lens.count ((l + 1 : Nat) : Int) : Nat) : Int)
  | 0 => by simp [lf, first]
  | l + 1 => by
    have hf := first_next lens (Nat.succ_pos l)
    rw [Nat.succ_eq_add_one] at hf
    rw [lf, room l, hf, Int.pow_succ 2 (l + 1)]
    omega

theorem chk_room {lens : List Int} (h : (chk lens).2 = 0) {l : Nat} (h0 : 0 < l) (hl : l ≤ 15) : first lens l + lens.count (l : Int) ≤ 2 ^ l := by
  have h15 : 0 ≤ lf lens 15 := by
    unfold chk at h
    by_cases hh : okL lens = true ∧ 0 ≤ lf lens 15
    · exact hh.2
    · rw [if_neg hh] at h; cases h
  have hl0 : 0 ≤ lf lens l := Int.not_lt.1 fun hn => by
    have := lf_neg lens l (15 - l) hn
    rw [show l + (15 - l) = 15 by omega] at this
    omega
  obtain ⟨m, rfl⟩ : ∃ m, l = m + 1 := ⟨l - 1, by omega⟩
  rw [room] at hl0
  have : ((2 ^ (m + 1) : Nat) : Int) = (2 : Int) ^ (m + 1) := by simp
  omega

theorem codeN_lt {lens : List Int} (h : (chk lens).2 = 0) {j : Nat} (hj : j < lens.length) (h0 : 0 < lens.getD j 0) : codeN lens j < 2 ^ (lens.getD j 0).toNat := by
  obtain ⟨a1, a2⟩ := chk_ok h
  obtain ⟨b1, b2⟩ := okB_at a2 hj
  rw [← getD_at hj] at b1 b2
  have e : lens.getD j 0 = (((lens.getD j 0).toNat : Nat) : Int) := by omega
  obtain ⟨r1, r2⟩ := codeN_range hj e
  have := chk_room h (l := (lens.getD j 0).toNat) (by omega) (by omega)
  omega
end Go.Proofs.Ytpjkklailofkjaa.Am

namespace Go.Proofs.Ytpjkklailofkjaa.Am
open Go.Am
set_option linter.unusedSimpArgs false
set_option linter.unusedVariables false

theorem snoc_ind {α : Type} {motive : List α → Prop} (h0 : motive []) (h1 : ∀ l b, motive l → motive (l ++ [b])) (l : List α) : motive l := by
  have key : ∀ m : List α, motive m.reverse := fun m => by
    induction m with
    | nil => exact h0
    | cons b m ih => rw [List.reverse_cons]; exact h1 _ _ ih
  have := key l.reverse
  rwa [List.reverse_reverse] at this

/-- The number of some bits, the first one the greatest. -/
def valB (l : List Bool) : Nat := l.foldl (fun n b => 2 * n + b.toNat) 0
theorem valB_snoc (l : List Bool) (b : Bool) : valB (l ++ [b]) = 2 * valB l + b.toNat := by unfold valB; rw [List.foldl_append]; rfl
theorem valB_lt (l : List Bool) : valB l < 2 ^ l.length := by
  refine snoc_ind (motive := fun l => valB l < 2 ^ l.length) (by decide) (fun l b ih => ?_) l
  rw [valB_snoc, List.length_append, List.length_singleton, Nat.pow_succ]
  cases b <;> simp only [Bool.toNat_true, Bool.toNat_false] <;> omega

theorem beginsN_snoc (c n : Nat) (l : List Bool) (b : Bool) : beginsN c n (l ++ [b]) = (beginsN c n l && (decide (l.length < n) && (bitOf c n l.length == b))) := by
  unfold beginsN
  rw [List.length_append, List.length_singleton, List.range_succ, List.all_append]
  have e1 : ((List.range l.length).all fun i => bitOf c n i == (l ++ [b]).getD i false) = (List.range l.length).all fun i => bitOf c n i == l.getD i false := by
    apply Bool.eq_iff_iff.2
    rw [List.all_eq_true, List.all_eq_true]
    constructor
    · intro h i hi
      have := h i hi
      rwa [List.getD, List.getElem?_append_left (List.mem_range.1 hi)] at this
    · intro h i hi
      rw [List.getD, List.getElem?_append_left (List.mem_range.1 hi)]
      exact h i hi
  have e2 : (l ++ [b]).getD l.length false = b := by rw [List.getD, List.getElem?_append_right (Nat.le_refl _), Nat.sub_self]; rfl
  rw [e1]
  simp only [List.all_cons, List.all_nil, Bool.and_true, e2]
  by_cases h : l.length + 1 ≤ n
  · rw [decide_eq_true h, decide_eq_true (show l.length ≤ n by omega), decide_eq_true (show l.length < n by omega)]
    simp only [Bool.true_and]
  · rw [decide_eq_false h, decide_eq_false (show ¬ l.length < n by omega)]
    simp only [Bool.false_and, Bool.and_false]

theorem beginsN_iff {c n : Nat} (hc : c < 2 ^ n) (l : List Bool) : beginsN c n l = true ↔ l.length ≤ n ∧ c / 2 ^ (n - l.length) = valB l := by
  refine snoc_ind (motive := fun l => beginsN c n l = true ↔ l.length ≤ n ∧ c / 2 ^ (n - l.length) = valB l) ?_ (fun l b ih => ?_) l
  · have : c / 2 ^ n = 0 := Nat.div_eq_of_lt hc
    simp [beginsN, valB, this]
  · rw [beginsN_snoc, Bool.and_eq_true, Bool.and_eq_true, ih, valB_snoc, List.length_append, List.length_singleton, decide_eq_true_eq, beq_iff_eq]
    unfold bitOf
    constructor
    · rintro ⟨⟨h1, h2⟩, h3, h4⟩
      refine ⟨h3, ?_⟩
      rw [show n - l.length = n - (l.length + 1) + 1 by omega, div_pow_succ] at h2
      rw [show n - 1 - l.length = n - (l.length + 1) by omega, Nat.testBit_eq_decide_div_mod_eq] at h4
      generalize c / 2 ^ (n - (l.length + 1)) = q at *
      rcases Nat.mod_two_eq_zero_or_one q with h | h <;> rw [h] at h4 <;> subst h4 <;> simp <;> omega
    · rintro ⟨h3, h4⟩
      rw [show n - l.length = n - (l.length + 1) + 1 by omega, div_pow_succ, show n - 1 - l.length = n - (l.length + 1) by omega, Nat.testBit_eq_decide_div_mod_eq]
      generalize c / 2 ^ (n - (l.length + 1)) = q at *
      subst h4
      refine ⟨⟨by omega, ?_⟩, h3, ?_⟩ <;> cases b <;> simp <;> omega

/-! ### The document's 'Find', by numbers -/
theorem codesOf_at (lens : List Int) {j : Nat} (hj : j < lens.length) : (codesOf lens)[j]? = some (codeAt lens j) := by
  unfold codesOf; rw [List.getElem?_map, List.getElem?_range hj]; rfl

/-- Codes and their lengths, as the document has them. -/
def cN (lens : List Int) (j : Nat) : Nat := if 0 < lens.getD j 0 then codeN lens j else 0
def nN (lens : List Int) (j : Nat) : Nat := (lens.getD j 0).toNat

theorem codes_hyp {lens : List Int} (h : (chk lens).2 = 0) : ∀ j, j < (codesOf lens).length → (codesOf lens)[j]? = some ((cN lens j : Int), (nN lens j : Int), ()) ∧ cN lens j < 1000000000 ∧ nN lens j ≤ 15 := by
  intro j hj
  rw [codesOf_len] at hj
  obtain ⟨a1, a2⟩ := chk_ok h
  obtain ⟨b1, b2⟩ := okB_at a2 hj
  rw [← getD_at hj] at b1 b2
  rw [codesOf_at lens hj, codeAt_eq]
  unfold cN nN
  by_cases h0 : 0 < lens.getD j 0
  · rw [if_pos h0, if_pos h0]
    have := codeN_lt h hj h0
    have hp : 2 ^ (lens.getD j 0).toNat ≤ 2 ^ 15 := Nat.pow_le_pow_right (by decide) (by omega)
    refine ⟨?_, by omega, by omega⟩
    rw [Int.toNat_of_nonneg b1]
  · rw [if_neg h0, if_neg h0]
    have e : lens.getD j 0 = 0 := by omega
    rw [e]
    exact ⟨rfl, by omega, by decide⟩

theorem preB_iff {lens : List Int} (h : (chk lens).2 = 0) {j : Nat} (hj : j < lens.length) (l : List Bool) :
    preB (cN lens) (nN lens) l j = true ↔ 0 < lens.getD j 0 ∧ l.length ≤ (lens.getD j 0).toNat ∧ codeN lens j / 2 ^ ((lens.getD j 0).toNat - l.length) = valB l := by
  obtain ⟨a1, a2⟩ := chk_ok h
  obtain ⟨b1, b2⟩ := okB_at a2 hj
  rw [← getD_at hj] at b1 b2
  unfold preB
  rw [Bool.and_eq_true, Bool.not_eq_true', beq_eq_false_iff_ne]
  by_cases h0 : 0 < lens.getD j 0
  · have e : cN lens j = codeN lens j := by unfold cN; rw [if_pos h0]
    unfold nN
    rw [e, beginsN_iff (codeN_lt h hj h0)]
    constructor
    · rintro ⟨x, y⟩; exact ⟨h0, y⟩
    · rintro ⟨x, y⟩; exact ⟨by omega, y⟩
  · constructor
    · rintro ⟨x, y⟩; unfold nN at x; omega
    · rintro ⟨x, y⟩; exact absurd x h0

theorem hitB_iff {lens : List Int} (h : (chk lens).2 = 0) {j : Nat} (hj : j < lens.length) (l : List Bool) :
    hitB (cN lens) (nN lens) l j = true ↔ 0 < l.length ∧ lens.getD j 0 = (l.length : Int) ∧ codeN lens j = valB l := by
  unfold hitB
  rw [Bool.and_eq_true, preB_iff h hj, beq_iff_eq]
  unfold nN
  constructor
  · rintro ⟨⟨x, y, z⟩, w⟩
    rw [w, Nat.sub_self, Nat.pow_zero, Nat.div_one] at z
    exact ⟨by omega, by omega, z⟩
  · rintro ⟨x, y, z⟩
    rw [y, Int.toNat_natCast, Nat.sub_self, Nat.pow_zero, Nat.div_one]
    exact ⟨⟨by omega, Nat.le_refl _, z⟩, rfl⟩

theorem bool_false {b : Bool} (h : ¬ b = true) : b = false := by cases b <;> simp_all

/-- Some bits that are a code. -/
theorem find_hit {N : Nat} (hN : 2000 < N) {lens : List Int} (h : (chk lens).2 = 0) (l : List Bool) (h0 : 0 < l.length) (hl : l.length ≤ 15) (h1 : first lens l.length ≤ valB l) (h2 : valB l < first lens l.length + lens.count (l.length : Int)) :
    ∃ k : Nat, k < lens.length ∧ F24 N (codesOf lens, l) = some (k : Int) ∧ (symsUp lens 15).getD ((symsUp lens (l.length - 1)).length + (valB l - first lens l.length)) 0 = (k : Int) := by
  obtain ⟨a1, a2⟩ := chk_ok h
  obtain ⟨k, k1, k2, k3, k4⟩ := sym_at lens h0 hl h1 h2
  refine ⟨k, k1, ?_, k4⟩
  have hC := codesOf_len lens
  refine F24_hit hN (codes_hyp h) (by omega) l (by omega) (by omega) ((hitB_iff h k1 l).2 ⟨h0, k2, k3⟩) fun j hj => bool_false fun hh => ?_
  obtain ⟨_, g2, g3⟩ := (hitB_iff h (show j < lens.length by omega) l).1 hh
  have := codeN_inj (show j < lens.length by omega) k1 (by omega) (by omega)
  omega

theorem smF_any {c n : Nat → Nat} {l : List Bool} {i : Nat} (h : ∃ j, j < i ∧ preB c n l j = true) : smF c n l i = -1 := by
  obtain ⟨j, h1, h2⟩ := h
  have : (List.range i).any (preB c n l) = true := List.any_eq_true.2 ⟨j, List.mem_range.2 h1, h2⟩
  unfold smF; rw [this]; rfl
theorem smF_none {c n : Nat → Nat} {l : List Bool} {i : Nat} (h : ∀ j, j < i → preB c n l j = false) : smF c n l i = -2 := by
  have : (List.range i).any (preB c n l) = false := by
    rw [List.any_eq_false]
    intro j hj
    rw [h j (List.mem_range.1 hj)]
    decide
  unfold smF; rw [this]; rfl

/-- Some bits that are no code: do they begin one? -/
theorem find_more {N : Nat} (hN : 2000 < N) {lens : List Int} (h : (chk lens).2 = 0) (l : List Bool) (h0 : 0 < l.length) (d : Nat) (hd : l.length + d = lgUp lens 15) (h1 : first lens l.length + lens.count (l.length : Int) ≤ valB l) :
    F24 N (codesOf lens, l) = some (if restR lens (lgUp lens 15) d ≤ valB l - (first lens l.length + lens.count (l.length : Int)) then -2 else -1) := by
  obtain ⟨a1, a2⟩ := chk_ok h
  have hC := codesOf_len lens
  have hlg := lgUp_le lens 15
  have hp := pre_range a2 d l.length h0 hd (valB l)
  rw [F24_none hN (codes_hyp h) (by omega) l (by omega) fun j hj => bool_false fun hh => ?_, hC]
  · congr 1
    by_cases hr : restR lens (lgUp lens 15) d ≤ valB l - (first lens l.length + lens.count (l.length : Int))
    · rw [if_pos hr]
      refine smF_none fun j hj => bool_false fun hh => ?_
      obtain ⟨g1, g2, g3⟩ := (preB_iff h hj l).1 hh
      by_cases e : (lens.getD j 0).toNat = l.length
      · obtain ⟨r1, r2⟩ := codeN_range hj (l := l.length) (by omega)
        rw [e, Nat.sub_self, Nat.pow_zero, Nat.div_one] at g3
        omega
      · have := hp.1 ⟨j, hj, by omega, g3⟩
        omega
    · rw [if_neg hr]
      obtain ⟨j, hj, g2, g3⟩ := hp.2 ⟨h1, by omega⟩
      exact smF_any ⟨j, hj, (preB_iff h hj l).2 ⟨by omega, by omega, g3⟩⟩
  · obtain ⟨g1, g2, g3⟩ := (hitB_iff h (by omega) l).1 hh
    obtain ⟨r1, r2⟩ := codeN_range (show j < lens.length by omega) g2
    omega

/-- No bits. -/
theorem find_nil {N : Nat} (hN : 2000 < N) {lens : List Int} (h : (chk lens).2 = 0) : F24 N (codesOf lens, []) = some (if lgUp lens 15 = 0 then -2 else -1) := by
  obtain ⟨a1, a2⟩ := chk_ok h
  have hC := codesOf_len lens
  rw [F24_none hN (codes_hyp h) (by omega) [] (by decide) fun j hj => bool_false fun hh => ?_, hC]
  · congr 1
    by_cases hr : lgUp lens 15 = 0
    · rw [if_pos hr]
      refine smF_none fun j hj => bool_false fun hh => ?_
      obtain ⟨g1, g2, g3⟩ := (preB_iff h hj []).1 hh
      have := len_le_lg a2 hj
      omega
    · rw [if_neg hr]
      have := lgUp_some lens 15 (by omega)
      obtain ⟨j, hj, e⟩ := List.getElem_of_mem (List.count_pos_iff.1 this)
      rw [← getD_at hj] at e
      have hlt := codeN_lt h hj (by omega)
      exact smF_any ⟨j, hj, (preB_iff h hj []).2 ⟨by omega, Nat.zero_le _, by
        rw [List.length_nil, Nat.sub_zero, Nat.div_eq_of_lt hlt]; rfl⟩⟩
  · obtain ⟨g1, g2, g3⟩ := (hitB_iff h (by omega) []).1 hh
    exact absurd g1 (by decide)

/-! ### The document's next symbol -/
end Go.Proofs.Ytpjkklailofkjaa.Am

namespace Go.Proofs.Ytpjkklailofkjaa.Am
open Go.Am
set_option linter.unusedSimpArgs false
set_option linter.unusedVariables false

theorem allB_strF (m : List Bool) : allB (strF m) = alignL m := by
  have h1 := allB_length (strF m)
  have h2 := strF_size m
  have h3 := alignL_length m
  apply List.ext_getElem?
  intro j
  by_cases h : j < 8 * (strF m).size
  · have e := sbits_eq (strF m) j 1 (by omega)
    have e2 : (allB (strF m))[j]? = some (sbit (strF m) j) := by
      have := congrArg (fun l : List Bool => l[0]?) e
      simp only [sbits, List.range_one, List.map_cons, List.map_nil, List.getElem?_cons_zero, Nat.add_zero] at this
      rw [List.getElem?_take_of_lt (by omega), List.getElem?_drop] at this
      exact this.symm
    rw [e2, sbit_strF]
    unfold alignL
    by_cases hj : j < m.length
    · rw [List.getElem?_append_left hj, List.getD, List.getElem?_eq_getElem hj]; rfl
    · rw [List.getElem?_append_right (by omega), List.getElem?_replicate, if_pos (by unfold padN; omega), List.getD, List.getElem?_eq_none (by omega)]; rfl
  · rw [List.getElem?_eq_none (by omega), List.getElem?_eq_none (by omega)]

theorem bitsN_val (l : List Bool) : bitsN l.length (val l) = l := by
  apply List.ext_getElem?
  intro i
  rw [getD_bitsN]
  by_cases h : i < l.length
  · rw [if_pos h, val_bit, List.getD, List.getElem?_eq_getElem h]; rfl
  · rw [if_neg h, List.getElem?_eq_none (by omega)]

theorem putB_val (n : Int) (l : List Bool) (h : l.length = clampN n) : putB n (val l : Int) = l := by
  unfold putB lowN
  have hv := val_lt l
  rw [h] at hv
  have hc := clampN_le n
  have hp := pow_le32 hc
  rw [BitVec.ofInt_natCast, BitVec.toNat_ofNat, Nat.mod_eq_of_lt (a := val l) (by omega), Nat.mod_eq_of_lt hv, ← h, bitsN_val]

/-- A code's bits, the greatest one first. -/
def codeBits (c : Cod) : List Bool := (putB c.2.1 c.1).reverse
theorem codeBits_len (c : Cod) : (codeBits c).length ≤ 32 := by
  unfold codeBits; rw [List.length_reverse, putB_length]; exact clampN_le _

theorem F26_code {N : Nat} (hN : 6 ≤ N) (m : List Bool) (hm : m.length ≤ 1000000000) (c : Cod) :
    F26 N (c.1, c.2.1, lastF m, nF m, bF m) = some (lastF (m ++ codeBits c), nF (m ++ codeBits c), bF (m ++ codeBits c)) := by
  simp only [F26]
  rw [F47_rev, Option.bind_some, F46_bits hN m hm, Option.bind_some, revN_val, putB_val _ _ (by rw [List.length_reverse, putB_length])]
  rfl

/-! ### A code's bits are decoded -/
theorem code_bits_at {lens : List Int} (h : (chk lens).2 = 0) {j : Nat} (hj : j < lens.length) (h0 : 0 < lens.getD j 0) :
    (codeBits (codeAt lens j)).length = (lens.getD j 0).toNat ∧ ∀ k, k < (lens.getD j 0).toNat → (codeBits (codeAt lens j))[k]? = some ((codeN lens j).testBit ((lens.getD j 0).toNat - 1 - k)) := by
  obtain ⟨a1, a2⟩ := chk_ok h
  obtain ⟨b1, b2⟩ := okB_at a2 hj
  rw [← getD_at hj] at b1 b2
  have hlt := codeN_lt h hj h0
  have hp : 2 ^ (lens.getD j 0).toNat ≤ 2 ^ 15 := Nat.pow_le_pow_right (by decide) (by omega)
  have hc : clampN (lens.getD j 0) = (lens.getD j 0).toNat := by unfold clampN; omega
  have hlen : (codeBits (codeAt lens j)).length = (lens.getD j 0).toNat := by
    unfold codeBits
    rw [codeAt_eq, if_pos h0, List.length_reverse, putB_length, hc]
  refine ⟨hlen, fun k hk => ?_⟩
  unfold codeBits at hlen ⊢
  rw [codeAt_eq, if_pos h0] at hlen ⊢
  simp only at hlen ⊢
  rw [List.length_reverse] at hlen
  rw [List.getElem?_reverse (by omega), hlen]
  unfold putB lowN
  rw [getD_bitsN, hc, if_pos (by omega), BitVec.ofInt_natCast, BitVec.toNat_ofNat, Nat.mod_eq_of_lt (a := codeN lens j) (by omega), Nat.mod_eq_of_lt hlt]

theorem dec_code {lens : List Int} (h : (chk lens).2 = 0) {j : Nat} (hj : j < lens.length) (h0 : 0 < lens.getD j 0) (L : List Bool) (p : Nat) (hL : ∀ k, k < (lens.getD j 0).toNat → L[p + k]? = some ((codeN lens j).testBit ((lens.getD j 0).toNat - 1 - k))) :
    ∀ (r k : Nat), r + k = (lens.getD j 0).toNat → 0 < r → decN lens (lgUp lens 15) L (lgUp lens 15 - k) (codeN lens j / 2 ^ ((lens.getD j 0).toNat - k)) (p + k) = some ((j : Int), 0, p + (lens.getD j 0).toNat) := by
  obtain ⟨a1, a2⟩ := chk_ok h
  obtain ⟨b1, b2⟩ := okB_at a2 hj
  rw [← getD_at hj] at b1 b2
  have hle := len_le_lg a2 hj
  have hlg := lgUp_le lens 15
  intro r
  induction r with
  | zero => intro k _ h; omega
  | succ r ih =>
    intro k hk _
    obtain ⟨d, hd⟩ : ∃ d, lgUp lens 15 - k = d + 1 := ⟨lgUp lens 15 - k - 1, by omega⟩
    have hbit := hL k (by omega)
    have hlt : p + k < L.length := by
      refine Classical.byContradiction fun hn => ?_
      rw [List.getElem?_eq_none (by omega)] at hbit
      cases hbit
    have hg : L.getD (p + k) false = (codeN lens j).testBit ((lens.getD j 0).toNat - 1 - k) := by rw [List.getD, hbit]; rfl
    rw [hd]
    simp only [decN]
    have e1 : lgUp lens 15 - d = k + 1 := by omega
    have hw : 2 * (codeN lens j / 2 ^ ((lens.getD j 0).toNat - k)) + (L.getD (p + k) false).toNat = codeN lens j / 2 ^ ((lens.getD j 0).toNat - (k + 1)) := by
      rw [hg, show (lens.getD j 0).toNat - k = (lens.getD j 0).toNat - (k + 1) + 1 by omega, div_pow_succ, show (lens.getD j 0).toNat - 1 - k = (lens.getD j 0).toNat - (k + 1) by omega, Nat.testBit_eq_decide_div_mod_eq]
      generalize codeN lens j / 2 ^ ((lens.getD j 0).toNat - (k + 1)) = q
      rcases Nat.mod_two_eq_zero_or_one q with h | h <;> rw [h] <;> simp <;> omega
    rw [if_pos hlt, hw, e1]
    by_cases hr : r = 0
    · subst hr
      have hm : (lens.getD j 0).toNat = k + 1 := by omega
      have hl : lens.getD j 0 = ((k + 1 : Nat) : Int) := by omega
      obtain ⟨r1, r2⟩ := codeN_range hj hl
      rw [hm, Nat.sub_self, Nat.pow_zero, Nat.div_one, if_pos r2, if_pos r1]
      obtain ⟨i, i1, i2, i3, i4⟩ := sym_at lens (l := k + 1) (by omega) (by omega) r1 r2
      have : i = j := codeN_inj i1 hj (by omega) i3
      subst this
      rw [i4]
      rfl
    · have hpre := (pre_range a2 d (k + 1) (by omega) (by omega) (codeN lens j / 2 ^ ((lens.getD j 0).toNat - (k + 1)))).1 ⟨j, hj, by omega, rfl⟩
      rw [if_neg (by omega), if_neg (by omega)]
      have := ih (k + 1) (by omega) (by omega)
      rw [show lgUp lens 15 - (k + 1) = d by omega] at this
      exact this

/-! ### Symbols written and read again -/
def okS (lens : List Int) (x : Int) : Bool := decide (0 ≤ x) && (decide (x < (lens.length : Int)) && !(lens.getD x.toNat 0 == 0))
def symB (lens : List Int) (x : Int) : List Bool := codeBits (codeAt lens x.toNat)
def symsB (lens l : List Int) (i : Nat) : List Bool := (l.take i).flatMap (symB lens)

theorem symsB_succ (lens l : List Int) {i : Nat} (h : i < l.length) : symsB lens l (i + 1) = symsB lens l i ++ symB lens l[i] := by
  unfold symsB
  rw [List.take_add_one, List.getElem?_eq_getElem h, List.flatMap_append]
  simp

theorem symsB_len (lens l : List Int) : ∀ i, i ≤ l.length → (symsB lens l i).length ≤ 32 * i
  | 0, _ => by simp [symsB]
  | i + 1, h => by
    have h1 := symsB_len lens l i (by omega)
    have h2 := codeBits_len (codeAt lens (l[i]'(by omega)).toNat)
    rw [symsB_succ lens l (by omega), List.length_append]
    unfold symB
    omega

theorem symsB_split (lens l : List Int) {i : Nat} (h : i ≤ l.length) : ∃ r, symsB lens l l.length = symsB lens l i ++ r := by
  refine ⟨(l.drop i).flatMap (symB lens), ?_⟩
  unfold symsB
  rw [← List.flatMap_append, List.take_append_drop, List.take_length]

theorem F9_writes {lens : List Int} (h : (chk lens).2 = 0) (l : List Int) (hl : l.length ≤ 340) (cnt : List Int) (lg : Int) (sy : List Int) : ∀ (d i f : Nat), i + d = l.length → d < f → (∀ j (hj : j < l.length), j < i → okS lens l[j] = true) →
    ∃ r, F9_4090 100000 f (lens, l, (i : Int), true, cnt, lg, codesOf lens, lastF (symsB lens l i), nF (symsB lens l i), sy, bF (symsB lens l i)) = some r ∧
      (r = .inl true ∨ (r = .inr (true, l, lastF (symsB lens l l.length), nF (symsB lens l l.length), cnt, lg, bF (symsB lens l l.length), sy) ∧ ∀ j (hj : j < l.length), okS lens l[j] = true)) := by
  obtain ⟨a1, a2⟩ := chk_ok h
  have hC := codesOf_len lens
  intro d
  induction d with
  | zero =>
    intro i f hi hf hok
    cases f with
    | zero => omega
    | succ f =>
      simp only [F9_4090, B9_4090, iteP_eq]
      rw [if_neg (by simp only [decide_eq_true_eq]; omega), show i = l.length by omega]
      exact ⟨_, rfl, .inr ⟨rfl, fun j hj => hok j hj (by omega)⟩⟩
  | succ d ih =>
    intro i f hi hf hok
    cases f with
    | zero => omega
    | succ f =>
      have hil : i < l.length := by omega
      have hw : IntKind.wrap .i64 ((i : Int) + 1) = ((i + 1 : Nat) : Int) := by rw [wrap_i64 (by omega) (by omega)]; omega
      have hwi : within (i : Int) l.length = true := by unfold within; simp only [decide_eq_true_eq]; omega
      have hcc : decide ((i : Int) < (l.length : Int)) = true := by simp only [decide_eq_true_eq]; omega
      have hg : l[i]? = some l[i] := List.getElem?_eq_getElem hil
      have hm := symsB_len lens l i (by omega)
      have hsu := symsB_succ lens l hil
      have ih' := ih (i + 1) f (by omega) (by omega)
      simp only [F9_4090, B9_4090, iteP_eq, hcc, hwi, hg, hw, Int.toNat_natCast, if_true, Option.bind_some, hC]
      by_cases h1 : l[i] < 0
      · rw [if_pos (by simpa using h1)]
        exact ⟨_, rfl, .inl rfl⟩
      rw [if_neg (by simpa using h1)]
      by_cases h2 : l[i] ≥ (lens.length : Int)
      · rw [if_pos (by simpa using h2)]
        exact ⟨_, rfl, .inl rfl⟩
      rw [if_neg (by simpa using h2)]
      have hwx : within l[i] lens.length = true := by unfold within; simp only [decide_eq_true_eq]; omega
      have hgx : lens[l[i].toNat]? = some (lens.getD l[i].toNat 0) := get_at (by omega)
      simp only [hwx, if_true, hgx, Option.bind_some]
      by_cases h3 : lens.getD l[i].toNat 0 = 0
      · rw [if_pos (by simpa using h3)]
        exact ⟨_, rfl, .inl rfl⟩
      rw [if_neg (by simpa using h3)]
      rw [codesOf_at lens (show l[i].toNat < lens.length by omega), Option.bind_some, F26_code (by decide) _ (by omega), Option.bind_some]
      rw [hsu] at ih'
      obtain ⟨r, r1, r2⟩ := ih' (fun j hj hji => by
        by_cases e : j = i
        · subst e
          unfold okS
          rw [decide_eq_true (by omega), decide_eq_true (by omega)]
          simpa using h3
        · exact hok j hj (by omega))
      have r1' : F9_4090 100000 f (lens, l, ((i + 1 : Nat) : Int), true, cnt, lg, codesOf lens, lastF (symsB lens l i ++ codeBits (codeAt lens l[i].toNat)), nF (symsB lens l i ++ codeBits (codeAt lens l[i].toNat)), sy, bF (symsB lens l i ++ codeBits (codeAt lens l[i].toNat))) = some r := r1
      rw [r1', Option.bind_some]
      refine ⟨r, ?_, r2⟩
      cases r <;> rfl

theorem F9_reads {lens : List Int} (h : (chk lens).2 = 0) (l : List Int) (hl : l.length ≤ 340) (hok : ∀ j (hj : j < l.length), okS lens l[j] = true) (s : ByteArray) (hs : allB s = alignL (symsB lens l l.length)) (a b : Int) (bb : List Int) : ∀ (d i f : Nat), i + d = l.length → d < f →
    F9_16378 100000 f (true, l, (i : Int), a, b, cntL lens, ((lgUp lens 15 : Nat) : Int), s, ((symsB lens l i).length : Int), 0, bb, symsUp lens 15) = some (.inr (true, s, ((symsB lens l l.length).length : Int), 0, a, b, bb)) := by
  obtain ⟨a1, a2⟩ := chk_ok h
  have hal := allB_length s
  have hall := symsB_len lens l l.length (Nat.le_refl _)
  have halen := alignL_length (symsB lens l l.length)
  rw [← hs] at halen
  intro d
  induction d with
  | zero =>
    intro i f hi hf
    cases f with
    | zero => omega
    | succ f =>
      simp only [F9_16378, B9_16378, iteP_eq]
      rw [if_neg (by simp only [decide_eq_true_eq]; omega), show i = l.length by omega]
  | succ d ih =>
    intro i f hi hf
    cases f with
    | zero => omega
    | succ f =>
      have hil : i < l.length := by omega
      have ih' := ih (i + 1) f (by omega) (by omega)
      have hw : IntKind.wrap .i64 ((i : Int) + 1) = ((i + 1 : Nat) : Int) := by rw [wrap_i64 (by omega) (by omega)]; omega
      have hwi : within (i : Int) l.length = true := by unfold within; simp only [decide_eq_true_eq]; omega
      have hcc : decide ((i : Int) < (l.length : Int)) = true := by simp only [decide_eq_true_eq]; omega
      have hg : l[i]? = some l[i] := List.getElem?_eq_getElem hil
      have hsu := symsB_succ lens l hil
      obtain ⟨rest, hrest⟩ := symsB_split lens l (i := i + 1) (by omega)
      have ho := hok i hil
      unfold okS at ho
      simp only [Bool.and_eq_true, decide_eq_true_eq, Bool.not_eq_true', beq_eq_false_iff_ne] at ho
      obtain ⟨o1, o2, o3⟩ := ho
      have hxl : l[i].toNat < lens.length := by omega
      obtain ⟨b1, b2⟩ := okB_at a2 hxl
      rw [← getD_at hxl] at b1 b2
      obtain ⟨c1, c2⟩ := code_bits_at h hxl (by omega)
      have hlenr : (symsB lens l l.length).length = (symsB lens l i).length + (lens.getD l[i].toNat 0).toNat + rest.length := by
        rw [hrest, hsu, List.length_append, List.length_append]
        unfold symB
        rw [c1]
      have hd := dec_code h hxl (by omega) (allB s) (symsB lens l i).length (fun k hk => by
        rw [hs]
        unfold alignL
        rw [List.getElem?_append_left (by omega), hrest, hsu, List.append_assoc, List.getElem?_append_right (by omega), Nat.add_sub_cancel_left]
        unfold symB
        rw [List.getElem?_append_left (by omega)]
        exact c2 k hk) (lens.getD l[i].toNat 0).toNat 0 (by omega) (by omega)
      have hlt := codeN_lt h hxl (by omega)
      rw [Nat.sub_zero, Nat.sub_zero, Nat.div_eq_of_lt hlt, Nat.add_zero] at hd
      simp only [F9_16378, B9_16378, iteP_eq, hcc, hwi, hg, hw, Int.toNat_natCast, if_true, Option.bind_some]
      rw [F23_next (by decide) lens a1 s (by omega) _ (by omega) hd, Option.bind_some]
      simp only
      rw [if_neg (by simp; omega), if_neg (by simp)]
      have hl1 : (symsB lens l (i + 1)).length = (symsB lens l i).length + (lens.getD l[i].toNat 0).toNat := by
        rw [hsu, List.length_append]; unfold symB; rw [c1]
      rw [hl1] at ih'
      rw [show (if (0 : Int) = 2 then (2 : Int) else 0) = 0 from rfl, ih', Option.bind_some]

theorem law9 (hw : F11 100000 () = some true) (lens l : List Int) : F9 100000 (lens, l) = some true := by
  simp only [F9, iteP_eq]
  rw [hw, Option.bind_some, if_neg (by decide)]
  by_cases h1 : (340 : Int) < (lens.length : Int)
  · rw [if_pos (by simpa using h1)]
  rw [if_neg (by simpa using h1)]
  by_cases h2 : (340 : Int) < (l.length : Int)
  · rw [if_pos (by simpa using h2)]
  rw [if_neg (by simpa using h2)]
  rw [F14_codes (by decide), Option.bind_some, F20_new (by decide), Option.bind_some]
  by_cases h : (chk lens).2 = 0
  · obtain ⟨a1, a2⟩ := chk_ok h
    simp only [if_pos h]
    rw [if_neg (by simp), if_neg (by simp)]
    obtain ⟨r, r1, r2⟩ := F9_writes h l (by omega) (cntL lens) ((lgUp lens 15 : Nat) : Int) (symsUp lens 15) l.length 0 100000 (by omega) (by omega) (fun j _ h => by omega)
    rw [show ((0 : Nat) : Int) = 0 from rfl] at r1
    rw [show symsB lens l 0 = [] from rfl, show lastF [] = 0 from rfl, show nF [] = 0 from rfl, show bF [] = [] from rfl] at r1
    rw [r1, Option.bind_some]
    rcases r2 with rfl | ⟨rfl, hok⟩
    · rfl
    · have hm := symsB_len lens l l.length (Nat.le_refl _)
      simp only
      rw [F27_string _ _ (by omega), Option.bind_some]
      have e22 : ∀ s, F22 100000 s = some (s, 0, 0) := fun s => rfl
      rw [e22, Option.bind_some]
      simp only
      have hr := F9_reads h l (by omega) hok (strF (symsB lens l l.length)) (allB_strF _) (lastF (symsB lens l l.length)) (nF (symsB lens l l.length)) (bF (symsB lens l l.length)) l.length 0 100000 (by omega) (by omega)
      rw [show ((0 : Nat) : Int) = 0 from rfl] at hr
      rw [show (((symsB lens l 0).length : Nat) : Int) = 0 from rfl] at hr
      rw [hr, Option.bind_some]
      simp only [if_true]
      have e25 : ∀ (q : ByteArray) (a b : Int), F25 100000 (q, a, b, ()) = some a := fun q a b => rfl
      rw [e25, Option.bind_some, F28_len _ _ (by omega), Option.bind_some]
      simp
  · simp only [if_neg h]
    rw [if_pos (by simpa using h)]
    simp
end Go.Proofs.Ytpjkklailofkjaa.Am
