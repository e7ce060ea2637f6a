/- The Lean function that HuffmanLengths comes to answers true at every input. -/
import Derived.Test.YtpjkklailofkjaaSC
import Derived.Test.YtpjkklailofkjaaAmC
import Derived.Test.YtpjkklailofkjaaSD
import Derived.Test.YtpjkklailofkjaaPS
import Derived.Test.YtpjkklailofkjaaPM
namespace Go.Proofs.Ytpjkklailofkjaa.Am
open Go.Am
set_option linter.unusedSimpArgs false
set_option linter.unusedVariables false

/-! ### Lengths of codes: how many of each -/
def cntL (p : List Int) : List Int := (List.range 16).map fun (l : Nat) => ((p.count (l : Int) : Nat) : Int)
theorem cntL_len (p : List Int) : (cntL p).length = 16 := by simp [cntL]
theorem cntL_get (p : List Int) {k : Nat} (h : k < 16) : (cntL p)[k]? = some (p.count (k : Int) : Int) := by
  unfold cntL; rw [List.getElem?_map, List.getElem?_range h]; rfl

theorem cntL_snoc (p : List Int) {x : Nat} (hx : x < 16) : (cntL p).set x ((p.count (x : Int) : Int) + 1) = cntL (p ++ [(x : Int)]) := by
  apply List.ext_getElem?
  intro k
  by_cases hk : k < 16
  · rw [cntL_get _ hk, List.count_append]
    by_cases e : x = k
    · subst e
      rw [List.getElem?_set_self (by rw [cntL_len]; exact hx)]
      simp
    · rw [List.getElem?_set_ne e, cntL_get _ hk, List.count_singleton]
      have : ((x : Int) == (k : Int)) = false := by simp; omega
      simp [this]
  · rw [List.getElem?_eq_none (by rw [List.length_set, cntL_len]; omega), List.getElem?_eq_none (by rw [cntL_len]; omega)]

def okB (lens : List Int) : Bool := lens.all fun x => decide (0 ≤ x) && decide (x ≤ 15)

theorem okB_at {lens : List Int} (h : okB lens = true) {i : Nat} (hi : i < lens.length) : 0 ≤ lens[i] ∧ lens[i] ≤ 15 := by
  have := List.all_eq_true.1 h _ (List.getElem_mem hi)
  simpa using this

theorem F36_loop (N : Nat) (lens m : List Int) (hl : lens.length ≤ 320) : ∀ (d i f : Nat), i + d = lens.length → d < f →
    (okB (lens.drop i) = true → F36_122 N f ((lens.length : Int), lens, (i : Int), cntL (lens.take i), m) = some (.inr (cntL lens, m))) ∧
    (okB (lens.drop i) = false → ∃ c, F36_122 N f ((lens.length : Int), lens, (i : Int), cntL (lens.take i), m) = some (.inl (50, c))) := by
  intro d
  induction d with
  | zero =>
    intro i f hi hf
    cases f with
    | zero => omega
    | succ f =>
      have e : lens.drop i = [] := List.drop_eq_nil_of_le (by omega)
      rw [e]
      refine ⟨fun _ => ?_, fun h => by cases h⟩
      simp only [F36_122, B36_122, iteP_eq]
      rw [if_neg (by simp only [decide_eq_true_eq]; omega), List.take_of_length_le (by omega)]
  | succ d ih =>
    intro i f hi hf
    cases f with
    | zero => omega
    | succ f =>
      have hd : lens.drop i = lens[i] :: lens.drop (i + 1) := List.drop_eq_getElem_cons (by omega)
      have ih' := ih (i + 1) f (by omega) (by omega)
      have hw : IntKind.wrap .i64 ((i : Int) + 1) = ((i + 1 : Nat) : Int) := by rw [wrap_i64 (by omega) (by omega)]; omega
      have ht : lens.take (i + 1) = lens.take i ++ [lens[i]] := by rw [List.take_add_one, List.getElem?_eq_getElem (by omega)]; rfl
      have hok : okB (lens.drop i) = ((decide (0 ≤ lens[i]) && decide (lens[i] ≤ 15)) && okB (lens.drop (i + 1))) := by rw [hd]; rfl
      simp only [F36_122, B36_122, iteP_eq]
      rw [if_pos (show decide ((i : Int) < (lens.length : Int)) = true by simp only [decide_eq_true_eq]; omega), if_pos (show within (i : Int) lens.length = true by unfold within; simp only [decide_eq_true_eq]; omega), Int.toNat_natCast, List.getElem?_eq_getElem (show i < lens.length by omega), Option.bind_some]
      by_cases h1 : lens[i] < 0
      · have hf : okB (lens.drop i) = false := by rw [hok, decide_eq_false (show ¬ 0 ≤ lens[i] by omega)]; rfl
        rw [hf, if_pos (by simpa using h1)]
        exact ⟨fun h => (by cases h), fun _ => ⟨_, rfl⟩⟩
      by_cases h2 : lens[i] > 15
      · have hf : okB (lens.drop i) = false := by rw [hok, decide_eq_false (show ¬ lens[i] ≤ 15 by omega), Bool.and_false]; rfl
        rw [hf, if_neg (by simpa using h1), if_pos (by simpa using h2)]
        exact ⟨fun h => (by cases h), fun _ => ⟨_, rfl⟩⟩
      have hok2 : okB (lens.drop i) = okB (lens.drop (i + 1)) := by rw [hok, decide_eq_true (show 0 ≤ lens[i] by omega), decide_eq_true (show lens[i] ≤ 15 by omega)]; rfl
      obtain ⟨x, hx⟩ := Int.eq_ofNat_of_zero_le (show 0 ≤ lens[i] by omega)
      rw [hok2, if_neg (by simpa using h1), if_neg (by simpa using h2)]
      rw [ht] at ih'
      rw [hx] at ih' ⊢
      have hx16 : x < 16 := by omega
      have hcl : (lens.take i).count (x : Int) ≤ 320 := Nat.le_trans List.count_le_length (by rw [List.length_take]; omega)
      rw [if_pos (show within (x : Int) 16 = true by unfold within; simp only [decide_eq_true_eq]; omega), Int.toNat_natCast, cntL_get _ hx16, Option.bind_some, if_pos (show within (x : Int) 16 = true by unfold within; simp only [decide_eq_true_eq]; omega), Option.bind_some, hw, wrap_i64 (by omega) (by omega), cntL_snoc _ hx16]
      refine ⟨fun h => ?_, fun h => ?_⟩
      · rw [ih'.1 h]; rfl
      · obtain ⟨c, hc⟩ := ih'.2 h
        rw [hc]
        exact ⟨c, rfl⟩

/-- May the lengths be, as far as each one goes? -/
def okL (lens : List Int) : Bool := decide (lens.length ≤ 320) && okB lens

theorem cntL_nil : cntL [] = [0, 0, 0, 0, 0, 0, 0, 0, 0, 0, 0, 0, 0, 0, 0, 0] := rfl

theorem F36_spec {N : Nat} (hN : 400 ≤ N) (lens : List Int) : ∃ c, F36 N lens = some (c, bif okL lens then 0 else 50) ∧ (okL lens = true → c = cntL lens) := by
  unfold okL
  simp only [F36, iteP_eq]
  by_cases h : (320 : Int) < (lens.length : Int)
  · rw [if_pos (by simpa using h), decide_eq_false (show ¬ lens.length ≤ 320 by omega)]
    exact ⟨_, rfl, fun hh => by cases hh⟩
  · rw [if_neg (by simpa using h), decide_eq_true (show lens.length ≤ 320 by omega), Bool.true_and]
    have hl := F36_loop N lens [0, 0, 0, 0, 0, 0, 0, 0, 0, 0, 0, 0, 0, 0, 0, 0] (by omega) lens.length 0 N (by omega) (by omega)
    rw [List.drop_zero, List.take_zero, cntL_nil, show ((0 : Nat) : Int) = 0 from rfl] at hl
    cases hb : okB lens with
    | true =>
      rw [hl.1 hb, Option.bind_some]
      exact ⟨_, rfl, fun _ => rfl⟩
    | false =>
      obtain ⟨c, hc⟩ := hl.2 hb
      rw [hc, Option.bind_some]
      exact ⟨_, rfl, fun h => by cases h⟩

/-! ### The room that is left -/
def lf (lens : List Int) : Nat → Int
  | 0 => 1
  | l + 1 => 2 * lf lens l - (lens.count ((l + 1 : Nat) : Int) : Int)

theorem lf_neg (lens : List Int) (l k : Nat) (h : lf lens l < 0) : lf lens (l + k) < 0 := by
  induction k with
  | zero => exact h
  | succ k ih => rw [← Nat.add_assoc, lf]; omega

theorem lf_le (lens : List Int) : ∀ l, lf lens l ≤ 2 ^ l
  | 0 => by rw [lf]; decide
  | l + 1 => by
    have := lf_le lens l
    rw [lf, Int.pow_succ]
    omega

theorem F12_loop (N : Nat) (lens : List Int) (hl : lens.length ≤ 320) : ∀ (d l f : Nat), l + d = 15 → d + 1 < f → 0 ≤ lf lens l →
    ∃ z, F12_122 N f (lf lens l, 0, ((l + 1 : Nat) : Int), cntL lens) = some (if 0 ≤ lf lens 15 then (lf lens 15, 0) else (z, 50)) := by
  intro d
  induction d with
  | zero =>
    intro l f hi hf h0
    cases f with
    | zero => omega
    | succ f =>
      have : l = 15 := by omega
      subst this
      simp only [F12_122, B12_122, iteP_eq]
      refine ⟨0, ?_⟩
      rw [if_neg (by decide), if_pos h0]
  | succ d ih =>
    intro l f hi hf h0
    cases f with
    | zero => omega
    | succ f =>
      have hb := lf_le lens l
      have hp : (2 : Int) ^ l ≤ 32768 := by
        have : (2 : Nat) ^ l ≤ 2 ^ 15 := Nat.pow_le_pow_right (by decide) (by omega)
        have h2 : ((2 ^ l : Nat) : Int) ≤ ((2 ^ 15 : Nat) : Int) := Int.ofNat_le.2 this
        simpa using h2
      have hc : lens.count ((l + 1 : Nat) : Int) ≤ 320 := Nat.le_trans List.count_le_length hl
      have e : lf lens (l + 1) = 2 * lf lens l - (lens.count ((l + 1 : Nat) : Int) : Int) := rfl
      simp only [F12_122, B12_122, iteP_eq]
      rw [if_pos (by simp only [decide_eq_true_eq]; omega), if_pos (by simp), if_pos (show within ((l + 1 : Nat) : Int) 16 = true by unfold within; simp only [decide_eq_true_eq]; omega), Int.toNat_natCast, cntL_get _ (by omega), Option.bind_some, wrap_i64 (z := lf lens l * 2) (by omega) (by omega), wrap_i64 (z := lf lens l * 2 - _) (by omega) (by omega), wrap_i64 (z := ((l + 1 : Nat) : Int) + 1) (by omega) (by omega), show lf lens l * 2 - (lens.count ((l + 1 : Nat) : Int) : Int) = lf lens (l + 1) by rw [e]; omega]
      by_cases hneg : lf lens (l + 1) < 0
      · rw [if_pos (by simpa using hneg)]
        have h15 : lf lens 15 < 0 := by
          have := lf_neg lens (l + 1) (15 - (l + 1)) hneg
          rwa [show l + 1 + (15 - (l + 1)) = 15 by omega] at this
        cases f with
        | zero => omega
        | succ f =>
          simp only [F12_122, B12_122, iteP_eq]
          refine ⟨lf lens (l + 1), ?_⟩
          rw [if_neg (show ¬ 0 ≤ lf lens 15 by omega)]
          split <;> rfl
      · rw [if_neg (by simpa using hneg)]
        obtain ⟨z, hz⟩ := ih (l + 1) f (by omega) (by omega) (by omega)
        rw [show ((l + 1 : Nat) : Int) + 1 = ((l + 1 + 1 : Nat) : Int) by omega, hz]
        exact ⟨z, rfl⟩

/-- What 'Check' tells. -/
def chk (lens : List Int) : Int × Int := if okL lens = true ∧ 0 ≤ lf lens 15 then (lf lens 15, 0) else (0, 50)

theorem F12_chk {N : Nat} (hN : 400 ≤ N) (lens : List Int) : F12 N lens = some (chk lens) := by
  obtain ⟨c, hc, hcc⟩ := F36_spec hN lens
  unfold chk
  simp only [F12, iteP_eq]
  rw [hc, Option.bind_some]
  simp only
  cases hok : okL lens with
  | false =>
    rw [if_neg (by simp)]
    simp only [cond_false]
    cases N with
    | zero => omega
    | succ N =>
      simp only [F12_122, B12_122, iteP_eq]
      rw [if_pos (by decide), if_neg (by decide), Option.bind_some, if_pos (by decide)]
  | true =>
    rw [hcc hok]
    simp only [cond_true]
    have hl : lens.length ≤ 320 := by
      unfold okL at hok
      simp only [Bool.and_eq_true, decide_eq_true_eq] at hok
      exact hok.1
    obtain ⟨z, hz⟩ := F12_loop N lens hl 15 0 N (by omega) (by omega) (by rw [lf]; decide)
    have hz : F12_122 N N (1, 0, 1, cntL lens) = _ := hz
    rw [hz, Option.bind_some]
    by_cases h : 0 ≤ lf lens 15
    · have e1 : (if 0 ≤ lf lens 15 then (lf lens 15, (0 : Int)) else (z, 50)) = (lf lens 15, 0) := if_pos h
      have e2 : (if (True ∧ 0 ≤ lf lens 15) then (lf lens 15, (0 : Int)) else (0, 50)) = (lf lens 15, 0) := if_pos ⟨trivial, h⟩
      rw [e1, e2]
      rfl
    · have e1 : (if 0 ≤ lf lens 15 then (lf lens 15, (0 : Int)) else (z, 50)) = (z, 50) := if_neg h
      have e2 : (if (True ∧ 0 ≤ lf lens 15) then (lf lens 15, (0 : Int)) else (0, 50)) = (0, 50) := if_neg fun hh => h hh.2
      rw [e1, e2]
      rfl
end Go.Proofs.Ytpjkklailofkjaa.Am

namespace Go.Proofs.Ytpjkklailofkjaa.Am
open Go.Am
set_option linter.unusedSimpArgs false
set_option linter.unusedVariables false

/-! ### The document's room -/
theorem F37_loop (N : Nat) (k : Nat) (hk : k ≤ 60) : ∀ (d i f : Nat), i + d = k → d < f → F37_58 N f ((2 : Int) ^ i, (i : Int), (k : Int)) = some ((2 : Int) ^ k) := by
  intro d
  induction d with
  | zero =>
    intro i f hi hf
    cases f with
    | zero => omega
    | succ f =>
      simp only [F37_58, B37_58, iteP_eq]
      rw [if_neg (by simp only [decide_eq_true_eq]; omega), show i = k by omega]
  | succ d ih =>
    intro i f hi hf
    cases f with
    | zero => omega
    | succ f =>
      have hp : (2 : Int) ^ i ≤ 1152921504606846976 := by
        have : (2 : Nat) ^ i ≤ 2 ^ 60 := Nat.pow_le_pow_right (by decide) (by omega)
        have h2 : ((2 ^ i : Nat) : Int) ≤ ((2 ^ 60 : Nat) : Int) := Int.ofNat_le.2 this
        simpa using h2
      have hp0 : (0 : Int) < 2 ^ i := Int.pow_pos (by decide)
      simp only [F37_58, B37_58, iteP_eq]
      rw [if_pos (by simp only [decide_eq_true_eq]; omega), wrap_i64 (z := 2 ^ i * 2) (by omega) (by omega), wrap_i64 (by omega) (by omega), ← Int.pow_succ, show ((i : Int) + 1) = ((i + 1 : Nat) : Int) by omega, ih (i + 1) f (by omega) (by omega), Option.bind_some]

theorem F37_pow {N : Nat} (hN : 61 < N) (k : Nat) (hk : k ≤ 60) : F37 N (k : Int) = some ((2 : Int) ^ k) := by
  simp only [F37, iteP_eq]
  have := F37_loop N k hk k 0 N (by omega) (by omega)
  rw [Int.pow_zero, show ((0 : Nat) : Int) = 0 from rfl] at this
  rw [this, Option.bind_some]

/-- What the codes of some lengths take, of 32768. -/
def took : List Int → Int
  | [] => 0
  | x :: l => (if 0 < x then (2 : Int) ^ (15 - x).toNat else 0) + took l

theorem took_append : ∀ a b : List Int, took (a ++ b) = took a + took b
  | [], b => by simp [took]
  | x :: a, b => by rw [List.cons_append, took, took, took_append a b]; omega

theorem took_le : ∀ l : List Int, 0 ≤ took l ∧ took l ≤ 32768 * l.length
  | [] => by simp [took]
  | x :: l => by
    have := took_le l
    rw [took]
    have hp : 0 < x → (2 : Int) ^ (15 - x).toNat ≤ 32768 := fun hx => by
      have : (2 : Nat) ^ (15 - x).toNat ≤ 2 ^ 15 := Nat.pow_le_pow_right (by decide) (by omega)
      have h2 : ((2 ^ (15 - x).toNat : Nat) : Int) ≤ ((2 ^ 15 : Nat) : Int) := Int.ofNat_le.2 this
      simpa using h2
    have hp0 : (0 : Int) < 2 ^ (15 - x).toNat := Int.pow_pos (by decide)
    simp only [List.length_cons]
    split
    · have := hp (by assumption)
      omega
    · omega

theorem F13_loop (N : Nat) (hN : 100 ≤ N) (lens : List Int) (hl : lens.length ≤ 320) : ∀ (d i f : Nat), i + d = lens.length → d < f →
    (okB (lens.drop i) = true → F13_122 N f (lens, (i : Int), 32768 - took (lens.take i)) = some (.inr (32768 - took lens))) ∧
    (okB (lens.drop i) = false → F13_122 N f (lens, (i : Int), 32768 - took (lens.take i)) = some (.inl (0, 50))) := by
  intro d
  induction d with
  | zero =>
    intro i f hi hf
    cases f with
    | zero => omega
    | succ f =>
      have e : lens.drop i = [] := List.drop_eq_nil_of_le (by omega)
      rw [e]
      refine ⟨fun _ => ?_, fun h => by cases h⟩
      simp only [F13_122, B13_122, iteP_eq]
      rw [if_neg (by simp only [decide_eq_true_eq]; omega), List.take_of_length_le (by omega)]
  | succ d ih =>
    intro i f hi hf
    cases f with
    | zero => omega
    | succ f =>
      have hd : lens.drop i = lens[i] :: lens.drop (i + 1) := List.drop_eq_getElem_cons (by omega)
      have ih' := ih (i + 1) f (by omega) (by omega)
      have hw : IntKind.wrap .i64 ((i : Int) + 1) = ((i + 1 : Nat) : Int) := by rw [wrap_i64 (by omega) (by omega)]; omega
      have ht : lens.take (i + 1) = lens.take i ++ [lens[i]] := by rw [List.take_add_one, List.getElem?_eq_getElem (by omega)]; rfl
      have hok : okB (lens.drop i) = ((decide (0 ≤ lens[i]) && decide (lens[i] ≤ 15)) && okB (lens.drop (i + 1))) := by rw [hd]; rfl
      have hc : decide ((i : Int) < (lens.length : Int)) = true := by simp only [decide_eq_true_eq]; omega
      have hwi : within (i : Int) lens.length = true := by unfold within; simp only [decide_eq_true_eq]; omega
      have hg : lens[i]? = some lens[i] := List.getElem?_eq_getElem (by omega)
      simp only [F13_122, B13_122, hc, hwi, hg, Int.toNat_natCast, if_true, Option.bind_some, hw, iteP_eq]
      by_cases h1 : lens[i] < 0
      · have hf : okB (lens.drop i) = false := by rw [hok, decide_eq_false (show ¬ 0 ≤ lens[i] by omega)]; rfl
        rw [hf, if_pos (by simpa using h1)]
        exact ⟨fun h => (by cases h), fun _ => rfl⟩
      rw [if_neg (by simpa using h1)]
      by_cases h2 : lens[i] > 15
      · have hf : okB (lens.drop i) = false := by rw [hok, decide_eq_false (show ¬ lens[i] ≤ 15 by omega), Bool.and_false]; rfl
        rw [hf, if_pos (by simpa using h2)]
        exact ⟨fun h => (by cases h), fun _ => rfl⟩
      rw [if_neg (by simpa using h2)]
      have hok2 : okB (lens.drop i) = okB (lens.drop (i + 1)) := by rw [hok, decide_eq_true (show 0 ≤ lens[i] by omega), decide_eq_true (show lens[i] ≤ 15 by omega)]; rfl
      have htk : took (lens.take (i + 1)) = took (lens.take i) + (if 0 < lens[i] then (2 : Int) ^ (15 - lens[i]).toNat else 0) := by rw [ht, took_append]; simp [took]
      have tb := took_le (lens.take i)
      have tl : (lens.take i).length ≤ 320 := by rw [List.length_take]; omega
      rw [hok2]
      rw [htk] at ih'
      by_cases h3 : 0 < lens[i]
      · rw [if_pos (by simpa using h3)]
        rw [if_pos h3] at ih'
        obtain ⟨k, hk⟩ := Int.eq_ofNat_of_zero_le (show 0 ≤ 15 - lens[i] by omega)
        have hpk : (2 : Int) ^ k ≤ 32768 := by
          have : (2 : Nat) ^ k ≤ 2 ^ 15 := Nat.pow_le_pow_right (by decide) (by omega)
          have h2 : ((2 ^ k : Nat) : Int) ≤ ((2 ^ 15 : Nat) : Int) := Int.ofNat_le.2 this
          simpa using h2
        have hp0 : (0 : Int) < 2 ^ k := Int.pow_pos (by decide)
        rw [hk, Int.toNat_natCast] at ih'
        rw [wrap_i64 (z := 15 - lens[i]) (by omega) (by omega), hk, F37_pow (by omega) k (by omega), Option.bind_some, wrap_i64 (by omega) (by omega), show 32768 - took (lens.take i) - 2 ^ k = 32768 - (took (lens.take i) + 2 ^ k) by omega]
        exact ⟨fun h => by rw [ih'.1 h]; rfl, fun h => by rw [ih'.2 h]; rfl⟩
      · rw [if_neg (by simpa using h3)]
        rw [if_neg h3, Int.add_zero] at ih'
        exact ⟨fun h => by rw [ih'.1 h]; rfl, fun h => by rw [ih'.2 h]; rfl⟩

/-- Both rooms are the same. -/
def tookTo (l : Nat) : List Int → Int
  | [] => 0
  | x :: r => (if 0 < x ∧ x ≤ (l : Int) then (2 : Int) ^ (15 - x).toNat else 0) + tookTo l r

theorem tookTo_succ (l : Nat) (hl : l < 15) : ∀ r : List Int, tookTo (l + 1) r = tookTo l r + (r.count ((l + 1 : Nat) : Int) : Int) * 2 ^ (15 - (l + 1))
  | [] => by simp [tookTo]
  | x :: r => by
    rw [tookTo, tookTo, tookTo_succ l hl r, List.count_cons]
    by_cases e : x = ((l + 1 : Nat) : Int)
    · subst e
      rw [if_pos (by omega), if_neg (by omega)]
      have : (15 - ((l + 1 : Nat) : Int)).toNat = 15 - (l + 1) := by omega
      rw [this]
      simp only [beq_self_eq_true, if_true, Int.natCast_add, Int.natCast_one, Int.add_mul, Int.one_mul, Int.zero_add]
      omega
    · have hb : (x == ((l + 1 : Nat) : Int)) = false := by simpa using e
      rw [hb]
      simp only [Bool.false_eq_true, if_false, Nat.add_zero]
      by_cases h : 0 < x ∧ x ≤ (l : Int)
      · rw [if_pos h, if_pos (by omega)]; omega
      · rw [if_neg h, if_neg (by omega)]; omega

theorem tookTo_zero : ∀ r : List Int, tookTo 0 r = 0
  | [] => rfl
  | x :: r => by rw [tookTo, tookTo_zero r, if_neg (by omega)]; rfl

theorem tookTo_all : ∀ r : List Int, okB r = true → tookTo 15 r = took r
  | [], _ => rfl
  | x :: r, h => by
    have h' : (decide (0 ≤ x) && decide (x ≤ 15)) = true ∧ okB r = true := by
      unfold okB at h ⊢
      rw [List.all_cons, Bool.and_eq_true] at h
      exact h
    simp only [Bool.and_eq_true, decide_eq_true_eq] at h'
    rw [tookTo, took, tookTo_all r h'.2]
    by_cases h0 : 0 < x
    · rw [if_pos h0, if_pos (by omega)]
    · rw [if_neg h0, if_neg (by omega)]

theorem lf_took (lens : List Int) : ∀ l, l ≤ 15 → lf lens l * 2 ^ (15 - l) = 32768 - tookTo l lens
  | 0, _ => by rw [lf, tookTo_zero]; decide
  | l + 1, h => by
    have ih := lf_took lens l (by omega)
    rw [tookTo_succ l (by omega), lf, Int.sub_mul, Int.mul_assoc, Int.mul_comm 2, Int.mul_assoc, Int.mul_comm _ 2]
    have e : (2 : Int) ^ (15 - l) = 2 * 2 ^ (15 - (l + 1)) := by
      rw [show 15 - l = (15 - (l + 1)) + 1 by omega, Int.pow_succ, Int.mul_comm]
    rw [e] at ih
    omega

theorem F13_chk {N : Nat} (hN : 400 ≤ N) (lens : List Int) : F13 N lens = some (chk lens) := by
  unfold chk okL
  simp only [F13, iteP_eq]
  by_cases h : (320 : Int) < (lens.length : Int)
  · rw [if_pos (by simpa using h), decide_eq_false (show ¬ lens.length ≤ 320 by omega)]
    rfl
  · rw [if_neg (by simpa using h), decide_eq_true (show lens.length ≤ 320 by omega), Bool.true_and]
    have hl := F13_loop N (by omega) lens (by omega) lens.length 0 N (by omega) (by omega)
    rw [List.drop_zero, List.take_zero, show took [] = 0 from rfl, show ((0 : Nat) : Int) = 0 from rfl, show (32768 : Int) - 0 = 32768 from rfl] at hl
    cases hb : okB lens with
    | true =>
      rw [hl.1 hb, Option.bind_some]
      have e := lf_took lens 15 (by omega)
      rw [tookTo_all lens hb] at e
      have e : lf lens 15 = 32768 - took lens := by simpa using e
      simp only
      rw [← e]
      by_cases hn : lf lens 15 < 0
      · rw [if_pos (by simpa using hn), if_neg (by omega)]
      · rw [if_neg (by simpa using hn), if_pos ⟨trivial, by omega⟩]
    | false =>
      rw [hl.2 hb, Option.bind_some]
      rfl
end Go.Proofs.Ytpjkklailofkjaa.Am

namespace Go.Proofs.Ytpjkklailofkjaa.Am
open Go.Am
set_option linter.unusedSimpArgs false
set_option linter.unusedVariables false

/-! ### Codes -/
abbrev Cod := Int × (Int × Unit)
/-- The first code of a length. -/
def first (lens : List Int) : Nat → Nat
  | 0 => 0
  | 1 => 0
  | l + 2 => 2 * (first lens (l + 1) + lens.count ((l + 1 : Nat) : Int))

theorem first_le (lens : List Int) (hl : lens.length ≤ 320) : ∀ l, first lens l + 640 ≤ 640 * 2 ^ l
  | 0 => by simp [first]
  | 1 => by simp [first]
  | l + 2 => by
    have := first_le lens hl (l + 1)
    have hc : lens.count ((l + 1 : Nat) : Int) ≤ 320 := Nat.le_trans List.count_le_length hl
    have hp : 1 ≤ 2 ^ l := Nat.one_le_two_pow
    rw [first]
    have e1 : 2 ^ (l + 1) = 2 * 2 ^ l := by rw [Nat.pow_succ]; omega
    have e2 : 2 ^ (l + 2) = 4 * 2 ^ l := by rw [Nat.pow_succ, e1]; omega
    rw [e1] at this
    rw [e2]
    generalize 2 ^ l = q at *
    omega

theorem first_small (lens : List Int) (hl : lens.length ≤ 320) {l : Nat} (h : l ≤ 15) : first lens l ≤ 20971520 := by
  have h1 := first_le lens hl l
  have h2 : 2 ^ l ≤ 2 ^ 15 := Nat.pow_le_pow_right (by decide) h
  omega

/-- A symbol's code. -/
def codeAt (lens : List Int) (i : Nat) : Cod :=
  let x := lens.getD i 0
  if 0 < x then (((first lens x.toNat + (lens.take i).count x : Nat) : Int), x, ()) else (0, 0, ())
def codesOf (lens : List Int) : List Cod := (List.range lens.length).map (codeAt lens)

/-- Codes of the symbols up to one. -/
def outTo (lens : List Int) (i : Nat) : List Cod := (List.range lens.length).map fun j => if j < i then codeAt lens j else (0, 0, ())
theorem outTo_len (lens : List Int) (i : Nat) : (outTo lens i).length = lens.length := by simp [outTo]
theorem outTo_get (lens : List Int) (i : Nat) {j : Nat} (h : j < lens.length) : (outTo lens i)[j]? = some (if j < i then codeAt lens j else (0, 0, ())) := by
  unfold outTo; rw [List.getElem?_map, List.getElem?_range h]; rfl

theorem outTo_set (lens : List Int) {i : Nat} (h : i < lens.length) : (outTo lens i).set i (codeAt lens i) = outTo lens (i + 1) := by
  apply List.ext_getElem?
  intro k
  by_cases hk : k < lens.length
  · rw [outTo_get _ _ hk]
    by_cases e : i = k
    · subst e
      rw [List.getElem?_set_self (by rw [outTo_len]; exact h), if_pos (by omega)]
    · rw [List.getElem?_set_ne e, outTo_get _ _ hk]
      by_cases hlt : k < i
      · rw [if_pos hlt, if_pos (by omega)]
      · rw [if_neg hlt, if_neg (by omega)]
  · rw [List.getElem?_eq_none (by rw [List.length_set, outTo_len]; omega), List.getElem?_eq_none (by rw [outTo_len]; omega)]

theorem outTo_skip (lens : List Int) {i : Nat} (h : i < lens.length) (h0 : ¬ 0 < lens[i]) : outTo lens i = outTo lens (i + 1) := by
  apply List.ext_getElem?
  intro k
  by_cases hk : k < lens.length
  · rw [outTo_get _ _ hk, outTo_get _ _ hk]
    by_cases e : k = i
    · subst e
      rw [if_neg (by omega), if_pos (by omega)]
      unfold codeAt
      have hg : lens.getD k 0 = lens[k] := by rw [List.getD, List.getElem?_eq_getElem h]; rfl
      rw [hg]
      simp only
      rw [if_neg h0]
    · by_cases hlt : k < i
      · rw [if_pos hlt, if_pos (by omega)]
      · rw [if_neg hlt, if_neg (by omega)]
  · rw [List.getElem?_eq_none (by rw [outTo_len]; omega), List.getElem?_eq_none (by rw [outTo_len]; omega)]

/-- The next code of each length, behind some symbols. -/
def nxt (lens : List Int) (i : Nat) : List Int := (List.range 16).map fun (k : Nat) => (((if k = 0 then 0 else first lens k + (lens.take i).count (k : Int)) : Nat) : Int)
theorem nxt_len (lens : List Int) (i : Nat) : (nxt lens i).length = 16 := by simp [nxt]
theorem nxt_get (lens : List Int) (i : Nat) {k : Nat} (h : k < 16) : (nxt lens i)[k]? = some (((if k = 0 then 0 else first lens k + (lens.take i).count (k : Int)) : Nat) : Int) := by
  unfold nxt; rw [List.getElem?_map, List.getElem?_range h]; rfl

theorem take_snoc {lens : List Int} {i : Nat} (h : i < lens.length) : lens.take (i + 1) = lens.take i ++ [lens[i]] := by
  rw [List.take_add_one, List.getElem?_eq_getElem h]; rfl

theorem nxt_set (lens : List Int) {i x : Nat} (h : i < lens.length) (hx : lens[i] = (x : Int)) (h0 : 0 < x) (h16 : x < 16) :
    (nxt lens i).set x (((first lens x + (lens.take i).count (x : Int) : Nat) : Int) + 1) = nxt lens (i + 1) := by
  apply List.ext_getElem?
  intro k
  by_cases hk : k < 16
  · rw [nxt_get _ _ hk, take_snoc h, hx, List.count_append]
    by_cases e : x = k
    · subst e
      rw [List.getElem?_set_self (by rw [nxt_len]; exact h16), if_neg (by omega)]
      simp
      omega
    · rw [List.getElem?_set_ne e, nxt_get _ _ hk, List.count_singleton]
      have : ((x : Int) == (k : Int)) = false := by simp; omega
      simp [this]
  · rw [List.getElem?_eq_none (by rw [List.length_set, nxt_len]; omega), List.getElem?_eq_none (by rw [nxt_len]; omega)]

theorem nxt_skip (lens : List Int) {i : Nat} (h : i < lens.length) (h0 : lens[i] = 0) : nxt lens i = nxt lens (i + 1) := by
  apply List.ext_getElem?
  intro k
  by_cases hk : k < 16
  · rw [nxt_get _ _ hk, nxt_get _ _ hk, take_snoc h, h0, List.count_append, List.count_singleton]
    by_cases e : k = 0
    · rw [if_pos e, if_pos e]
    · have : ((0 : Int) == (k : Int)) = false := by simp; omega
      rw [if_neg e, if_neg e, this]
      simp
  · rw [List.getElem?_eq_none (by rw [nxt_len]; omega), List.getElem?_eq_none (by rw [nxt_len]; omega)]

theorem F14_loop2 (N : Nat) (lens : List Int) (hl : lens.length ≤ 320) (hok : okB lens = true) : ∀ (d i f : Nat), i + d = lens.length → d < f →
    F14_1018 N f ((i : Int), (lens.length : Int), lens, outTo lens i, nxt lens i) = some (outTo lens lens.length) := by
  intro d
  induction d with
  | zero =>
    intro i f hi hf
    cases f with
    | zero => omega
    | succ f =>
      simp only [F14_1018, B14_1018, iteP_eq]
      rw [if_neg (by simp only [decide_eq_true_eq]; omega), show i = lens.length by omega]
  | succ d ih =>
    intro i f hi hf
    cases f with
    | zero => omega
    | succ f =>
      have hil : i < lens.length := by omega
      obtain ⟨b1, b2⟩ := okB_at hok hil
      obtain ⟨x, hx⟩ := Int.eq_ofNat_of_zero_le b1
      have ih' := ih (i + 1) f (by omega) (by omega)
      have hw : IntKind.wrap .i64 ((i : Int) + 1) = ((i + 1 : Nat) : Int) := by rw [wrap_i64 (by omega) (by omega)]; omega
      have hc : decide ((i : Int) < (lens.length : Int)) = true := by simp only [decide_eq_true_eq]; omega
      have hwi : within (i : Int) lens.length = true := by unfold within; simp only [decide_eq_true_eq]; omega
      have hg : lens[i]? = some lens[i] := List.getElem?_eq_getElem hil
      simp only [F14_1018, B14_1018, hc, hwi, hg, Int.toNat_natCast, if_true, Option.bind_some, hw, iteP_eq]
      by_cases h0 : 0 < lens[i]
      · have hx0 : 0 < x := by omega
        have hx16 : x < 16 := by omega
        have hwx : within (x : Int) 16 = true := by unfold within; simp only [decide_eq_true_eq]; omega
        have hwo : within (i : Int) (outTo lens i).length = true := by rw [outTo_len]; exact hwi
        have hng : (nxt lens i)[x]? = some (((first lens x + (lens.take i).count (x : Int) : Nat)) : Int) := by rw [nxt_get _ _ hx16, if_neg (by omega)]
        have hog := outTo_get lens i hil
        have hfs := first_small lens hl (show x ≤ 15 by omega)
        have hcl : (lens.take i).count (x : Int) ≤ 320 := Nat.le_trans List.count_le_length (by rw [List.length_take]; omega)
        have hca : codeAt lens i = ((((first lens x + (lens.take i).count (x : Int) : Nat)) : Int), (x : Int), ()) := by
          unfold codeAt
          have hgd : lens.getD i 0 = lens[i] := by rw [List.getD, hg]; rfl
          rw [hgd, hx]
          simp only [Int.toNat_natCast]
          rw [if_pos (by omega)]
        rw [if_pos (by simpa using h0), hx]
        simp only [hwx, hwo, hng, hog, Int.toNat_natCast, if_true, Option.bind_some]
        rw [← hca, outTo_set lens hil, wrap_i64 (by omega) (by omega), nxt_set lens hil hx hx0 hx16, ih', Option.bind_some]
      · rw [if_neg (by simpa using h0)]
        rw [outTo_skip lens hil h0, nxt_skip lens hil (by omega), ih', Option.bind_some]

/-- The first codes of the lengths up to one. -/
def fst16 (lens : List Int) (l : Nat) : List Int := (List.range 16).map fun (k : Nat) => (((if k ≤ l then first lens k else 0) : Nat) : Int)
theorem fst16_len (lens : List Int) (l : Nat) : (fst16 lens l).length = 16 := by simp [fst16]
theorem fst16_get (lens : List Int) (l : Nat) {k : Nat} (h : k < 16) : (fst16 lens l)[k]? = some (((if k ≤ l then first lens k else 0) : Nat) : Int) := by
  unfold fst16; rw [List.getElem?_map, List.getElem?_range h]; rfl

theorem fst16_set (lens : List Int) {l : Nat} (h : l + 1 < 16) : (fst16 lens l).set (l + 1) ((first lens (l + 1) : Nat) : Int) = fst16 lens (l + 1) := by
  apply List.ext_getElem?
  intro k
  by_cases hk : k < 16
  · rw [fst16_get _ _ hk]
    by_cases e : l + 1 = k
    · subst e
      rw [List.getElem?_set_self (by rw [fst16_len]; exact hk), if_pos (by omega)]
    · rw [List.getElem?_set_ne e, fst16_get _ _ hk]
      by_cases hlt : k ≤ l
      · rw [if_pos hlt, if_pos (by omega)]
      · rw [if_neg hlt, if_neg (by omega)]
  · rw [List.getElem?_eq_none (by rw [List.length_set, fst16_len]; omega), List.getElem?_eq_none (by rw [fst16_len]; omega)]

theorem F14_loop1 (N : Nat) (lens : List Int) (hl : lens.length ≤ 320) : ∀ (d l f : Nat), l + d = 14 → d + 1 < f →
    F14_250 N f (((l + 1 : Nat) : Int), lens, cntL lens, fst16 lens (l + 1)) = some (lens, fst16 lens 15) := by
  intro d
  induction d with
  | zero =>
    intro l f hi hf
    cases f with
    | zero => omega
    | succ f =>
      have : l = 14 := by omega
      subst this
      simp only [F14_250, B14_250, iteP_eq]
      rw [if_neg (by decide)]
  | succ d ih =>
    intro l f hi hf
    cases f with
    | zero => omega
    | succ f =>
      have ih' := ih (l + 1) f (by omega) (by omega)
      have hw : IntKind.wrap .i64 (((l + 1 : Nat) : Int) + 1) = ((l + 1 + 1 : Nat) : Int) := by rw [wrap_i64 (by omega) (by omega)]; omega
      have hc : decide (((l + 1 : Nat) : Int) < 15) = true := by simp only [decide_eq_true_eq]; omega
      have hwi : within ((l + 1 : Nat) : Int) 16 = true := by unfold within; simp only [decide_eq_true_eq]; omega
      have hwj : within ((l + 1 + 1 : Nat) : Int) 16 = true := by unfold within; simp only [decide_eq_true_eq]; omega
      have g1 : (fst16 lens (l + 1))[l + 1]? = some ((first lens (l + 1) : Nat) : Int) := by rw [fst16_get _ _ (by omega), if_pos (by omega)]
      have g2 := cntL_get lens (show l + 1 < 16 by omega)
      have g3 : (fst16 lens (l + 1))[l + 1 + 1]? = some (0 : Int) := by rw [fst16_get _ _ (by omega), if_neg (by omega)]; rfl
      have hfs := first_small lens hl (show l + 1 ≤ 15 by omega)
      have hcl : lens.count ((l + 1 : Nat) : Int) ≤ 320 := Nat.le_trans List.count_le_length hl
      simp only [F14_250, B14_250, hc, hwi, hw, hwj, g1, g2, g3, Int.toNat_natCast, if_true, Option.bind_some, iteP_eq]
      have e : IntKind.wrap .i64 (IntKind.wrap .i64 (((first lens (l + 1) : Nat) : Int) + (lens.count ((l + 1 : Nat) : Int) : Int)) * 2) = ((first lens (l + 1 + 1) : Nat) : Int) := by
        rw [wrap_i64 (z := ((first lens (l + 1) : Nat) : Int) + _) (by omega) (by omega), wrap_i64 (by omega) (by omega), first]; omega
      rw [e, fst16_set lens (show l + 1 + 1 < 16 by omega), ih', Option.bind_some]

theorem outTo_all (lens : List Int) : outTo lens lens.length = codesOf lens := by
  apply List.ext_getElem?
  intro k
  by_cases hk : k < lens.length
  · rw [outTo_get _ _ hk, if_pos hk]
    unfold codesOf
    rw [List.getElem?_map, List.getElem?_range hk]; rfl
  · rw [List.getElem?_eq_none (by rw [outTo_len]; omega), List.getElem?_eq_none (by simp [codesOf]; omega)]

theorem outTo_zero (lens : List Int) : outTo lens 0 = List.replicate lens.length (0, 0, ()) := by
  apply List.ext_getElem?
  intro k
  by_cases hk : k < lens.length
  · rw [outTo_get _ _ hk, if_neg (by omega), List.getElem?_replicate, if_pos hk]
  · rw [List.getElem?_eq_none (by rw [outTo_len]; omega), List.getElem?_eq_none (by simp; omega)]

theorem nxt_zero (lens : List Int) : nxt lens 0 = fst16 lens 15 := by
  apply List.ext_getElem?
  intro k
  by_cases hk : k < 16
  · rw [nxt_get _ _ hk, fst16_get _ _ hk, if_pos (show k ≤ 15 by omega)]
    by_cases e : k = 0
    · subst e; rfl
    · rw [if_neg e]; simp
  · rw [List.getElem?_eq_none (by rw [nxt_len]; omega), List.getElem?_eq_none (by rw [fst16_len]; omega)]

theorem fst16_one (lens : List Int) : fst16 lens (0 + 1) = [0, 0, 0, 0, 0, 0, 0, 0, 0, 0, 0, 0, 0, 0, 0, 0] := rfl

/-- What 'Codes' tells. -/
theorem F14_codes {N : Nat} (hN : 400 ≤ N) (lens : List Int) : F14 N lens = some (if (chk lens).2 = 0 then (0, codesOf lens) else ((chk lens).2, [])) := by
  obtain ⟨c, hc, hcc⟩ := F36_spec hN lens
  simp only [F14, iteP_eq]
  rw [F12_chk hN, Option.bind_some]
  by_cases h : (chk lens).2 = 0
  · have hok : okL lens = true := by
      unfold chk at h
      by_cases hh : okL lens = true ∧ 0 ≤ lf lens 15
      · exact hh.1
      · rw [if_neg hh] at h; cases h
    have hb : okB lens = true ∧ lens.length ≤ 320 := by
      unfold okL at hok
      simp only [Bool.and_eq_true, decide_eq_true_eq] at hok
      exact ⟨hok.2, hok.1⟩
    rw [if_neg (by simpa using h), if_pos h, hc, Option.bind_some, hcc hok]
    have l1 := F14_loop1 N lens hb.2 14 0 N (by omega) (by omega)
    rw [fst16_one] at l1
    simp only
    rw [show (((0 + 1 : Nat)) : Int) = 1 from rfl] at l1
    rw [l1, Option.bind_some]
    simp only
    have l2 := F14_loop2 N lens hb.2 hb.1 lens.length 0 N (by omega) (by omega)
    rw [outTo_zero, nxt_zero, outTo_all, show ((0 : Nat) : Int) = 0 from rfl] at l2
    rw [if_pos (by simp only [decide_eq_true_eq]; omega), Int.toNat_natCast, l2, Option.bind_some]
  · rw [if_pos (by simpa using h), if_neg h]
end Go.Proofs.Ytpjkklailofkjaa.Am

namespace Go.Proofs.Ytpjkklailofkjaa.Am
open Go.Am
set_option linter.unusedSimpArgs false
set_option linter.unusedVariables false

/-! ### The document's codes: length by length -/
/-- Codes of lengths below one, and of this one up to a symbol. -/
def outD (lens : List Int) (l i : Nat) : List Cod := (List.range lens.length).map fun j =>
  if 0 < lens.getD j 0 ∧ (lens.getD j 0 < (l : Int) ∨ (lens.getD j 0 = (l : Int) ∧ j < i)) then codeAt lens j else (0, 0, ())
theorem outD_len (lens : List Int) (l i : Nat) : (outD lens l i).length = lens.length := by simp [outD]
theorem outD_get (lens : List Int) (l i : Nat) {j : Nat} (h : j < lens.length) : (outD lens l i)[j]? = some (if 0 < lens.getD j 0 ∧ (lens.getD j 0 < (l : Int) ∨ (lens.getD j 0 = (l : Int) ∧ j < i)) then codeAt lens j else (0, 0, ())) := by
  unfold outD; rw [List.getElem?_map, List.getElem?_range h]; rfl

theorem outD_ext {lens : List Int} {l i l' i' : Nat} (h : ∀ j, j < lens.length → ((0 < lens.getD j 0 ∧ (lens.getD j 0 < (l : Int) ∨ (lens.getD j 0 = (l : Int) ∧ j < i))) ↔ (0 < lens.getD j 0 ∧ (lens.getD j 0 < (l' : Int) ∨ (lens.getD j 0 = (l' : Int) ∧ j < i'))))) : outD lens l i = outD lens l' i' := by
  apply List.ext_getElem?
  intro k
  by_cases hk : k < lens.length
  · rw [outD_get _ _ _ hk, outD_get _ _ _ hk]
    have := h k hk
    by_cases hp : (0 < lens.getD k 0 ∧ (lens.getD k 0 < (l : Int) ∨ (lens.getD k 0 = (l : Int) ∧ k < i)))
    · rw [if_pos hp, if_pos (this.1 hp)]
    · rw [if_neg hp, if_neg (fun hq => hp (this.2 hq))]
  · rw [List.getElem?_eq_none (by rw [outD_len]; omega), List.getElem?_eq_none (by rw [outD_len]; omega)]

theorem outD_set {lens : List Int} {l i : Nat} (h : i < lens.length) (hl : lens.getD i 0 = (l : Int)) (h0 : 0 < l) : (outD lens l i).set i (codeAt lens i) = outD lens l (i + 1) := by
  apply List.ext_getElem?
  intro k
  by_cases hk : k < lens.length
  · rw [outD_get _ _ _ hk]
    by_cases e : i = k
    · subst e
      rw [List.getElem?_set_self (by rw [outD_len]; exact h), if_pos ⟨by omega, .inr ⟨hl, by omega⟩⟩]
    · rw [List.getElem?_set_ne e, outD_get _ _ _ hk]
      by_cases hp : (0 < lens.getD k 0 ∧ (lens.getD k 0 < (l : Int) ∨ (lens.getD k 0 = (l : Int) ∧ k < i)))
      · rw [if_pos hp, if_pos ⟨hp.1, hp.2.imp id fun q => ⟨q.1, by omega⟩⟩]
      · rw [if_neg hp, if_neg (fun hq => hp ⟨hq.1, hq.2.imp id fun q => ⟨q.1, by omega⟩⟩)]
  · rw [List.getElem?_eq_none (by rw [List.length_set, outD_len]; omega), List.getElem?_eq_none (by rw [outD_len]; omega)]

theorem F16_inner (N : Nat) (lens : List Int) (hl : lens.length ≤ 320) (l : Nat) (h0 : 0 < l) (h15 : l ≤ 15) : ∀ (d i f : Nat), i + d = lens.length → d < f →
    F16_15654 N f (((first lens l + (lens.take i).count (l : Int) : Nat) : Int), (i : Int), lens, (l : Int), outD lens l i) =
      some ((l : Int), ((first lens l + lens.count (l : Int) : Nat) : Int), lens, outD lens l lens.length) := by
  intro d
  induction d with
  | zero =>
    intro i f hi hf
    cases f with
    | zero => omega
    | succ f =>
      simp only [F16_15654, B16_15654, iteP_eq]
      rw [if_neg (by simp only [decide_eq_true_eq]; omega), List.take_of_length_le (by omega), show i = lens.length by omega]
  | succ d ih =>
    intro i f hi hf
    cases f with
    | zero => omega
    | succ f =>
      have hil : i < lens.length := by omega
      have ih' := ih (i + 1) f (by omega) (by omega)
      have hw : IntKind.wrap .i64 ((i : Int) + 1) = ((i + 1 : Nat) : Int) := by rw [wrap_i64 (by omega) (by omega)]; omega
      have hc : decide ((i : Int) < (lens.length : Int)) = true := by simp only [decide_eq_true_eq]; omega
      have hwi : within (i : Int) lens.length = true := by unfold within; simp only [decide_eq_true_eq]; omega
      have hwo : within (i : Int) (outD lens l i).length = true := by rw [outD_len]; exact hwi
      have hg : lens[i]? = some lens[i] := List.getElem?_eq_getElem hil
      have hgd : lens.getD i 0 = lens[i] := by rw [List.getD, hg]; rfl
      have hog := outD_get lens l i hil
      have hfs := first_small lens hl h15
      have hcl : (lens.take i).count (l : Int) ≤ 320 := Nat.le_trans List.count_le_length (by rw [List.length_take]; omega)
      rw [take_snoc hil, List.count_append, List.count_singleton] at ih'
      simp only [F16_15654, B16_15654, hc, hwi, hg, hwo, hog, Int.toNat_natCast, if_true, Option.bind_some, hw, iteP_eq]
      by_cases he : lens[i] = (l : Int)
      · have hb : (lens[i] == (l : Int)) = true := by simpa using he
        rw [hb] at ih'
        have hca : codeAt lens i = ((((first lens l + (lens.take i).count (l : Int) : Nat)) : Int), (l : Int), ()) := by
          unfold codeAt
          rw [hgd, he]
          simp only [Int.toNat_natCast]
          rw [if_pos (by omega)]
        rw [if_pos hb, ← hca, outD_set hil (hgd.trans he) h0, wrap_i64 (by omega) (by omega)]
        simp only [if_true] at ih'
        rw [show (((first lens l + (lens.take i).count (l : Int) : Nat)) : Int) + 1 = ((first lens l + ((lens.take i).count (l : Int) + 1) : Nat) : Int) by omega, ih', Option.bind_some]
      · have hb : (lens[i] == (l : Int)) = false := by simpa using he
        rw [hb] at ih'
        simp only [Bool.false_eq_true, if_false, Nat.add_zero] at ih'
        rw [if_neg (by rw [hb]; decide)]
        have e : outD lens l i = outD lens l (i + 1) := outD_ext fun j hj => by
          by_cases e : j = i
          · subst e
            rw [hgd]
            constructor
            · rintro ⟨h1, h2 | ⟨h2, h3⟩⟩
              · exact ⟨h1, .inl h2⟩
              · exact absurd h2 he
            · rintro ⟨h1, h2 | ⟨h2, h3⟩⟩
              · exact ⟨h1, .inl h2⟩
              · exact absurd h2 he
          · constructor
            · rintro ⟨h1, h2 | ⟨h2, h3⟩⟩
              · exact ⟨h1, .inl h2⟩
              · exact ⟨h1, .inr ⟨h2, by omega⟩⟩
            · rintro ⟨h1, h2 | ⟨h2, h3⟩⟩
              · exact ⟨h1, .inl h2⟩
              · exact ⟨h1, .inr ⟨h2, by omega⟩⟩
        rw [e, ih', Option.bind_some]

/-- What stands there ahead of a length, halved. -/
def before (lens : List Int) : Nat → Nat
  | 0 => 0
  | 1 => 0
  | l + 2 => first lens (l + 1) + lens.count ((l + 1 : Nat) : Int)

theorem before_twice (lens : List Int) (l : Nat) (h : 0 < l) : 2 * before lens l = first lens l := by
  match l, h with
  | 1, _ => rfl
  | l + 2, _ => rfl

theorem F16_outer (N : Nat) (hN : 400 ≤ N) (lens : List Int) (hl : lens.length ≤ 320) : ∀ (d l f : Nat), l + d = 16 → 0 < l → d < f →
    F16_122 N f ((before lens l : Int), lens, (l : Int), outD lens l 0) = some (outD lens 16 0) := by
  intro d
  induction d with
  | zero =>
    intro l f hi h0 hf
    cases f with
    | zero => omega
    | succ f =>
      have : l = 16 := by omega
      subst this
      simp only [F16_122, B16_122, iteP_eq]
      rw [if_neg (by decide)]
  | succ d ih =>
    intro l f hi h0 hf
    cases f with
    | zero => omega
    | succ f =>
      have ih' := ih (l + 1) f (by omega) (by omega) (by omega)
      have hfs := first_small lens hl (show l ≤ 15 by omega)
      have hb := before_twice lens l h0
      have hin := F16_inner N lens hl l h0 (by omega) lens.length 0 N (by omega) (by omega)
      rw [List.take_zero, List.count_nil, Nat.add_zero, show ((0 : Nat) : Int) = 0 from rfl] at hin
      simp only [F16_122, B16_122, iteP_eq]
      rw [if_pos (by simp only [decide_eq_true_eq]; omega), wrap_i64 (z := (before lens l : Int) * 2) (by omega) (by omega), show (before lens l : Int) * 2 = ((first lens l : Nat) : Int) by omega, hin, Option.bind_some]
      simp only
      have e1 : ((first lens l + lens.count (l : Int) : Nat) : Int) = (before lens (l + 1) : Int) := by
        match l, h0 with
        | k + 1, _ => rfl
      have e2 : outD lens l lens.length = outD lens (l + 1) 0 := outD_ext fun j hj => by
        constructor
        · rintro ⟨h1, h2 | ⟨h2, h3⟩⟩
          · exact ⟨h1, .inl (by omega)⟩
          · exact ⟨h1, .inl (by omega)⟩
        · rintro ⟨h1, h2 | ⟨h2, h3⟩⟩
          · by_cases e : lens.getD j 0 = (l : Int)
            · exact ⟨h1, .inr ⟨e, hj⟩⟩
            · exact ⟨h1, .inl (by omega)⟩
          · omega
      rw [e1, e2, wrap_i64 (by omega) (by omega), show ((l : Int) + 1) = ((l + 1 : Nat) : Int) by omega, ih', Option.bind_some]

theorem F16_codes {N : Nat} (hN : 400 ≤ N) (lens : List Int) (hl : lens.length ≤ 320) (hok : okB lens = true) : F16 N lens = some (codesOf lens) := by
  simp only [F16, iteP_eq]
  rw [if_pos (by simp only [decide_eq_true_eq]; omega), Int.toNat_natCast]
  have h := F16_outer N hN lens hl 15 1 N (by omega) (by omega) (by omega)
  have e0 : outD lens 1 0 = List.replicate lens.length (0, 0, ()) := by
    apply List.ext_getElem?
    intro k
    by_cases hk : k < lens.length
    · rw [outD_get _ _ _ hk, if_neg (by omega), List.getElem?_replicate, if_pos hk]
    · rw [List.getElem?_eq_none (by rw [outD_len]; omega), List.getElem?_eq_none (by simp; omega)]
  have e1 : outD lens 16 0 = codesOf lens := by
    apply List.ext_getElem?
    intro k
    by_cases hk : k < lens.length
    · have hc : (codesOf lens)[k]? = some (codeAt lens k) := by
        unfold codesOf
        rw [List.getElem?_map, List.getElem?_range hk]; rfl
      rw [outD_get _ _ _ hk, hc]
      have hg : lens.getD k 0 = lens[k] := by rw [List.getD, List.getElem?_eq_getElem hk]; rfl
      obtain ⟨b1, b2⟩ := okB_at hok hk
      by_cases h0 : 0 < lens[k]
      · rw [if_pos ⟨by omega, .inl (by omega)⟩]
      · rw [if_neg (fun q => h0 (by rw [← hg]; exact q.1))]
        unfold codeAt
        rw [hg]
        simp only
        rw [if_neg h0]
    · rw [List.getElem?_eq_none (by rw [outD_len]; omega), List.getElem?_eq_none (by simp [codesOf]; omega)]
  rw [e0, e1, show (before lens 1 : Int) = 0 from rfl, show ((1 : Nat) : Int) = 1 from rfl] at h
  rw [h, Option.bind_some]
end Go.Proofs.Ytpjkklailofkjaa.Am

namespace Go.Proofs.Ytpjkklailofkjaa.Am
open Go.Am
set_option linter.unusedSimpArgs false
set_option linter.unusedVariables false

theorem codesOf_len (lens : List Int) : (codesOf lens).length = lens.length := by simp [codesOf]

theorem chk_ok {lens : List Int} (h : (chk lens).2 = 0) : lens.length ≤ 320 ∧ okB lens = true := by
  have hok : okL lens = true := by
    unfold chk at h
    by_cases hh : okL lens = true ∧ 0 ≤ lf lens 15
    · exact hh.1
    · rw [if_neg hh] at h; cases h
  unfold okL at hok
  simp only [Bool.and_eq_true, decide_eq_true_eq] at hok
  exact hok

theorem get_at {a : List Int} {i : Nat} (h : i < a.length) : a[i]? = some (a.getD i 0) := by
  rw [List.getD, List.getElem?_eq_getElem h]; rfl
end Go.Proofs.Ytpjkklailofkjaa.Am

namespace Go.Proofs.Ytpjkklailofkjaa.Am
open Go.Am
set_option linter.unusedSimpArgs false
set_option linter.unusedVariables false

theorem took_map (g : Nat → Nat) : ∀ L : List Nat, took (L.map fun (i : Nat) => ((g i : Nat) : Int)) = (((L.map fun i => tkN (g i)).sum : Nat) : Int)
  | [] => rfl
  | x :: L => by
    rw [List.map_cons, took, took_map g L, List.map_cons, List.sum_cons, Int.natCast_add]
    congr 1
    unfold tkN
    by_cases h : 0 < g x
    · rw [if_pos (by omega), if_pos h, show (15 - ((g x : Nat) : Int)).toNat = 15 - g x by omega, pow_i]
    · rw [if_neg (by omega), if_neg h]; rfl

/-- What is checked of the best lengths. -/
theorem chk_best {fr : List Int} (hl : fr.length ≤ 320) {m : Nat} (hm : 1 ≤ m) (hm2 : m ≤ 15) (hn : (isort (coinsTo fr fr.length)).length ≤ 2 ^ m) :
    chk (cnts fr.length (pickS (isort (coinsTo fr fr.length)) m)) = (if 2 ≤ (isort (coinsTo fr fr.length)).length then 0 else if (isort (coinsTo fr fr.length)).length = 1 then 16384 else 32768, 0) := by
  obtain ⟨p1, p2, p3⟩ := pick_all (coins_ok fr) hm hm2 hn
  have hb : okB (cnts fr.length (pickS (isort (coinsTo fr fr.length)) m)) = true := by
    unfold okB
    rw [List.all_eq_true]
    intro x hx
    obtain ⟨i, _, rfl⟩ := List.mem_map.1 hx
    rw [Bool.and_eq_true, decide_eq_true_eq, decide_eq_true_eq]
    by_cases h : ((i : Int) ∈ syms (isort (coinsTo fr fr.length)))
    · have := p1 _ h; omega
    · rw [p2 _ h]; omega
  have hr := room_best hm hm2 hn
  have ht := lf_took (cnts fr.length (pickS (isort (coinsTo fr fr.length)) m)) 15 (Nat.le_refl _)
  rw [tookTo_all _ hb] at ht
  have htk : took (cnts fr.length (pickS (isort (coinsTo fr fr.length)) m)) = _ := took_map (fun i => (pickS (isort (coinsTo fr fr.length)) m).count (i : Int)) (List.range fr.length)
  rw [htk, hr] at ht
  have hok : okL (cnts fr.length (pickS (isort (coinsTo fr fr.length)) m)) = true := by
    unfold okL
    rw [hb, cnts_len, decide_eq_true hl]
    rfl
  have e0 : lf (cnts fr.length (pickS (isort (coinsTo fr fr.length)) m)) 15 * 2 ^ (15 - 15) = lf (cnts fr.length (pickS (isort (coinsTo fr fr.length)) m)) 15 := by simp
  rw [e0] at ht
  unfold chk
  rw [hok]
  generalize (isort (coinsTo fr fr.length)).length = n at *
  by_cases h2 : 2 ≤ n
  · rw [if_pos h2] at ht ⊢
    rw [ht, if_pos ⟨rfl, by decide⟩]
    rfl
  · rw [if_neg h2] at ht ⊢
    by_cases h1 : n = 1
    · rw [if_pos h1] at ht ⊢
      rw [ht, if_pos ⟨rfl, by decide⟩]
      rfl
    · rw [if_neg h1] at ht ⊢
      rw [ht, if_pos ⟨rfl, by decide⟩]
      rfl

theorem okF_take {fr : List Int} {i : Nat} (hi : i < fr.length) : okF (fr.take (i + 1)) = (okF (fr.take i) && (decide (0 ≤ fr.getD i 0) && decide (fr.getD i 0 ≤ 1073741824))) := by
  unfold okF
  rw [List.take_add_one, List.getElem?_eq_getElem hi, List.all_append, List.getD, List.getElem?_eq_getElem hi]
  simp

theorem F5_first (fr : List Int) (hl : fr.length ≤ 1000) (odd0 : Bool) (e most : Int) (b : Bool) (out : List Int) : ∀ (d i f : Nat), i + d = fr.length → d < f →
    F5_2042 200000 f (odd0 || !okF (fr.take i), ((coinsTo fr i).length : Int), (i : Int), e, b, most, fr, out) = some (odd0 || !okF fr, most, fr, ((coinsTo fr fr.length).length : Int), b, e, out) := by
  intro d
  induction d with
  | zero =>
    intro i f hi hf
    cases f with
    | zero => omega
    | succ f =>
      simp only [F5_2042, B5_2042, iteP_eq]
      rw [if_neg (by simp only [decide_eq_true_eq]; omega), List.take_of_length_le (by omega), show i = fr.length by omega]
  | succ d ih =>
    intro i f hi hf
    cases f with
    | zero => omega
    | succ f =>
      have hil : i < fr.length := by omega
      have ih' := ih (i + 1) f (by omega) (by omega)
      have i1 : IntKind.wrap .i64 ((i : Int) + 1) = ((i + 1 : Nat) : Int) := by rw [wrap_i64 (by omega) (by omega)]; omega
      have hcl := coinsTo_len fr i
      have i2 : IntKind.wrap .i64 (((coinsTo fr i).length : Int) + 1) = (((coinsTo fr i).length + 1 : Nat) : Int) := by rw [wrap_i64 (by omega) (by omega)]; omega
      have hc : (coinsTo fr (i + 1)).length = if 0 < fr.getD i 0 then (coinsTo fr i).length + 1 else (coinsTo fr i).length := by
        rw [coinsTo]; split <;> simp
      rw [okF_take hil, hc] at ih'
      simp only [F5_2042, B5_2042, iteP_eq]
      rw [if_pos (by simp only [decide_eq_true_eq]; omega)]
      simp only [wi hil, if_true, Int.toNat_natCast, getAt hil, Option.bind_some, i1, i2]
      cases ho : (odd0 || !okF (fr.take i)) with
      | true =>
        have e : (odd0 || !(okF (fr.take i) && (decide (0 ≤ fr.getD i 0) && decide (fr.getD i 0 ≤ 1073741824)))) = true := by
          cases odd0 <;> cases hk : okF (fr.take i) <;> simp_all
        rw [e] at ih'
        simp only [if_true]
        by_cases hp : 0 < fr.getD i 0
        · rw [if_pos hp] at ih'
          rw [if_pos (show decide (fr.getD i 0 > 0) = true by simpa using hp), ih', Option.bind_some]
        · rw [if_neg hp] at ih'
          rw [if_neg (show ¬ decide (fr.getD i 0 > 0) = true by simpa using hp), ih', Option.bind_some]
      | false =>
        simp only [Bool.false_eq_true, if_false]
        by_cases hn : fr.getD i 0 < 0
        · have e : (odd0 || !(okF (fr.take i) && (decide (0 ≤ fr.getD i 0) && decide (fr.getD i 0 ≤ 1073741824)))) = true := by
            rw [decide_eq_false (show ¬ 0 ≤ fr.getD i 0 by omega)]; simp
          rw [e, if_neg (by omega)] at ih'
          rw [if_pos (show decide (fr.getD i 0 < 0) = true by simpa using hn), if_neg (show ¬ decide (fr.getD i 0 > 0) = true by simp only [decide_eq_true_eq]; omega), ih', Option.bind_some]
        · have e : (odd0 || !(okF (fr.take i) && (decide (0 ≤ fr.getD i 0) && decide (fr.getD i 0 ≤ 1073741824)))) = decide (fr.getD i 0 > 1073741824) := by
            rw [decide_eq_true (show 0 ≤ fr.getD i 0 by omega)]
            have h1 : odd0 = false := by cases odd0 <;> simp_all
            have h2 : okF (fr.take i) = true := by cases hk : okF (fr.take i) <;> simp_all
            rw [h1, h2]
            simp only [Bool.true_and, Bool.false_or]
            by_cases hg : fr.getD i 0 ≤ 1073741824
            · rw [decide_eq_true hg, decide_eq_false (by omega)]; rfl
            · rw [decide_eq_false hg, decide_eq_true (by omega)]; rfl
          rw [e] at ih'
          rw [if_neg (show ¬ decide (fr.getD i 0 < 0) = true by simpa using hn)]
          by_cases hp : 0 < fr.getD i 0
          · rw [if_pos hp] at ih'
            rw [if_pos (show decide (fr.getD i 0 > 0) = true by simpa using hp), ih', Option.bind_some]
          · rw [if_neg hp] at ih'
            rw [if_neg (show ¬ decide (fr.getD i 0 > 0) = true by simpa using hp), ih', Option.bind_some]

theorem F5_second (fr out : List Int) (hlen : out.length = fr.length) (hl : fr.length ≤ 1000) (most left n : Int) (b : Bool) (h : ∀ i, i < fr.length → (out.getD i 0 = 0 ↔ fr.getD i 0 = 0) ∧ out.getD i 0 ≤ most) : ∀ (d i f : Nat), i + d = fr.length → d < f →
    F5_65530 200000 f (left, n, b, fr, most, (i : Int), out) = some (.inr (b, n, left)) := by
  intro d
  induction d with
  | zero =>
    intro i f hi hf
    cases f with
    | zero => omega
    | succ f =>
      simp only [F5_65530, B5_65530, iteP_eq]
      rw [if_neg (by simp only [decide_eq_true_eq]; omega)]
  | succ d ih =>
    intro i f hi hf
    cases f with
    | zero => omega
    | succ f =>
      have hil : i < fr.length := by omega
      have i1 : IntKind.wrap .i64 ((i : Int) + 1) = ((i + 1 : Nat) : Int) := by rw [wrap_i64 (by omega) (by omega)]; omega
      obtain ⟨h1, h2⟩ := h i hil
      simp only [F5_65530, B5_65530, iteP_eq, hlen]
      rw [if_pos (by simp only [decide_eq_true_eq]; omega)]
      simp only [wi hil, if_true, Int.toNat_natCast, getAt hil, getAt (show i < out.length by omega), Option.bind_some, i1]
      have e : (!(out.getD i 0 == 0) == (fr.getD i 0 == 0)) = false := by
        by_cases hz : fr.getD i 0 = 0
        · rw [h1.2 hz, hz]; rfl
        · have : ¬ out.getD i 0 = 0 := fun hh => hz (h1.1 hh)
          have e1 : (out.getD i 0 == 0) = false := by simpa using this
          have e2 : (fr.getD i 0 == 0) = false := by simpa using hz
          rw [e1, e2]; rfl
      rw [e, if_neg (by decide), if_neg (by simp only [decide_eq_true_eq]; omega), ih (i + 1) f (by omega) (by omega), Option.bind_some]
end Go.Proofs.Ytpjkklailofkjaa.Am

namespace Go.Proofs.Ytpjkklailofkjaa.Am
open Go.Am
set_option linter.unusedSimpArgs false
set_option linter.unusedVariables false

theorem F5_start (fr : List Int) (hl : fr.length ≤ 1000) (odd0 : Bool) (e most : Int) (out : List Int) :
    F5_2042 200000 200000 (odd0, 0, 0, e, true, most, fr, out) = some (odd0 || !okF fr, most, fr, ((coinsTo fr fr.length).length : Int), true, e, out) := by
  have := F5_first fr hl odd0 e most true out fr.length 0 200000 (by omega) (by omega)
  rw [List.take_zero, show okF [] = true from rfl, show coinsTo fr 0 = [] from rfl, show ((0 : Nat) : Int) = 0 from rfl, show ((([] : List Bun).length : Nat) : Int) = 0 from rfl, Bool.not_true, Bool.or_false] at this
  exact this

theorem cnts_getD (n : Nat) (S : List Int) {i : Nat} (h : i < n) : (cnts n S).getD i 0 = ((S.count (i : Int) : Nat) : Int) := by
  rw [List.getD, cnts_get n S h]; rfl

theorem law5 (hw : F11 200000 () = some true) (fr : List Int) (most : Int) : F5 200000 (fr, most) = some true := by
  simp only [F5, iteP_eq]
  rw [hw, Option.bind_some, if_neg (by decide)]
  by_cases h1 : (340 : Int) < (fr.length : Int)
  · rw [if_pos (by simpa using h1)]
  rw [if_neg (by simpa using h1), F17_lens, Option.bind_some]
  by_cases h2 : 320 < fr.length
  · have hL : lensR fr most = (1, []) := by unfold lensR; rw [if_pos (.inl h2)]
    rw [if_pos (by simp only [decide_eq_true_eq]; omega), hL, F5_start fr (by omega), Option.bind_some]
    simp
  rw [if_neg (by simp only [decide_eq_true_eq]; omega)]
  by_cases h3 : most < 1
  · have hL : lensR fr most = (1, []) := by unfold lensR; rw [if_pos (.inr (.inl h3))]
    rw [if_pos (by simpa using h3), hL, F5_start fr (by omega), Option.bind_some]
    simp
  rw [if_neg (by simpa using h3), F5_start fr (by omega), Option.bind_some]
  cases hodd : (decide (most > 15) || !okF fr) with
  | true =>
    have hL : lensR fr most = (1, []) := by
      unfold lensR
      rw [if_pos ?_]
      rw [Bool.or_eq_true, decide_eq_true_eq, Bool.not_eq_true'] at hodd
      exact .inr (.inr hodd)
    rw [hL]
    simp
  | false =>
    rw [Bool.or_eq_false_iff, decide_eq_false_iff_not, Bool.not_eq_false'] at hodd
    obtain ⟨h4, ho⟩ := hodd
    simp only [Bool.false_eq_true, if_false]
    obtain ⟨m, hm⟩ : ∃ m : Nat, most = (m : Int) := ⟨most.toNat, by omega⟩
    subst hm
    have hp15 : 2 ^ m ≤ 2 ^ 15 := Nat.pow_le_pow_right (by decide) (by omega)
    have ew : IntKind.wrap .i64 ((1 : Int) * 2 ^ min (Int.toNat (m : Int)) 64) = ((2 ^ m : Nat) : Int) := by
      rw [Int.toNat_natCast, Nat.min_eq_left (by omega), Int.one_mul, ← pow_i]
      generalize 2 ^ m = q at *
      exact wrap_i64 (by omega) (by omega)
    rw [if_neg (by simp only [decide_eq_true_eq]; omega), ew]
    have hlen := isort_len (coinsTo fr fr.length)
    by_cases h5 : 2 ^ m < (coinsTo fr fr.length).length
    · have hL : lensR fr m = (50, []) := by
        unfold lensR
        rw [if_neg (by simp only [ho, Bool.true_eq_false, or_false]; omega), Int.toNat_natCast, if_pos h5]
      rw [if_pos (by
        generalize 2 ^ m = q at *
        simp only [decide_eq_true_eq]; omega), hL]
      simp
    · have hL : lensR fr m = (0, cnts fr.length (pickS (isort (coinsTo fr fr.length)) m)) := by
        unfold lensR
        rw [if_neg (by simp only [ho, Bool.true_eq_false, or_false]; omega), Int.toNat_natCast, if_neg h5]
      rw [if_neg (by
        generalize 2 ^ m = q at *
        simp only [decide_eq_true_eq]; omega), hL]
      have hn : (isort (coinsTo fr fr.length)).length ≤ 2 ^ m := by omega
      have hc := chk_best (by omega) (by omega) (by omega) hn
      obtain ⟨p1, p2, p3⟩ := pick_all (coins_ok fr) (by omega) (by omega) hn
      rw [F12_chk (by decide), hc, Option.bind_some]
      simp only
      rw [if_neg (by decide), if_neg (by decide), cnts_len, if_neg (by simp)]
      have hsec := F5_second fr (cnts fr.length (pickS (isort (coinsTo fr fr.length)) m)) (cnts_len _ _) (by omega) (m : Int) (if 2 ≤ (isort (coinsTo fr fr.length)).length then 0 else if (isort (coinsTo fr fr.length)).length = 1 then 16384 else 32768) ((coinsTo fr fr.length).length : Int) true (fun i hi => by
        rw [cnts_getD _ _ hi]
        have h0 := okF_at ho hi
        have hs := mem_syms (fr := fr) hi
        by_cases hp : 0 < fr.getD i 0
        · have := p1 _ (hs.2 hp); omega
        · have := p2 _ (fun h => hp (hs.1 h)); omega) fr.length 0 200000 (by omega) (by omega)
      rw [show ((0 : Nat) : Int) = 0 from rfl] at hsec
      rw [hsec, Option.bind_some]
      simp only [if_true]
      rw [hlen]
      generalize (coinsTo fr fr.length).length = c at *
      by_cases c2 : 2 ≤ c
      · rw [if_pos c2, if_pos (by simp only [decide_eq_true_eq]; omega), if_pos (by decide)]
      · rw [if_neg c2, if_neg (by simp only [decide_eq_true_eq]; omega)]
        by_cases c1 : c = 1
        · subst c1
          simp
        · have : c = 0 := by omega
          subst this
          simp
theorem works11b : F11 200000 () = some true := by kernel_rfl
end Go.Proofs.Ytpjkklailofkjaa.Am
