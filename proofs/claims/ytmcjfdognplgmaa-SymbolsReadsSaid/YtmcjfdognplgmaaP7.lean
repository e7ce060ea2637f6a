/- The Lean function that SymbolsReads comes to answers true at every input. -/
import Derived.Test.YtmcjfdognplgmaaP6
namespace Go.Proofs.Ytmcjfdognplgmaa.Am
open Go.Am
set_option linter.unusedSimpArgs false
set_option linter.unusedVariables false

/-! ### A decoder: its symbols by their codes -/
/-- The symbols of a length, up to one. -/
def symsTo (lens : List Int) (l : Nat) : Nat → List Int
  | 0 => []
  | i + 1 => if lens.getD i 0 = (l : Int) then symsTo lens l i ++ [(i : Int)] else symsTo lens l i

theorem symsTo_len (lens : List Int) (l : Nat) : ∀ i, i ≤ lens.length → (symsTo lens l i).length = (lens.take i).count (l : Int)
  | 0, _ => by simp [symsTo]
  | i + 1, h => by
    have ih := symsTo_len lens l i (by omega)
    have hg : lens.getD i 0 = lens[i] := by rw [List.getD, List.getElem?_eq_getElem (by omega)]; rfl
    rw [symsTo, hg, take_snoc (by omega), List.count_append, List.count_singleton]
    by_cases e : lens[i] = (l : Int)
    · have hb : (lens[i] == (l : Int)) = true := by simpa using e
      rw [if_pos e, hb, List.length_append, ih]; rfl
    · have hb : (lens[i] == (l : Int)) = false := by simpa using e
      rw [if_neg e, hb, ih]; rfl

/-- The longest so far. -/
def lgOr (lens : List Int) (l i lg : Nat) : Nat := if (symsTo lens l i).isEmpty then lg else l

theorem F53_inner (N : Nat) (lens x2 x5 : List Int) (hl : lens.length ≤ 320) (l lg : Nat) (S : List Int) (hS : S.length ≤ 10000) : ∀ (d i f : Nat), i + d = lens.length → d < f →
    F53_16018 N f ((i : Int), (lens.length : Int), x2, lens, (l : Int), x5, ((lgOr lens l i lg : Nat) : Int), S ++ symsTo lens l i) =
      some ((l : Int), x2, x5, ((lgOr lens l lens.length lg : Nat) : Int), S ++ symsTo lens l lens.length) := by
  intro d
  induction d with
  | zero =>
    intro i f hi hf
    cases f with
    | zero => omega
    | succ f =>
      simp only [F53_16018, B53_16018]
      rw [if_neg (by simp only [decide_eq_true_eq]; omega), show i = lens.length by omega]
  | succ d ih =>
    intro i f hi hf
    cases f with
    | zero => omega
    | succ f =>
      have hil : i < lens.length := by omega
      have ih' := ih (i + 1) f (by omega) (by omega)
      have hw : IntKind.wrap .i64 ((i : Int) + 1) = ((i + 1 : Nat) : Int) := by rw [wrap_i64 (by omega) (by omega)]; omega
      have hc : decide ((i : Int) < (lens.length : Int)) = true := by simp only [decide_eq_true_eq]; omega
      have hwi : within (i : Int) lens.length = true := by unfold within; simp only [decide_eq_true_eq]; omega
      have hg : lens[i]? = some lens[i] := List.getElem?_eq_getElem hil
      have hgd : lens.getD i 0 = lens[i] := by rw [List.getD, hg]; rfl
      have hsl := symsTo_len lens l i (by omega)
      have hcl : (lens.take i).count (l : Int) ≤ 320 := Nat.le_trans List.count_le_length (by rw [List.length_take]; omega)
      simp only [F53_16018, B53_16018, hc, hwi, hg, hw, Int.toNat_natCast, if_true, Option.bind_some]
      by_cases he : lens[i] = (l : Int)
      · have hb : (lens[i] == (l : Int)) = true := by simpa using he
        have es : symsTo lens l (i + 1) = symsTo lens l i ++ [(i : Int)] := by rw [symsTo, hgd, if_pos he]
        have el : lgOr lens l (i + 1) lg = l := by unfold lgOr; rw [es]; simp
        rw [es, el, ← List.append_assoc] at ih'
        rw [if_pos hb, if_pos (by simp only [decide_eq_true_eq, List.length_append, List.length_singleton]; omega), ih', Option.bind_some]
      · have hb : (lens[i] == (l : Int)) = false := by simpa using he
        have es : symsTo lens l (i + 1) = symsTo lens l i := by rw [symsTo, hgd, if_neg he]
        have el : lgOr lens l (i + 1) lg = lgOr lens l i lg := by unfold lgOr; rw [es]
        rw [es, el] at ih'
        rw [if_neg (by rw [hb]; decide), ih', Option.bind_some]

def symsUp (lens : List Int) : Nat → List Int
  | 0 => []
  | l + 1 => symsUp lens l ++ symsTo lens (l + 1) lens.length
def lgUp (lens : List Int) : Nat → Nat
  | 0 => 0
  | l + 1 => lgOr lens (l + 1) lens.length (lgUp lens l)

theorem symsUp_len (lens : List Int) (hl : lens.length ≤ 320) : ∀ l, (symsUp lens l).length ≤ 320 * l
  | 0 => by simp [symsUp]
  | l + 1 => by
    have h1 := symsUp_len lens hl l
    have h2 := symsTo_len lens (l + 1) lens.length (Nat.le_refl _)
    have h3 : (lens.take lens.length).count ((l + 1 : Nat) : Int) ≤ 320 := Nat.le_trans List.count_le_length (by rw [List.length_take]; omega)
    rw [symsUp, List.length_append]
    omega

theorem F53_outer (N : Nat) (hN : 400 ≤ N) (lens x2 : List Int) (hl : lens.length ≤ 320) : ∀ (d l f : Nat), l + d = 15 → d < f →
    F53_250 N f (lens, ((l + 1 : Nat) : Int), x2, ((lgUp lens l : Nat) : Int), symsUp lens l) = some (x2, ((lgUp lens 15 : Nat) : Int), symsUp lens 15) := by
  intro d
  induction d with
  | zero =>
    intro l f hi hf
    cases f with
    | zero => omega
    | succ f =>
      have : l = 15 := by omega
      subst this
      simp only [F53_250, B53_250]
      rw [if_neg (by decide)]
  | succ d ih =>
    intro l f hi hf
    cases f with
    | zero => omega
    | succ f =>
      have ih' := ih (l + 1) f (by omega) (by omega)
      have hs := symsUp_len lens hl l
      have hin := F53_inner N lens lens x2 hl (l + 1) (lgUp lens l) (symsUp lens l) (by omega) lens.length 0 N (by omega) (by omega)
      have e0 : lgOr lens (l + 1) 0 (lgUp lens l) = lgUp lens l := rfl
      rw [e0, show symsTo lens (l + 1) 0 = [] from rfl, List.append_nil, show ((0 : Nat) : Int) = 0 from rfl] at hin
      simp only [F53_250, B53_250]
      rw [if_pos (by simp only [decide_eq_true_eq]; omega), hin, Option.bind_some]
      simp only
      rw [wrap_i64 (by omega) (by omega), show ((l + 1 : Nat) : Int) + 1 = ((l + 1 + 1 : Nat) : Int) by omega]
      have ih'' : F53_250 N f (lens, ((l + 1 + 1 : Nat) : Int), x2, ((lgOr lens (l + 1) lens.length (lgUp lens l) : Nat) : Int), symsUp lens l ++ symsTo lens (l + 1) lens.length) = _ := ih'
      rw [ih'', Option.bind_some]

/-- What 'New' makes. -/
theorem F53_new {N : Nat} (hN : 400 ≤ N) (lens : List Int) : F53 N lens = some (if (chk lens).2 = 0 then .inr (0, cntL lens, ((lgUp lens 15 : Nat) : Int), symsUp lens 15) else .inl (chk lens).2) := by
  obtain ⟨c, hc, hcc⟩ := F61_spec hN lens
  simp only [F53]
  rw [F60_chk hN, Option.bind_some]
  by_cases h : (chk lens).2 = 0
  · obtain ⟨a1, a2⟩ := chk_ok h
    have hok : okL lens = true := by unfold okL; rw [decide_eq_true a1, a2]; rfl
    have ho := F53_outer N hN lens (cntL lens) a1 15 0 N (by omega) (by omega)
    rw [show ((0 + 1 : Nat) : Int) = 1 from rfl, show ((lgUp lens 0 : Nat) : Int) = 0 from rfl, show symsUp lens 0 = [] from rfl] at ho
    rw [if_neg (by simpa using h), if_pos h, hc, Option.bind_some, hcc hok]
    simp only
    rw [ho, Option.bind_some]
  · rw [if_pos (by simpa using h), if_neg h]
end Go.Proofs.Ytmcjfdognplgmaa.Am

namespace Go.Proofs.Ytmcjfdognplgmaa.Am
open Go.Am
set_option linter.unusedSimpArgs false
set_option linter.unusedVariables false

/-! ### The document: with which codes do some bits begin? -/
/-- A code's i-th bit, the greatest one first. -/
def bitOf (c n : Nat) (i : Nat) : Bool := c.testBit (n - 1 - i)

theorem F75_bit {N : Nat} (hN : 61 < N) (c n i : Nat) (hc : c < 1000000000) (hn : n ≤ 15) (hi : i < n) : F75 N ((c : Int), (n : Int), (i : Int)) = some (bitOf c n i) := by
  have hp : (2 : Int) ^ (n - 1 - i) ≤ 32768 := by
    have : (2 : Nat) ^ (n - 1 - i) ≤ 2 ^ 15 := Nat.pow_le_pow_right (by decide) (by omega)
    have h2 : ((2 ^ (n - 1 - i) : Nat) : Int) ≤ ((2 ^ 15 : Nat) : Int) := Int.ofNat_le.2 this
    simpa using h2
  have hp0 : (0 : Int) < 2 ^ (n - 1 - i) := Int.pow_pos (by decide)
  simp only [F75]
  have e : IntKind.wrap .i64 (IntKind.wrap .i64 ((n : Int) - 1) - (i : Int)) = ((n - 1 - i : Nat) : Int) := by
    rw [wrap_i64 (z := (n : Int) - 1) (by omega) (by omega), wrap_i64 (by omega) (by omega)]; omega
  rw [e, F63_pow hN _ (by omega), Option.bind_some, if_neg (by simp only [decide_eq_true_eq]; omega)]
  congr 1
  unfold bitOf
  have e2 : Int.tdiv (c : Int) (2 ^ (n - 1 - i)) = ((c / 2 ^ (n - 1 - i) : Nat) : Int) := by
    rw [Int.tdiv_eq_ediv_of_nonneg (by omega)]; simp
  have hd : c / 2 ^ (n - 1 - i) ≤ c := Nat.div_le_self ..
  rw [e2, Nat.testBit_eq_decide_div_mod_eq]
  clear e2
  generalize c / 2 ^ (n - 1 - i) = q at *
  rw [wrap_i64 (by omega) (by omega), Int.tmod_eq_emod_of_nonneg (by omega)]
  have hq := Nat.mod_two_eq_zero_or_one q
  have e3 : (q : Int) % 2 = ((q % 2 : Nat) : Int) := by omega
  rw [e3]
  rcases hq with h | h <;> rw [h] <;> rfl

/-- Does a code of n bits begin with some bits? -/
def beginsN (c n : Nat) (l : List Bool) : Bool := decide (l.length ≤ n) && (List.range l.length).all fun i => bitOf c n i == l.getD i false

theorem F72_loop {N : Nat} (hN : 61 < N) (c n : Nat) (hc : c < 1000000000) (hn : n ≤ 15) (l : List Bool) (hl : l.length ≤ n) : ∀ (d i f : Nat), i + d = l.length → d < f →
    ((∀ j, i ≤ j → j < l.length → bitOf c n j = l.getD j false) → F72_58 N f (l, (i : Int), (c : Int), (n : Int)) = some (.inr ())) ∧
    ((∃ j, i ≤ j ∧ j < l.length ∧ bitOf c n j ≠ l.getD j false) → F72_58 N f (l, (i : Int), (c : Int), (n : Int)) = some (.inl false)) := by
  intro d
  induction d with
  | zero =>
    intro i f hi hf
    cases f with
    | zero => omega
    | succ f =>
      simp only [F72_58, B72_58]
      rw [if_neg (by simp only [decide_eq_true_eq]; omega)]
      exact ⟨fun _ => rfl, fun ⟨j, h1, h2, _⟩ => by omega⟩
  | succ d ih =>
    intro i f hi hf
    cases f with
    | zero => omega
    | succ f =>
      obtain ⟨ih1, ih2⟩ := ih (i + 1) f (by omega) (by omega)
      have hil : i < l.length := by omega
      have hw : IntKind.wrap .i64 ((i : Int) + 1) = ((i + 1 : Nat) : Int) := by rw [wrap_i64 (by omega) (by omega)]; omega
      have hwi : within (i : Int) l.length = true := by unfold within; simp only [decide_eq_true_eq]; omega
      have hcc : decide ((i : Int) < (l.length : Int)) = true := by simp only [decide_eq_true_eq]; omega
      have hg : l[i]? = some (l.getD i false) := by rw [List.getD, List.getElem?_eq_getElem hil]; rfl
      simp only [F72_58, B72_58, hcc, hwi, hg, hw, Int.toNat_natCast, if_true, Option.bind_some]
      rw [F75_bit hN c n i hc hn (by omega), Option.bind_some]
      by_cases he : bitOf c n i = l.getD i false
      · rw [he, if_neg (by simp)]
        refine ⟨fun h => by rw [ih1 fun j h1 h2 => h j (by omega) h2]; rfl, fun ⟨j, h1, h2, h3⟩ => ?_⟩
        rw [ih2 ⟨j, by
          by_cases e : j = i
          · subst e; exact absurd he h3
          · omega, h2, h3⟩]
        rfl
      · rw [if_pos (by simpa using he)]
        exact ⟨fun h => absurd (h i (Nat.le_refl _) hil) he, fun _ => by first | rfl | trivial⟩

theorem F72_begins {N : Nat} (hN : 61 < N) (c n : Nat) (hc : c < 1000000000) (hn : n ≤ 15) (l : List Bool) (hl : l.length ≤ 100) (hN2 : 101 < N) : F72 N ((c : Int), (n : Int), l) = some (beginsN c n l) := by
  unfold beginsN
  simp only [F72]
  by_cases h : n < l.length
  · rw [if_pos (by simp only [decide_eq_true_eq]; omega), decide_eq_false (by omega)]; rfl
  · rw [if_neg (by simp only [decide_eq_true_eq]; omega), decide_eq_true (by omega), Bool.true_and]
    obtain ⟨h1, h2⟩ := F72_loop hN c n hc hn l (by omega) l.length 0 N (by omega) (by omega)
    rw [show ((0 : Nat) : Int) = 0 from rfl] at h1 h2
    cases ha : (List.range l.length).all fun i => bitOf c n i == l.getD i false with
    | true =>
      rw [h1 fun j _ hj => by simpa using List.all_eq_true.1 ha j (List.mem_range.2 hj), Option.bind_some]
    | false =>
      have : ∃ j, 0 ≤ j ∧ j < l.length ∧ bitOf c n j ≠ l.getD j false := by
        refine Classical.byContradiction fun hn => ?_
        have : (List.range l.length).all (fun i => bitOf c n i == l.getD i false) = true := List.all_eq_true.2 fun j hj => by
          have hj := List.mem_range.1 hj
          by_cases e : bitOf c n j = l.getD j false
          · simpa using e
          · exact absurd ⟨j, Nat.zero_le _, hj, e⟩ hn
        rw [ha] at this; cases this
      rw [h2 this, Option.bind_some]
end Go.Proofs.Ytmcjfdognplgmaa.Am

namespace Go.Proofs.Ytmcjfdognplgmaa.Am
open Go.Am
set_option linter.unusedSimpArgs false
set_option linter.unusedVariables false

/-- Does the j-th code begin with some bits? -/
def preB (c n : Nat → Nat) (l : List Bool) (j : Nat) : Bool := !(n j == 0) && beginsN (c j) (n j) l
/-- Is it those bits? -/
def hitB (c n : Nat → Nat) (l : List Bool) (j : Nat) : Bool := preB c n l j && (n j == l.length)
def smF (c n : Nat → Nat) (l : List Bool) (i : Nat) : Int := bif (List.range i).any (preB c n l) then -1 else -2

theorem smF_succ (c n : Nat → Nat) (l : List Bool) (i : Nat) : smF c n l (i + 1) = bif preB c n l i then -1 else smF c n l i := by
  unfold smF
  rw [List.range_succ, List.any_append, List.any_cons, List.any_nil, Bool.or_false]
  cases (List.range i).any (preB c n l) <;> cases preB c n l i <;> rfl

theorem F69_loop {N : Nat} (hN : 101 < N) (C : List Cod) (c n : Nat → Nat) (hC : ∀ j, j < C.length → C[j]? = some ((c j : Int), (n j : Int), ()) ∧ c j < 1000000000 ∧ n j ≤ 15) (hl : C.length ≤ 1000) (l : List Bool) (hll : l.length ≤ 100) :
    ∀ (d i f : Nat), i + d = C.length → d < f →
    (∀ k, i ≤ k → k < C.length → hitB c n l k = true → (∀ j, i ≤ j → j < k → hitB c n l j = false) → F69_58 N f ((i : Int), smF c n l i, l, C) = some (.inl (k : Int))) ∧
    ((∀ j, i ≤ j → j < C.length → hitB c n l j = false) → F69_58 N f ((i : Int), smF c n l i, l, C) = some (.inr (smF c n l C.length))) := by
  intro d
  induction d with
  | zero =>
    intro i f hi hf
    cases f with
    | zero => omega
    | succ f =>
      simp only [F69_58, B69_58]
      rw [if_neg (by simp only [decide_eq_true_eq]; omega), show i = C.length by omega]
      exact ⟨fun k h1 h2 => by omega, fun _ => rfl⟩
  | succ d ih =>
    intro i f hi hf
    cases f with
    | zero => omega
    | succ f =>
      have hil : i < C.length := by omega
      obtain ⟨ih1, ih2⟩ := ih (i + 1) f (by omega) (by omega)
      obtain ⟨hg, hc, hn⟩ := hC i hil
      have hw : IntKind.wrap .i64 ((i : Int) + 1) = ((i + 1 : Nat) : Int) := by rw [wrap_i64 (by omega) (by omega)]; omega
      have hwi : within (i : Int) C.length = true := by unfold within; simp only [decide_eq_true_eq]; omega
      have hcc : decide ((i : Int) < (C.length : Int)) = true := by simp only [decide_eq_true_eq]; omega
      have hs := smF_succ c n l i
      simp only [F69_58, B69_58, hcc, hwi, hg, hw, Int.toNat_natCast, if_true, Option.bind_some]
      by_cases h0 : n i = 0
      · have hp : preB c n l i = false := by unfold preB; rw [h0]; rfl
        have hh : hitB c n l i = false := by unfold hitB; rw [hp]; rfl
        rw [hp] at hs
        have hs : smF c n l (i + 1) = smF c n l i := hs
        rw [hs] at ih1 ih2
        rw [if_pos (by simp [h0])]
        refine ⟨fun k h1 h2 h3 h4 => ?_, fun h => ?_⟩
        · rw [ih1 k (by
            by_cases e : k = i
            · subst e; rw [hh] at h3; cases h3
            · omega) h2 h3 fun j g1 g2 => h4 j (by omega) g2]; rfl
        · rw [ih2 fun j g1 g2 => h j (by omega) g2]; rfl
      · have hn0 : (n i == 0) = false := by simpa using h0
        rw [if_neg (by simp; omega), F72_begins (by omega) (c i) (n i) hc hn l hll hN, Option.bind_some]
        cases hb : beginsN (c i) (n i) l with
        | false =>
          have hp : preB c n l i = false := by unfold preB; rw [hb, Bool.and_false]
          have hh : hitB c n l i = false := by unfold hitB; rw [hp]; rfl
          rw [hp] at hs
          have hs : smF c n l (i + 1) = smF c n l i := hs
          rw [hs] at ih1 ih2
          simp only [Bool.false_eq_true, if_false]
          refine ⟨fun k h1 h2 h3 h4 => ?_, fun h => ?_⟩
          · rw [ih1 k (by
              by_cases e : k = i
              · subst e; rw [hh] at h3; cases h3
              · omega) h2 h3 fun j g1 g2 => h4 j (by omega) g2]; rfl
          · rw [ih2 fun j g1 g2 => h j (by omega) g2]; rfl
        | true =>
          have hp : preB c n l i = true := by unfold preB; rw [hb, hn0]; rfl
          rw [hp] at hs
          have hs : smF c n l (i + 1) = -1 := hs
          rw [hs] at ih1 ih2
          simp only [if_true]
          by_cases he : n i = l.length
          · have hh : hitB c n l i = true := by unfold hitB; rw [hp, Bool.true_and]; simpa using he
            rw [if_pos (by simp [he])]
            refine ⟨fun k h1 h2 h3 h4 => ?_, fun h => ?_⟩
            · by_cases e : k = i
              · subst e; rfl
              · have := h4 i (Nat.le_refl _) (by omega)
                rw [hh] at this; cases this
            · have := h i (Nat.le_refl _) hil
              rw [hh] at this; cases this
          · have hh : hitB c n l i = false := by unfold hitB; rw [hp, Bool.true_and]; simpa using he
            rw [if_neg (by simp; omega)]
            refine ⟨fun k h1 h2 h3 h4 => ?_, fun h => ?_⟩
            · rw [ih1 k (by
                by_cases e : k = i
                · subst e; rw [hh] at h3; cases h3
                · omega) h2 h3 fun j g1 g2 => h4 j (by omega) g2]; rfl
            · rw [ih2 fun j g1 g2 => h j (by omega) g2]; rfl

/-- What the document's 'Find' tells. -/
theorem F69_hit {N : Nat} (hN : 2000 < N) {C : List Cod} {c n : Nat → Nat} (hC : ∀ j, j < C.length → C[j]? = some ((c j : Int), (n j : Int), ()) ∧ c j < 1000000000 ∧ n j ≤ 15) (hl : C.length ≤ 1000) (l : List Bool) (hll : l.length ≤ 100) {k : Nat} (hk : k < C.length) (hh : hitB c n l k = true) (hf : ∀ j, j < k → hitB c n l j = false) : F69 N (C, l) = some (k : Int) := by
  obtain ⟨h1, _⟩ := F69_loop (N := N) (by omega) C c n hC hl l hll C.length 0 N (by omega) (by omega)
  simp only [F69]
  have := h1 k (Nat.zero_le _) hk hh fun j _ hj => hf j hj
  rw [show smF c n l 0 = -2 from rfl, show ((0 : Nat) : Int) = 0 from rfl] at this
  rw [this, Option.bind_some]

theorem F69_none {N : Nat} (hN : 2000 < N) {C : List Cod} {c n : Nat → Nat} (hC : ∀ j, j < C.length → C[j]? = some ((c j : Int), (n j : Int), ()) ∧ c j < 1000000000 ∧ n j ≤ 15) (hl : C.length ≤ 1000) (l : List Bool) (hll : l.length ≤ 100) (hf : ∀ j, j < C.length → hitB c n l j = false) : F69 N (C, l) = some (smF c n l C.length) := by
  obtain ⟨_, h2⟩ := F69_loop (N := N) (by omega) C c n hC hl l hll C.length 0 N (by omega) (by omega)
  simp only [F69]
  have := h2 fun j _ hj => hf j hj
  rw [show smF c n l 0 = -2 from rfl, show ((0 : Nat) : Int) = 0 from rfl] at this
  rw [this, Option.bind_some]
end Go.Proofs.Ytmcjfdognplgmaa.Am

namespace Go.Proofs.Ytmcjfdognplgmaa.Am
open Go.Am
set_option linter.unusedSimpArgs false
set_option linter.unusedVariables false

/-! ### How many numbers begin longer codes -/
/-- So many, d lengths below the longest one. -/
def restR (lens : List Int) (lg : Nat) : Nat → Nat
  | 0 => 0
  | d + 1 => (restR lens lg d + lens.count ((lg - d : Nat) : Int) + 1) / 2

theorem restR_le (lens : List Int) (lg : Nat) (hl : lens.length ≤ 320) : ∀ d, restR lens lg d ≤ 321
  | 0 => by simp [restR]
  | d + 1 => by
    have h1 := restR_le lens lg hl d
    have h2 : lens.count ((lg - d : Nat) : Int) ≤ 320 := Nat.le_trans List.count_le_length hl
    rw [restR]
    omega

theorem F67_loop (N : Nat) (lens : List Int) (hl : lens.length ≤ 320) (lg l : Nat) (hlg : lg ≤ 15) (hle : l ≤ lg) (x4 : Int) (x5 : List Int) : ∀ (e d f : Nat), d + e = lg - l → e < f →
    F67_58 N f ((restR lens lg d : Int), ((lg - d : Nat) : Int), (l : Int), cntL lens, x4, x5) = some ((restR lens lg (lg - l) : Int), cntL lens, x4, x5) := by
  intro e
  induction e with
  | zero =>
    intro d f hd hf
    cases f with
    | zero => omega
    | succ f =>
      simp only [F67_58, B67_58]
      rw [if_neg (by simp only [decide_eq_true_eq]; omega), show d = lg - l by omega]
  | succ e ih =>
    intro d f hd hf
    cases f with
    | zero => omega
    | succ f =>
      have ih' := ih (d + 1) f (by omega) (by omega)
      have hr := restR_le lens lg hl d
      have hc : lens.count ((lg - d : Nat) : Int) ≤ 320 := Nat.le_trans List.count_le_length hl
      simp only [F67_58, B67_58]
      rw [if_pos (by simp only [decide_eq_true_eq]; omega), if_pos (show within ((lg - d : Nat) : Int) 16 = true by unfold within; simp only [decide_eq_true_eq]; omega), Int.toNat_natCast, cntL_get _ (by omega), Option.bind_some]
      rw [wrap_i64 (z := (restR lens lg d : Int) + _) (by omega) (by omega), wrap_i64 (z := (restR lens lg d : Int) + (lens.count ((lg - d : Nat) : Int) : Int) + 1) (by omega) (by omega)]
      have e1 : Int.tdiv ((restR lens lg d : Int) + (lens.count ((lg - d : Nat) : Int) : Int) + 1) 2 = ((restR lens lg (d + 1) : Nat) : Int) := by
        rw [Int.tdiv_eq_ediv_of_nonneg (by omega), restR]; omega
      have hr2 := restR_le lens lg hl (d + 1)
      rw [e1, wrap_i64 (by omega) (by omega), wrap_i64 (by omega) (by omega), show ((lg - d : Nat) : Int) - 1 = ((lg - (d + 1) : Nat) : Int) by omega, ih', Option.bind_some]

theorem F67_rest {N : Nat} (hN : 20 < N) (lens : List Int) (hl : lens.length ≤ 320) (lg l : Nat) (hlg : lg ≤ 15) (hle : l ≤ lg) (x5 : List Int) : F67 N ((l : Int), cntL lens, (lg : Int), x5) = some ((restR lens lg (lg - l) : Int), cntL lens, (lg : Int), x5) := by
  simp only [F67]
  have h := F67_loop N lens hl lg l hlg hle (lg : Int) x5 (lg - l) 0 N (by omega) (by omega)
  rw [show ((restR lens lg 0 : Nat) : Int) = 0 from rfl, Nat.sub_zero] at h
  rw [h, Option.bind_some]

theorem lgUp_le (lens : List Int) : ∀ l, lgUp lens l ≤ l
  | 0 => Nat.le_refl _
  | l + 1 => by
    have := lgUp_le lens l
    rw [lgUp]
    unfold lgOr
    split <;> omega
end Go.Proofs.Ytmcjfdognplgmaa.Am

namespace Go.Proofs.Ytmcjfdognplgmaa.Am
open Go.Am
set_option linter.unusedSimpArgs false
set_option linter.unusedVariables false

/-! ### Reading -/
theorem bitsOf_get : ∀ (l : List UInt8) (j : Nat), j < 8 * l.length → (bitsOf l)[j]? = some ((l.getD (j / 8) 0).toNat.testBit (j % 8))
  | [], j, h => by simp at h
  | x :: l, j, h => by
    have e : bitsOf (x :: l) = bitsN 8 x.toNat ++ bitsOf l := by unfold bitsOf; rw [List.flatMap_cons]
    rw [e]
    by_cases h8 : j < 8
    · rw [List.getElem?_append_left (by rw [bitsN_length]; exact h8), getD_bitsN, if_pos h8, show j / 8 = 0 by omega, show j % 8 = j by omega]
      rfl
    · rw [List.getElem?_append_right (by rw [bitsN_length]; omega), bitsN_length, bitsOf_get l (j - 8) (by rw [List.length_cons] at h; omega), show j / 8 = (j - 8) / 8 + 1 by omega, show (j - 8) % 8 = j % 8 by omega]
      simp

theorem sbits_eq (s : ByteArray) (p k : Nat) (h : p + k ≤ 8 * s.size) : sbits s p k = ((allB s).drop p).take k := by
  have hal := allB_length s
  have hsl : s.data.toList.length = s.size := by simp
  apply List.ext_getElem?
  intro i
  unfold sbits
  by_cases hi : i < k
  · rw [List.getElem?_map, List.getElem?_range hi, List.getElem?_take_of_lt hi, List.getElem?_drop]
    unfold allB
    rw [bitsOf_get _ _ (by omega)]
    rfl
  · rw [List.getElem?_eq_none (by simp; omega), List.getElem?_eq_none (by simp; omega)]

/-- What the next bits are, and what is left. -/
def rd (L : List Bool) (p : Nat) (e n : Int) : Nat × Nat × Int :=
  if e = 0 then (if p + clampN n ≤ L.length then (val ((L.drop p).take (clampN n)), p + clampN n, 0) else (0, p, 2)) else (0, p, e)

theorem F74_left (N : Nat) (s : ByteArray) (p : Nat) (e : Int) (hs : s.size ≤ 1000000000) (hp : p ≤ 8 * s.size) : F74 N (s, (p : Int), e, ()) = some (((8 * s.size - p : Nat) : Int)) := by
  simp only [F74]
  rw [wrap_i64 (z := (8 : Int) * (s.size : Int)) (by omega) (by omega), wrap_i64 (by omega) (by omega)]
  congr 1
  omega

theorem F65_rd {N : Nat} (hN : 33 ≤ N) (s : ByteArray) (p : Nat) (e n : Int) (hs : s.size ≤ 1000000000) (hp : p ≤ 8 * s.size) :
    F65 N (n, s, (p : Int), e) = some (((rd (allB s) p e n).1 : Int), s, ((rd (allB s) p e n).2.1 : Int), (rd (allB s) p e n).2.2) := by
  have hal := allB_length s
  have hc := clampN_le n
  unfold rd
  by_cases he : e = 0
  · subst he
    rw [if_pos rfl]
    by_cases h : p + clampN n ≤ 8 * s.size
    · rw [if_pos (by omega), F65_read hN s p n hs h, sbits_eq s p _ h]
    · rw [if_neg (by omega)]
      simp only [F65, F71]
      rw [F42_clamp, Option.bind_some, if_pos (by simp), F74_left N s p 0 hs hp, Option.bind_some, if_pos (by simp; omega), Option.bind_some, if_pos (by simp)]
      rfl
  · rw [if_neg he]
    simp only [F65, F71]
    rw [F42_clamp, Option.bind_some, if_neg (by simpa using he), Option.bind_some, if_pos (by simpa using he)]
    rfl

theorem F57_rd {N : Nat} (hN : 63 ≤ N) (L : List Bool) (p : Nat) (e n : Int) (hL : L.length ≤ 1000000000) (hp : p ≤ L.length) :
    F57 N (n, (p : Int), e, L) = some (((rd L p e n).1 : Int), ((rd L p e n).2.1 : Int), (rd L p e n).2.2, L) := by
  have hc := clampN_le n
  unfold rd
  simp only [F57]
  rw [F44_clamp, Option.bind_some]
  by_cases he : e = 0
  · subst he
    rw [if_pos (by simp), if_pos rfl, wrap_i64 (z := (L.length : Int) - p) (by omega) (by omega)]
    by_cases h : p + clampN n ≤ L.length
    · have w1 : IntKind.wrap .i64 ((p : Int) + (clampN n : Int)) = ((p + clampN n : Nat) : Int) := by rw [wrap_i64 (by omega) (by omega)]; omega
      have w2 : IntKind.wrap .i64 (((p + clampN n : Nat) : Int) - (clampN n : Int)) = (p : Int) := by rw [wrap_i64 (by omega) (by omega)]; omega
      rw [if_neg (by simp only [decide_eq_true_eq]; omega), if_neg (by simp), w1, w2, if_pos (by simp only [decide_eq_true_eq]; omega), if_pos (by simp only [decide_eq_true_eq]; omega), if_pos h, Int.toNat_natCast, Int.toNat_natCast, show p + clampN n - p = clampN n by omega]
      rw [F52_number _ (by rw [List.length_take]; omega) hN, Option.bind_some]
    · rw [if_pos (by simp only [decide_eq_true_eq]; omega), if_neg h]
      rfl
  · rw [if_neg (by simpa using he), if_neg he, if_pos (by simpa using he)]
    rfl

theorem rd_le {L : List Bool} {p : Nat} {e n : Int} (hp : p ≤ L.length) : (rd L p e n).2.1 ≤ L.length := by
  unfold rd
  split
  · split <;> simp only <;> omega
  · exact hp

end Go.Proofs.Ytmcjfdognplgmaa.Am

namespace Go.Proofs.Ytmcjfdognplgmaa.Am
open Go.Am
set_option linter.unusedSimpArgs false
set_option linter.unusedVariables false

theorem or_bit (v b : Nat) (hv : v < 1000000000) (hb : b < 2) : IntKind.wrap .i64 ((BitVec.toNat (BitVec.ofInt 64 ((2 * v : Nat) : Int) ||| BitVec.ofInt 64 (b : Int)) : Nat) : Int) = ((2 * v + b : Nat) : Int) := by
  have e : (BitVec.ofInt 64 ((2 * v : Nat) : Int) ||| BitVec.ofInt 64 (b : Int)).toNat = 2 * v + b := by
    have h := Nat.two_pow_add_eq_or_of_lt (i := 1) (b := b) (by simpa using hb) v
    rw [BitVec.toNat_or, BitVec.ofInt_natCast, BitVec.ofInt_natCast, BitVec.toNat_ofNat, BitVec.toNat_ofNat, Nat.mod_eq_of_lt (by omega), Nat.mod_eq_of_lt (by omega)]
    simpa using h.symm
  rw [e]
  exact wrap_i64 (by omega) (by omega)

/-- What the next symbol is, or why there is none, and how far it was read: d lengths are left; v: the value of the bits so far. -/
def decN (lens : List Int) (lg : Nat) (L : List Bool) : Nat → Nat → Nat → Option (Int × Int × Nat)
  | 0, _, p => some (0, 3, p)
  | d + 1, v, p =>
    let l := lg - d
    if p < L.length then
      let w := 2 * v + (L.getD p false).toNat
      if w < first lens l + lens.count (l : Int) then
        if first lens l ≤ w then some ((symsUp lens 15).getD ((symsUp lens (l - 1)).length + (w - first lens l)) 0, 0, p + 1) else none
      else if restR lens lg d ≤ w - (first lens l + lens.count (l : Int)) then some (0, 3, p + 1)
      else decN lens lg L d w (p + 1)
    else some (0, 2, p)

theorem first_next (lens : List Int) {l : Nat} (h : 0 < l) : first lens (l + 1) = 2 * (first lens l + lens.count (l : Int)) := by
  match l, h with
  | k + 1, _ => rfl

theorem symsUp_step (lens : List Int) {l : Nat} (h : 0 < l) : (symsUp lens l).length = (symsUp lens (l - 1)).length + lens.count (l : Int) := by
  match l, h with
  | k + 1, _ =>
    rw [symsUp, List.length_append, symsTo_len lens (k + 1) lens.length (Nat.le_refl _), List.take_length]
    rfl

end Go.Proofs.Ytmcjfdognplgmaa.Am

namespace Go.Proofs.Ytmcjfdognplgmaa.Am
open Go.Am
set_option linter.unusedSimpArgs false
set_option linter.unusedVariables false

abbrev DR := Int × Int × (List Int) × Int × ByteArray × Int × Int × (List Int)
def resOf : (DR ⊕ ((List Int) × Int × ByteArray × Int × Int × (List Int))) → DR
  | .inl y => y
  | .inr z => (0, 3, z)

theorem rd_one {L : List Bool} {p : Nat} : rd L p 0 1 = if p + 1 ≤ L.length then ((L.getD p false).toNat, p + 1, 0) else (0, p, 2) := by
  have c : clampN 1 = 1 := rfl
  unfold rd
  rw [if_pos rfl, c]
  by_cases h : p + 1 ≤ L.length
  · rw [if_pos h, if_pos h]
    have e : (L.drop p).take 1 = [L.getD p false] := by
      rw [List.drop_eq_getElem_cons (by omega), List.take_succ_cons, List.take_zero, List.getD, List.getElem?_eq_getElem (by omega)]; rfl
    rw [e]
    simp [val]
  · rw [if_neg h, if_neg h]

theorem F54_loop {N : Nat} (hN : 100 ≤ N) (lens : List Int) (hl : lens.length ≤ 320) (s : ByteArray) (hs : s.size ≤ 1000000) (lg : Nat) (hlg : lg ≤ 15) :
    ∀ (d f v p : Nat), d ≤ lg → d < f → p ≤ 8 * s.size → v < 2 ^ (lg - d) → ∀ y e' p', decN lens lg (allB s) d v p = some (y, e', p') →
    (∀ l, l ≤ 15 → ∀ w, first lens l ≤ w → w < first lens l + lens.count (l : Int) → 0 < l → (symsUp lens (l - 1)).length + (w - first lens l) < (symsUp lens 15).length) →
    ∃ r, F54_58 N f (((symsUp lens (lg - d)).length : Int), ((first lens (lg - d + 1) : Nat) : Int), ((lg - d + 1 : Nat) : Int), ((2 * v : Nat) : Int), cntL lens, (lg : Int), s, (p : Int), 0, symsUp lens 15) = some r ∧
      resOf r = (y, e', cntL lens, (lg : Int), s, (p' : Int), (if e' = 2 then 2 else 0), symsUp lens 15) := by
  have hal := allB_length s
  intro d
  induction d with
  | zero =>
    intro f v p hd hf hp hv y e' p' hdec hin
    cases f with
    | zero => omega
    | succ f =>
      unfold decN at hdec
      cases hdec
      simp only [F54_58, B54_58]
      rw [if_neg (by simp only [decide_eq_true_eq]; omega)]
      exact ⟨_, rfl, rfl⟩
  | succ d ih =>
    intro f v p hd hf hp hv y e' p' hdec hin
    cases f with
    | zero => omega
    | succ f =>
      have hl1 : lg - (d + 1) + 1 = lg - d := by omega
      have hl0 : lg - (d + 1) = lg - d - 1 := by omega
      rw [hl1, hl0]
      have hlp : 0 < lg - d := by omega
      have hle : lg - d ≤ lg := by omega
      simp only [decN] at hdec
      have hfs := first_small lens hl (show lg - d ≤ 15 by omega)
      have hcl : lens.count ((lg - d : Nat) : Int) ≤ 320 := Nat.le_trans List.count_le_length hl
      have hsu := symsUp_len lens hl (lg - d - 1)
      have hv15 : 2 ^ (lg - (d + 1)) ≤ 2 ^ 15 := Nat.pow_le_pow_right (by decide) (by omega)
      have hd' : lg - (lg - d) = d := by omega
      have hrr := restR_le lens lg hl d
      have hfn := first_next lens hlp
      have hst := symsUp_step lens hlp
      generalize hL : lg - d = l at *
      have hwl : within (l : Int) 16 = true := by unfold within; simp only [decide_eq_true_eq]; omega
      have hg := cntL_get lens (show l < 16 by omega)
      have hF67 := F67_rest (N := N) (by omega) lens hl lg l hlg (by omega) (symsUp lens 15)
      rw [hd'] at hF67
      have h66 : ∀ (q : Nat) (e : Int), F66 N (s, (q : Int), e, ()) = some e := fun q e => rfl
      simp only [F54_58, B54_58]
      rw [if_pos (by simp only [decide_eq_true_eq]; omega), F65_rd (by omega) s p 0 1 (by omega) hp, Option.bind_some, rd_one]
      by_cases hlt : p < (allB s).length
      · rw [if_pos hlt] at hdec
        rw [if_pos (show p + 1 ≤ (allB s).length by omega)]
        have hb2 : ((allB s).getD p false).toNat < 2 := by cases (allB s).getD p false <;> decide
        generalize ((allB s).getD p false).toNat = b at *
        simp only
        rw [h66, Option.bind_some, if_neg (by decide), if_pos hwl, Int.toNat_natCast, hg, Option.bind_some, or_bit v b (by omega) hb2]
        have hvw : v ≤ 32768 := by omega
        have hw2 : 2 * v + b < 2 ^ l := by
          have e : 2 ^ l = 2 * 2 ^ (l - 1) := by
            obtain ⟨k, rfl⟩ : ∃ k, l = k + 1 := ⟨l - 1, by omega⟩
            rw [Nat.add_sub_cancel, Nat.pow_succ]; omega
          have e3 : lg - (d + 1) = l - 1 := by omega
          rw [e3] at hv
          omega
        generalize hw : 2 * v + b = w at *
        have hwb : w ≤ 65537 := by omega
        rw [wrap_i64 (z := (w : Int) - ((first lens l : Nat) : Int)) (by omega) (by omega)]
        by_cases hA : w < first lens l + lens.count (l : Int)
        · rw [if_pos hA] at hdec
          by_cases hF : first lens l ≤ w
          · rw [if_pos hF] at hdec
            simp only [Option.some.injEq, Prod.mk.injEq] at hdec
            obtain ⟨rfl, rfl, rfl⟩ := hdec
            have hi := hin l (by omega) w hF hA hlp
            have hidx : IntKind.wrap .i64 (((symsUp lens (l - 1)).length : Int) + ((w : Int) - ((first lens l : Nat) : Int))) = (((symsUp lens (l - 1)).length + (w - first lens l) : Nat) : Int) := by
              rw [wrap_i64 (by omega) (by omega)]; omega
            have hgi := get_at hi
            rw [if_pos (by simp only [decide_eq_true_eq]; omega), hidx, if_pos (show within (((symsUp lens (l - 1)).length + (w - first lens l) : Nat) : Int) (symsUp lens 15).length = true by unfold within; simp only [decide_eq_true_eq]; omega), Int.toNat_natCast, hgi, Option.bind_some]
            exact ⟨_, rfl, rfl⟩
          · rw [if_neg hF] at hdec
            cases hdec
        · rw [if_neg hA] at hdec
          have e2 : Int.fdiv (IntKind.wrap .i64 ((w : Int) * 2)) 2 = (w : Int) := by
            rw [wrap_i64 (by omega) (by omega), Int.fdiv_eq_ediv_of_nonneg _ (by decide)]; omega
          have e4 : IntKind.wrap .i64 (IntKind.wrap .i64 (((first lens l : Nat) : Int) + (lens.count (l : Int) : Int)) * 2) = ((first lens (l + 1) : Nat) : Int) := by
            rw [wrap_i64 (z := ((first lens l : Nat) : Int) + _) (by omega) (by omega), wrap_i64 (by omega) (by omega), hfn]; omega
          have e5 : Int.fdiv ((first lens (l + 1) : Nat) : Int) 2 = ((first lens l + lens.count (l : Int) : Nat) : Int) := by
            rw [Int.fdiv_eq_ediv_of_nonneg _ (by decide), hfn]; omega
          rw [if_neg (by simp only [decide_eq_true_eq]; omega), if_pos hwl, Option.bind_some, if_pos hwl, Option.bind_some, hF67, Option.bind_some]
          simp only [e2, e4, e5]
          rw [wrap_i64 (z := (w : Int) - _) (by omega) (by omega)]
          by_cases hR : restR lens lg d ≤ w - (first lens l + lens.count (l : Int))
          · rw [if_pos hR] at hdec
            simp only [Option.some.injEq, Prod.mk.injEq] at hdec
            obtain ⟨rfl, rfl, rfl⟩ := hdec
            rw [if_pos (by simp only [decide_eq_true_eq]; omega)]
            exact ⟨_, rfl, rfl⟩
          · rw [if_neg hR] at hdec
            obtain ⟨r, r1, r2⟩ := ih f w (p + 1) (by omega) (by omega) (by omega) hw2 y e' p' hdec hin
            have hstl : (symsUp lens l).length ≤ 320 * l := symsUp_len lens hl l
            have e6 : IntKind.wrap .i64 (((symsUp lens (l - 1)).length : Int) + (lens.count (l : Int) : Int)) = ((symsUp lens l).length : Int) := by
              rw [wrap_i64 (by omega) (by omega), hst]; omega
            have e7 : IntKind.wrap .i64 ((w : Int) * 2) = ((2 * w : Nat) : Int) := by rw [wrap_i64 (by omega) (by omega)]; omega
            have e8 : IntKind.wrap .i64 ((l : Int) + 1) = ((l + 1 : Nat) : Int) := by rw [wrap_i64 (by omega) (by omega)]; omega
            rw [if_neg (by simp only [decide_eq_true_eq]; omega), e6, e7, e8, r1, Option.bind_some]
            cases r with
            | inl z => exact ⟨_, rfl, r2⟩
            | inr z => exact ⟨_, rfl, r2⟩
      · rw [if_neg hlt] at hdec
        cases hdec
        rw [if_neg (show ¬ p + 1 ≤ (allB s).length by omega)]
        simp only
        rw [h66, Option.bind_some, if_pos (by decide)]
        exact ⟨_, rfl, rfl⟩
end Go.Proofs.Ytmcjfdognplgmaa.Am

namespace Go.Proofs.Ytmcjfdognplgmaa.Am
open Go.Am
set_option linter.unusedSimpArgs false
set_option linter.unusedVariables false

theorem symsUp_mono (lens : List Int) (l : Nat) : ∀ k, (symsUp lens l).length ≤ (symsUp lens (l + k)).length
  | 0 => Nat.le_refl _
  | k + 1 => by
    have := symsUp_mono lens l k
    rw [← Nat.add_assoc, symsUp, List.length_append]
    omega

theorem dec_in (lens : List Int) : ∀ l, l ≤ 15 → ∀ w, first lens l ≤ w → w < first lens l + lens.count (l : Int) → 0 < l → (symsUp lens (l - 1)).length + (w - first lens l) < (symsUp lens 15).length := by
  intro l hl w h1 h2 h0
  have hst := symsUp_step lens h0
  have hm := symsUp_mono lens l (15 - l)
  rw [show l + (15 - l) = 15 by omega] at hm
  omega
end Go.Proofs.Ytmcjfdognplgmaa.Am
namespace Go.Proofs.Ytmcjfdognplgmaa.Am
open Go.Am

/-- What 'Next' tells, of a reader without an error. -/
theorem F54_next {N : Nat} (hN : 100 ≤ N) (lens : List Int) (hl : lens.length ≤ 320) (s : ByteArray) (hs : s.size ≤ 1000000) (p : Nat) (hp : p ≤ 8 * s.size) {y e' : Int} {p' : Nat} (hd : decN lens (lgUp lens 15) (allB s) (lgUp lens 15) 0 p = some (y, e', p')) :
    F54 N (cntL lens, ((lgUp lens 15 : Nat) : Int), s, (p : Int), 0, symsUp lens 15) = some (y, e', cntL lens, ((lgUp lens 15 : Nat) : Int), s, (p' : Int), (if e' = 2 then 2 else 0), symsUp lens 15) := by
  have hlg := lgUp_le lens 15
  obtain ⟨r, r1, r2⟩ := F54_loop hN lens hl s hs (lgUp lens 15) hlg (lgUp lens 15) N 0 p (Nat.le_refl _) (by omega) hp (by rw [Nat.sub_self]; decide) y e' p' hd (dec_in lens)
  rw [Nat.sub_self] at r1
  simp only [F54]
  have r1' : F54_58 N N (0, 0, 1, 0, cntL lens, ((lgUp lens 15 : Nat) : Int), s, (p : Int), 0, symsUp lens 15) = some r := r1
  rw [r1', Option.bind_some]
  cases r with
  | inl z => rw [← r2]; rfl
  | inr z => rw [← r2]; rfl
end Go.Proofs.Ytmcjfdognplgmaa.Am

namespace Go.Proofs.Ytmcjfdognplgmaa.Am
open Go.Am
set_option linter.unusedSimpArgs false
set_option linter.unusedVariables false

/-! ### Codes as numbers: where those of a length lie, and what they begin with -/
/-- A symbol's code, as a number. -/
def codeN (lens : List Int) (j : Nat) : Nat := first lens (lens.getD j 0).toNat + (lens.take j).count (lens.getD j 0)

theorem getD_at {lens : List Int} {j : Nat} (h : j < lens.length) : lens.getD j 0 = lens[j] := by
  rw [List.getD, List.getElem?_eq_getElem h]; rfl

theorem codeAt_eq (lens : List Int) (j : Nat) : codeAt lens j = if 0 < lens.getD j 0 then ((codeN lens j : Int), lens.getD j 0, ()) else (0, 0, ()) := rfl

theorem count_take_lt {lens : List Int} {j : Nat} (h : j < lens.length) : (lens.take j).count (lens.getD j 0) < lens.count (lens.getD j 0) := by
  have e : lens.count (lens.getD j 0) = (lens.take (j + 1) ++ lens.drop (j + 1)).count (lens.getD j 0) := by rw [List.take_append_drop]
  rw [e, take_snoc h, List.count_append, List.count_append, getD_at h, List.count_singleton_self]
  omega

/-- The j-th code of a length, in order. -/
theorem symsTo_at (lens : List Int) (l : Nat) : ∀ n, n ≤ lens.length → ∀ r, r < (symsTo lens l n).length → ∃ j, j < n ∧ lens.getD j 0 = (l : Int) ∧ (lens.take j).count (l : Int) = r ∧ (symsTo lens l n).getD r 0 = (j : Int)
  | 0, _, r, h => by simp [symsTo] at h
  | n + 1, hn, r, h => by
    have ih := symsTo_at lens l n (by omega)
    have hlen := symsTo_len lens l n (by omega)
    by_cases e : lens.getD n 0 = (l : Int)
    · have es : symsTo lens l (n + 1) = symsTo lens l n ++ [(n : Int)] := by rw [symsTo, if_pos e]
      rw [es] at h ⊢
      rw [List.length_append, List.length_singleton] at h
      by_cases hr : r < (symsTo lens l n).length
      · obtain ⟨j, h1, h2, h3, h4⟩ := ih r hr
        refine ⟨j, by omega, h2, h3, ?_⟩
        rw [List.getD, List.getElem?_append_left hr]
        exact h4
      · have : r = (symsTo lens l n).length := by omega
        subst this
        refine ⟨n, by omega, e, hlen.symm, ?_⟩
        rw [List.getD, List.getElem?_append_right (Nat.le_refl _), Nat.sub_self]
        rfl
    · have es : symsTo lens l (n + 1) = symsTo lens l n := by rw [symsTo, if_neg e]
      rw [es] at h ⊢
      obtain ⟨j, h1, h2⟩ := ih r h
      exact ⟨j, by omega, h2⟩

theorem symsUp_get (lens : List Int) {l : Nat} (h0 : 0 < l) {r : Nat} (hr : r < lens.count (l : Int)) : ∀ k, (symsUp lens (l + k)).getD ((symsUp lens (l - 1)).length + r) 0 = (symsTo lens l lens.length).getD r 0
  | 0 => by
    obtain ⟨m, rfl⟩ : ∃ m, l = m + 1 := ⟨l - 1, by omega⟩
    have hlen := symsTo_len lens (m + 1) lens.length (Nat.le_refl _)
    rw [List.take_length] at hlen
    rw [Nat.add_zero, Nat.add_sub_cancel, symsUp, List.getD, List.getD, List.getElem?_append_right (by omega), Nat.add_sub_cancel_left]
  | k + 1 => by
    have ih := symsUp_get lens h0 hr k
    have hst := symsUp_step lens h0
    have hm := symsUp_mono lens l k
    rw [← Nat.add_assoc, symsUp, List.getD, List.getElem?_append_left (by omega)]
    exact ih

/-- Which symbol a number of a length is. -/
theorem sym_at (lens : List Int) {l : Nat} (h0 : 0 < l) (hl : l ≤ 15) {w : Nat} (h1 : first lens l ≤ w) (h2 : w < first lens l + lens.count (l : Int)) :
    ∃ j, j < lens.length ∧ lens.getD j 0 = (l : Int) ∧ codeN lens j = w ∧ (symsUp lens 15).getD ((symsUp lens (l - 1)).length + (w - first lens l)) 0 = (j : Int) := by
  have hlen := symsTo_len lens l lens.length (Nat.le_refl _)
  rw [List.take_length] at hlen
  have hg := symsUp_get lens h0 (show w - first lens l < lens.count (l : Int) by omega) (15 - l)
  rw [show l + (15 - l) = 15 by omega] at hg
  obtain ⟨j, a1, a2, a3, a4⟩ := symsTo_at lens l lens.length (Nat.le_refl _) (w - first lens l) (by omega)
  refine ⟨j, a1, a2, ?_, by rw [hg, a4]⟩
  unfold codeN
  rw [a2, a3, Int.toNat_natCast]
  omega

theorem codeN_range {lens : List Int} {j : Nat} (hj : j < lens.length) {l : Nat} (hl : lens.getD j 0 = (l : Int)) : first lens l ≤ codeN lens j ∧ codeN lens j < first lens l + lens.count (l : Int) := by
  have h := count_take_lt hj
  unfold codeN
  rw [hl] at h ⊢
  rw [Int.toNat_natCast]
  omega

theorem codeN_inj {lens : List Int} {i j : Nat} (hi : i < lens.length) (hj : j < lens.length) (h1 : lens.getD i 0 = lens.getD j 0) (h2 : codeN lens i = codeN lens j) : i = j := by
  have key : ∀ a b, a < b → b < lens.length → lens.getD a 0 = lens.getD b 0 → (lens.take a).count (lens.getD a 0) < (lens.take b).count (lens.getD a 0) := by
    intro a b hab hb he
    have e : lens.take b = (lens.take b).take (a + 1) ++ (lens.take b).drop (a + 1) := (List.take_append_drop ..).symm
    rw [e, List.count_append, List.take_take, Nat.min_eq_left (by omega), take_snoc (show a < lens.length by omega), List.count_append, getD_at (show a < lens.length by omega), List.count_singleton_self]
    omega
  unfold codeN at h2
  rw [h1] at h2
  rcases Nat.lt_trichotomy i j with h | h | h
  · have := key i j h hj h1
    rw [h1] at this
    omega
  · exact h
  · have := key j i h hi h1.symm
    omega

/-- The longest length that comes. -/
theorem lgUp_none (lens : List Int) : ∀ n l, lgUp lens n < l → l ≤ n → lens.count (l : Int) = 0
  | 0, l, h1, h2 => by omega
  | n + 1, l, h1, h2 => by
    have hlen := symsTo_len lens (n + 1) lens.length (Nat.le_refl _)
    rw [List.take_length] at hlen
    rw [lgUp] at h1
    unfold lgOr at h1
    by_cases he : (symsTo lens (n + 1) lens.length).isEmpty = true
    · rw [if_pos he] at h1
      by_cases h : l = n + 1
      · subst h
        rw [List.isEmpty_iff] at he
        rw [← hlen, he]; rfl
      · exact lgUp_none lens n l h1 (by omega)
    · rw [if_neg he] at h1
      omega

theorem lgUp_some (lens : List Int) : ∀ n, 0 < lgUp lens n → 0 < lens.count ((lgUp lens n : Nat) : Int)
  | 0, h => by simp [lgUp] at h
  | n + 1, h => by
    have hlen := symsTo_len lens (n + 1) lens.length (Nat.le_refl _)
    rw [List.take_length] at hlen
    rw [lgUp] at h ⊢
    unfold lgOr at h ⊢
    by_cases he : (symsTo lens (n + 1) lens.length).isEmpty = true
    · rw [if_pos he] at h ⊢
      exact lgUp_some lens n h
    · rw [if_neg he] at h ⊢
      have : (symsTo lens (n + 1) lens.length) ≠ [] := fun e => he (by rw [e]; rfl)
      have := List.length_pos_iff.2 this
      omega

/-- A length that comes is not above the longest one. -/
theorem len_le_lg {lens : List Int} (hok : okB lens = true) {j : Nat} (hj : j < lens.length) : (lens.getD j 0).toNat ≤ lgUp lens 15 := by
  obtain ⟨a, b⟩ := okB_at hok hj
  rw [← getD_at hj] at a b
  refine Classical.byContradiction fun hn => ?_
  have h := lgUp_none lens 15 (lens.getD j 0).toNat (by omega) (by omega)
  have e : (((lens.getD j 0).toNat : Nat) : Int) = lens.getD j 0 := by omega
  rw [e] at h
  have := count_take_lt hj
  omega

theorem div_pow_succ (a b : Nat) : a / 2 ^ (b + 1) = a / 2 ^ b / 2 := by rw [Nat.pow_succ, Nat.div_div_eq_div_mul]

/-- With which numbers longer codes begin. -/
theorem pre_range {lens : List Int} (hok : okB lens = true) : ∀ d l, 0 < l → l + d = lgUp lens 15 → ∀ w,
    (∃ j, j < lens.length ∧ (l : Int) < lens.getD j 0 ∧ codeN lens j / 2 ^ ((lens.getD j 0).toNat - l) = w) ↔ (first lens l + lens.count (l : Int) ≤ w ∧ w < first lens l + lens.count (l : Int) + restR lens (lgUp lens 15) d)
  | 0, l, h0, h1, w => by
    constructor
    · rintro ⟨j, hj, h2, _⟩
      have := len_le_lg hok hj
      omega
    · rintro ⟨h2, h3⟩
      rw [restR] at h3
      omega
  | d + 1, l, h0, h1, w => by
    have ih := pre_range hok d (l + 1) (by omega) (by omega)
    have hf := first_next lens h0
    have hr : restR lens (lgUp lens 15) (d + 1) = (restR lens (lgUp lens 15) d + lens.count ((l + 1 : Nat) : Int) + 1) / 2 := by
      rw [restR, show lgUp lens 15 - d = l + 1 by omega]
    have hlg := lgUp_le lens 15
    constructor
    · rintro ⟨j, hj, h2, h3⟩
      by_cases e : lens.getD j 0 = ((l + 1 : Nat) : Int)
      · obtain ⟨r1, r2⟩ := codeN_range hj e
        rw [e, show ((l + 1 : Nat) : Int).toNat - l = 1 by omega] at h3
        omega
      · have h4 := (ih (codeN lens j / 2 ^ ((lens.getD j 0).toNat - (l + 1)))).1 ⟨j, hj, by omega, rfl⟩
        rw [show (lens.getD j 0).toNat - l = (lens.getD j 0).toNat - (l + 1) + 1 by omega, div_pow_succ] at h3
        omega
    · rintro ⟨h2, h3⟩
      by_cases e : 2 * w < first lens (l + 1) + lens.count ((l + 1 : Nat) : Int)
      · obtain ⟨j, a1, a2, a3, _⟩ := sym_at lens (l := l + 1) (w := 2 * w) (by omega) (by omega) (by omega) e
        refine ⟨j, a1, by omega, ?_⟩
        rw [a2, a3, show ((l + 1 : Nat) : Int).toNat - l = 1 by omega]
        omega
      · obtain ⟨j, a1, a2, a3⟩ := (ih (2 * w)).2 (by omega)
        refine ⟨j, a1, by omega, ?_⟩
        rw [show (lens.getD j 0).toNat - l = (lens.getD j 0).toNat - (l + 1) + 1 by omega, div_pow_succ, a3]
        omega

/-- Codes of a length are below its power of two. -/
theorem room {lens : List Int} : ∀ l, lf lens (l + 1) = 2 ^ (l + 1) - ((first lens (l + 1) + lens.count ((l + 1 : Nat) : Int) : Nat) : Int)
  | 0 => by simp [lf, first]
  | l + 1 => by
    have hf := first_next lens (Nat.succ_pos l)
    rw [Nat.succ_eq_add_one] at hf
    rw [lf, room l, hf, Int.pow_succ 2 (l + 1)]
    omega

theorem chk_room {lens : List Int} (h : (chk lens).2 = 0) {l : Nat} (h0 : 0 < l) (hl : l ≤ 15) : first lens l + lens.count (l : Int) ≤ 2 ^ l := by
  have h15 : 0 ≤ lf lens 15 := by
    unfold chk at h
    by_cases hh : okL lens = true ∧ 0 ≤ lf lens 15
    · exact hh.2
    · rw [if_neg hh] at h; cases h
  have hl0 : 0 ≤ lf lens l := Int.not_lt.1 fun hn => by
    have := lf_neg lens l (15 - l) hn
    rw [show l + (15 - l) = 15 by omega] at this
    omega
  obtain ⟨m, rfl⟩ : ∃ m, l = m + 1 := ⟨l - 1, by omega⟩
  rw [room] at hl0
  have : ((2 ^ (m + 1) : Nat) : Int) = (2 : Int) ^ (m + 1) := by simp
  omega

theorem codeN_lt {lens : List Int} (h : (chk lens).2 = 0) {j : Nat} (hj : j < lens.length) (h0 : 0 < lens.getD j 0) : codeN lens j < 2 ^ (lens.getD j 0).toNat := by
  obtain ⟨a1, a2⟩ := chk_ok h
  obtain ⟨b1, b2⟩ := okB_at a2 hj
  rw [← getD_at hj] at b1 b2
  have e : lens.getD j 0 = (((lens.getD j 0).toNat : Nat) : Int) := by omega
  obtain ⟨r1, r2⟩ := codeN_range hj e
  have := chk_room h (l := (lens.getD j 0).toNat) (by omega) (by omega)
  omega
end Go.Proofs.Ytmcjfdognplgmaa.Am

namespace Go.Proofs.Ytmcjfdognplgmaa.Am
open Go.Am
set_option linter.unusedSimpArgs false
set_option linter.unusedVariables false

theorem snoc_ind {α : Type} {motive : List α → Prop} (h0 : motive []) (h1 : ∀ l b, motive l → motive (l ++ [b])) (l : List α) : motive l := by
  have key : ∀ m : List α, motive m.reverse := fun m => by
    induction m with
    | nil => exact h0
    | cons b m ih => rw [List.reverse_cons]; exact h1 _ _ ih
  have := key l.reverse
  rwa [List.reverse_reverse] at this

/-- The number of some bits, the first one the greatest. -/
def valB (l : List Bool) : Nat := l.foldl (fun n b => 2 * n + b.toNat) 0
theorem valB_snoc (l : List Bool) (b : Bool) : valB (l ++ [b]) = 2 * valB l + b.toNat := by unfold valB; rw [List.foldl_append]; rfl
theorem valB_lt (l : List Bool) : valB l < 2 ^ l.length := by
  refine snoc_ind (motive := fun l => valB l < 2 ^ l.length) (by decide) (fun l b ih => ?_) l
  rw [valB_snoc, List.length_append, List.length_singleton, Nat.pow_succ]
  cases b <;> simp only [Bool.toNat_true, Bool.toNat_false] <;> omega

theorem beginsN_snoc (c n : Nat) (l : List Bool) (b : Bool) : beginsN c n (l ++ [b]) = (beginsN c n l && (decide (l.length < n) && (bitOf c n l.length == b))) := by
  unfold beginsN
  rw [List.length_append, List.length_singleton, List.range_succ, List.all_append]
  have e1 : ((List.range l.length).all fun i => bitOf c n i == (l ++ [b]).getD i false) = (List.range l.length).all fun i => bitOf c n i == l.getD i false := by
    apply Bool.eq_iff_iff.2
    rw [List.all_eq_true, List.all_eq_true]
    constructor
    · intro h i hi
      have := h i hi
      rwa [List.getD, List.getElem?_append_left (List.mem_range.1 hi)] at this
    · intro h i hi
      rw [List.getD, List.getElem?_append_left (List.mem_range.1 hi)]
      exact h i hi
  have e2 : (l ++ [b]).getD l.length false = b := by rw [List.getD, List.getElem?_append_right (Nat.le_refl _), Nat.sub_self]; rfl
  rw [e1]
  simp only [List.all_cons, List.all_nil, Bool.and_true, e2]
  by_cases h : l.length + 1 ≤ n
  · rw [decide_eq_true h, decide_eq_true (show l.length ≤ n by omega), decide_eq_true (show l.length < n by omega)]
    simp only [Bool.true_and]
  · rw [decide_eq_false h, decide_eq_false (show ¬ l.length < n by omega)]
    simp only [Bool.false_and, Bool.and_false]

theorem beginsN_iff {c n : Nat} (hc : c < 2 ^ n) (l : List Bool) : beginsN c n l = true ↔ l.length ≤ n ∧ c / 2 ^ (n - l.length) = valB l := by
  refine snoc_ind (motive := fun l => beginsN c n l = true ↔ l.length ≤ n ∧ c / 2 ^ (n - l.length) = valB l) ?_ (fun l b ih => ?_) l
  · have : c / 2 ^ n = 0 := Nat.div_eq_of_lt hc
    simp [beginsN, valB, this]
  · rw [beginsN_snoc, Bool.and_eq_true, Bool.and_eq_true, ih, valB_snoc, List.length_append, List.length_singleton, decide_eq_true_eq, beq_iff_eq]
    unfold bitOf
    constructor
    · rintro ⟨⟨h1, h2⟩, h3, h4⟩
      refine ⟨h3, ?_⟩
      rw [show n - l.length = n - (l.length + 1) + 1 by omega, div_pow_succ] at h2
      rw [show n - 1 - l.length = n - (l.length + 1) by omega, Nat.testBit_eq_decide_div_mod_eq] at h4
      generalize c / 2 ^ (n - (l.length + 1)) = q at *
      rcases Nat.mod_two_eq_zero_or_one q with h | h <;> rw [h] at h4 <;> subst h4 <;> simp <;> omega
    · rintro ⟨h3, h4⟩
      rw [show n - l.length = n - (l.length + 1) + 1 by omega, div_pow_succ, show n - 1 - l.length = n - (l.length + 1) by omega, Nat.testBit_eq_decide_div_mod_eq]
      generalize c / 2 ^ (n - (l.length + 1)) = q at *
      subst h4
      refine ⟨⟨by omega, ?_⟩, h3, ?_⟩ <;> cases b <;> simp <;> omega

/-! ### The document's 'Find', by numbers -/
theorem codesOf_at (lens : List Int) {j : Nat} (hj : j < lens.length) : (codesOf lens)[j]? = some (codeAt lens j) := by
  unfold codesOf; rw [List.getElem?_map, List.getElem?_range hj]; rfl

/-- Codes and their lengths, as the document has them. -/
def cN (lens : List Int) (j : Nat) : Nat := if 0 < lens.getD j 0 then codeN lens j else 0
def nN (lens : List Int) (j : Nat) : Nat := (lens.getD j 0).toNat

theorem codes_hyp {lens : List Int} (h : (chk lens).2 = 0) : ∀ j, j < (codesOf lens).length → (codesOf lens)[j]? = some ((cN lens j : Int), (nN lens j : Int), ()) ∧ cN lens j < 1000000000 ∧ nN lens j ≤ 15 := by
  intro j hj
  rw [codesOf_len] at hj
  obtain ⟨a1, a2⟩ := chk_ok h
  obtain ⟨b1, b2⟩ := okB_at a2 hj
  rw [← getD_at hj] at b1 b2
  rw [codesOf_at lens hj, codeAt_eq]
  unfold cN nN
  by_cases h0 : 0 < lens.getD j 0
  · rw [if_pos h0, if_pos h0]
    have := codeN_lt h hj h0
    have hp : 2 ^ (lens.getD j 0).toNat ≤ 2 ^ 15 := Nat.pow_le_pow_right (by decide) (by omega)
    refine ⟨?_, by omega, by omega⟩
    rw [Int.toNat_of_nonneg b1]
  · rw [if_neg h0, if_neg h0]
    have e : lens.getD j 0 = 0 := by omega
    rw [e]
    exact ⟨rfl, by omega, by decide⟩

theorem preB_iff {lens : List Int} (h : (chk lens).2 = 0) {j : Nat} (hj : j < lens.length) (l : List Bool) :
    preB (cN lens) (nN lens) l j = true ↔ 0 < lens.getD j 0 ∧ l.length ≤ (lens.getD j 0).toNat ∧ codeN lens j / 2 ^ ((lens.getD j 0).toNat - l.length) = valB l := by
  obtain ⟨a1, a2⟩ := chk_ok h
  obtain ⟨b1, b2⟩ := okB_at a2 hj
  rw [← getD_at hj] at b1 b2
  unfold preB
  rw [Bool.and_eq_true, Bool.not_eq_true', beq_eq_false_iff_ne]
  by_cases h0 : 0 < lens.getD j 0
  · have e : cN lens j = codeN lens j := by unfold cN; rw [if_pos h0]
    unfold nN
    rw [e, beginsN_iff (codeN_lt h hj h0)]
    constructor
    · rintro ⟨x, y⟩; exact ⟨h0, y⟩
    · rintro ⟨x, y⟩; exact ⟨by omega, y⟩
  · constructor
    · rintro ⟨x, y⟩; unfold nN at x; omega
    · rintro ⟨x, y⟩; exact absurd x h0

theorem hitB_iff {lens : List Int} (h : (chk lens).2 = 0) {j : Nat} (hj : j < lens.length) (l : List Bool) :
    hitB (cN lens) (nN lens) l j = true ↔ 0 < l.length ∧ lens.getD j 0 = (l.length : Int) ∧ codeN lens j = valB l := by
  unfold hitB
  rw [Bool.and_eq_true, preB_iff h hj, beq_iff_eq]
  unfold nN
  constructor
  · rintro ⟨⟨x, y, z⟩, w⟩
    rw [w, Nat.sub_self, Nat.pow_zero, Nat.div_one] at z
    exact ⟨by omega, by omega, z⟩
  · rintro ⟨x, y, z⟩
    rw [y, Int.toNat_natCast, Nat.sub_self, Nat.pow_zero, Nat.div_one]
    exact ⟨⟨by omega, Nat.le_refl _, z⟩, rfl⟩

theorem bool_false {b : Bool} (h : ¬ b = true) : b = false := by cases b <;> simp_all

/-- Some bits that are a code. -/
theorem find_hit {N : Nat} (hN : 2000 < N) {lens : List Int} (h : (chk lens).2 = 0) (l : List Bool) (h0 : 0 < l.length) (hl : l.length ≤ 15) (h1 : first lens l.length ≤ valB l) (h2 : valB l < first lens l.length + lens.count (l.length : Int)) :
    ∃ k : Nat, k < lens.length ∧ F69 N (codesOf lens, l) = some (k : Int) ∧ (symsUp lens 15).getD ((symsUp lens (l.length - 1)).length + (valB l - first lens l.length)) 0 = (k : Int) := by
  obtain ⟨a1, a2⟩ := chk_ok h
  obtain ⟨k, k1, k2, k3, k4⟩ := sym_at lens h0 hl h1 h2
  refine ⟨k, k1, ?_, k4⟩
  have hC := codesOf_len lens
  refine F69_hit hN (codes_hyp h) (by omega) l (by omega) (by omega) ((hitB_iff h k1 l).2 ⟨h0, k2, k3⟩) fun j hj => bool_false fun hh => ?_
  obtain ⟨_, g2, g3⟩ := (hitB_iff h (show j < lens.length by omega) l).1 hh
  have := codeN_inj (show j < lens.length by omega) k1 (by omega) (by omega)
  omega

theorem smF_any {c n : Nat → Nat} {l : List Bool} {i : Nat} (h : ∃ j, j < i ∧ preB c n l j = true) : smF c n l i = -1 := by
  obtain ⟨j, h1, h2⟩ := h
  have : (List.range i).any (preB c n l) = true := List.any_eq_true.2 ⟨j, List.mem_range.2 h1, h2⟩
  unfold smF; rw [this]; rfl
theorem smF_none {c n : Nat → Nat} {l : List Bool} {i : Nat} (h : ∀ j, j < i → preB c n l j = false) : smF c n l i = -2 := by
  have : (List.range i).any (preB c n l) = false := by
    rw [List.any_eq_false]
    intro j hj
    rw [h j (List.mem_range.1 hj)]
    decide
  unfold smF; rw [this]; rfl

/-- Some bits that are no code: do they begin one? -/
theorem find_more {N : Nat} (hN : 2000 < N) {lens : List Int} (h : (chk lens).2 = 0) (l : List Bool) (h0 : 0 < l.length) (d : Nat) (hd : l.length + d = lgUp lens 15) (h1 : first lens l.length + lens.count (l.length : Int) ≤ valB l) :
    F69 N (codesOf lens, l) = some (if restR lens (lgUp lens 15) d ≤ valB l - (first lens l.length + lens.count (l.length : Int)) then -2 else -1) := by
  obtain ⟨a1, a2⟩ := chk_ok h
  have hC := codesOf_len lens
  have hlg := lgUp_le lens 15
  have hp := pre_range a2 d l.length h0 hd (valB l)
  rw [F69_none hN (codes_hyp h) (by omega) l (by omega) fun j hj => bool_false fun hh => ?_, hC]
  · congr 1
    by_cases hr : restR lens (lgUp lens 15) d ≤ valB l - (first lens l.length + lens.count (l.length : Int))
    · rw [if_pos hr]
      refine smF_none fun j hj => bool_false fun hh => ?_
      obtain ⟨g1, g2, g3⟩ := (preB_iff h hj l).1 hh
      by_cases e : (lens.getD j 0).toNat = l.length
      · obtain ⟨r1, r2⟩ := codeN_range hj (l := l.length) (by omega)
        rw [e, Nat.sub_self, Nat.pow_zero, Nat.div_one] at g3
        omega
      · have := hp.1 ⟨j, hj, by omega, g3⟩
        omega
    · rw [if_neg hr]
      obtain ⟨j, hj, g2, g3⟩ := hp.2 ⟨h1, by omega⟩
      exact smF_any ⟨j, hj, (preB_iff h hj l).2 ⟨by omega, by omega, g3⟩⟩
  · obtain ⟨g1, g2, g3⟩ := (hitB_iff h (by omega) l).1 hh
    obtain ⟨r1, r2⟩ := codeN_range (show j < lens.length by omega) g2
    omega

/-- No bits. -/
theorem find_nil {N : Nat} (hN : 2000 < N) {lens : List Int} (h : (chk lens).2 = 0) : F69 N (codesOf lens, []) = some (if lgUp lens 15 = 0 then -2 else -1) := by
  obtain ⟨a1, a2⟩ := chk_ok h
  have hC := codesOf_len lens
  rw [F69_none hN (codes_hyp h) (by omega) [] (by decide) fun j hj => bool_false fun hh => ?_, hC]
  · congr 1
    by_cases hr : lgUp lens 15 = 0
    · rw [if_pos hr]
      refine smF_none fun j hj => bool_false fun hh => ?_
      obtain ⟨g1, g2, g3⟩ := (preB_iff h hj []).1 hh
      have := len_le_lg a2 hj
      omega
    · rw [if_neg hr]
      have := lgUp_some lens 15 (by omega)
      obtain ⟨j, hj, e⟩ := List.getElem_of_mem (List.count_pos_iff.1 this)
      rw [← getD_at hj] at e
      have hlt := codeN_lt h hj (by omega)
      exact smF_any ⟨j, hj, (preB_iff h hj []).2 ⟨by omega, Nat.zero_le _, by
        rw [List.length_nil, Nat.sub_zero, Nat.div_eq_of_lt hlt]; rfl⟩⟩
  · obtain ⟨g1, g2, g3⟩ := (hitB_iff h (by omega) []).1 hh
    exact absurd g1 (by decide)

/-! ### The document's next symbol -/
theorem dec_symbol {N : Nat} (hN : 2000 < N) {lens : List Int} (h : (chk lens).2 = 0) (L : List Bool) (hL : L.length ≤ 1000000000) :
    ∀ (d f p : Nat) (l : List Bool), l.length + d = lgUp lens 15 → d < f → p ≤ L.length → F69 N (codesOf lens, l) = some (-1) → (0 < l.length → first lens l.length + lens.count (l.length : Int) ≤ valB l) → 0 < d →
    ∃ (y e : Int) (p' : Nat), decN lens (lgUp lens 15) L d (valB l) p = some (y, e, p') ∧ F56_14 N f (codesOf lens, (p : Int), 0, l, L) = some (y, e, (p' : Int), (if e = 2 then 2 else 0), L) ∧ (e = 0 ∨ e = 2 ∨ e = 3) ∧ p ≤ p' ∧ p' ≤ L.length ∧ (e = 0 → p < p' ∧ 0 ≤ y ∧ y < (lens.length : Int)) := by
  have hlg := lgUp_le lens 15
  intro d
  induction d with
  | zero => intro f p l _ _ _ _ _ hd; omega
  | succ d ih =>
    intro f p l hl hf hp hF hge _
    cases f with
    | zero => omega
    | succ f =>
      have e1 : lgUp lens 15 - d = l.length + 1 := by omega
      simp only [decN, F56_14, B56_14]
      rw [hF, Option.bind_some, if_neg (show ¬ decide ((-1 : Int) ≥ 0) = true by decide), if_neg (show ¬ ((-1 : Int) == -2) = true by decide), F57_rd (by omega) L p 0 1 hL hp, Option.bind_some, rd_one, e1]
      by_cases hlt : p < L.length
      · rw [if_pos hlt, if_pos (show p + 1 ≤ L.length by omega)]
        have hw : 2 * valB l + (L.getD p false).toNat = valB (l ++ [L.getD p false]) := (valB_snoc _ _).symm
        have hb : ((((L.getD p false).toNat : Nat) : Int) == (1 : Int)) = L.getD p false := by cases L.getD p false <;> rfl
        simp only
        rw [if_neg (show ¬ ((0 : Int) != 0) = true by decide), hw, hb, if_pos (show decide ((l.length + [L.getD p false].length) * 1 ≤ 140737488355328 ∧ l.length + [L.getD p false].length ≤ 140737488355328) = true by simp only [decide_eq_true_eq, List.length_singleton]; omega)]
        have hn : (l ++ [L.getD p false]).length = l.length + 1 := by rw [List.length_append, List.length_singleton]
        have hfirst : first lens (l.length + 1) ≤ valB (l ++ [L.getD p false]) := by
          rw [valB_snoc]
          by_cases h0 : 0 < l.length
          · have := hge h0
            rw [first_next lens h0]
            omega
          · rw [show l.length = 0 by omega]
            exact Nat.zero_le _
        generalize l ++ [L.getD p false] = m at *
        rw [← hn] at hfirst ⊢
        rw [Nat.add_comm] at hn
        cases f with
        | zero => omega
        | succ f =>
        by_cases hA : valB m < first lens m.length + lens.count (m.length : Int)
        · obtain ⟨k, k1, k2, k3⟩ := find_hit hN h m (by omega) (by omega) hfirst hA
          rw [if_pos hA, if_pos hfirst]
          refine ⟨_, _, _, rfl, ?_, .inl rfl, by omega, by omega, fun _ => ⟨by omega, ?_⟩⟩
          · simp only [F56_14, B56_14]
            rw [k2, Option.bind_some, if_pos (by simp only [decide_eq_true_eq]; omega), k3]
            rfl
          · rw [k3]; omega
        · have hm := find_more hN h m (by omega) d (by omega) (by omega)
          rw [if_neg hA]
          by_cases hR : restR lens (lgUp lens 15) d ≤ valB m - (first lens m.length + lens.count (m.length : Int))
          · rw [if_pos hR] at hm ⊢
            refine ⟨_, _, _, rfl, ?_, .inr (.inr rfl), by omega, by omega, fun h => absurd h (by decide)⟩
            simp only [F56_14, B56_14]
            rw [hm, Option.bind_some, if_neg (by decide), if_pos (by decide)]
            rfl
          · rw [if_neg hR] at hm ⊢
            have hd0 : 0 < d := by
              refine Nat.pos_of_ne_zero fun e => ?_
              subst e
              rw [restR] at hR
              omega
            obtain ⟨y, e, p', g1, g2, g3, g4, g5, g6⟩ := ih (f + 1) (p + 1) m (by omega) (by omega) (by omega) hm (fun _ => by omega) hd0
            exact ⟨y, e, p', g1, by rw [g2]; rfl, g3, by omega, g5, fun he => ⟨by omega, (g6 he).2⟩⟩
      · rw [if_neg hlt, if_neg (show ¬ p + 1 ≤ L.length by omega)]
        simp only
        rw [if_pos (by decide)]
        exact ⟨_, _, _, rfl, rfl, .inr (.inl rfl), Nat.le_refl _, hp, fun h => absurd h (by decide)⟩

/-- Both sides' next symbol. -/
theorem next_both {lens : List Int} (h : (chk lens).2 = 0) (s : ByteArray) (hs : s.size ≤ 1000000) (p : Nat) (hp : p ≤ 8 * s.size) :
    ∃ (y e : Int) (p' : Nat), F54 100000 (cntL lens, ((lgUp lens 15 : Nat) : Int), s, (p : Int), 0, symsUp lens 15) = some (y, e, cntL lens, ((lgUp lens 15 : Nat) : Int), s, (p' : Int), (if e = 2 then 2 else 0), symsUp lens 15) ∧
      F56 100000 (codesOf lens, (p : Int), 0, allB s) = some (y, e, (p' : Int), (if e = 2 then 2 else 0), allB s) ∧ (e = 0 ∨ e = 2 ∨ e = 3) ∧ p ≤ p' ∧ p' ≤ 8 * s.size ∧ (e = 0 → p < p' ∧ 0 ≤ y ∧ y < (lens.length : Int)) := by
  have hal := allB_length s
  obtain ⟨a1, a2⟩ := chk_ok h
  have hlg := lgUp_le lens 15
  by_cases h0 : lgUp lens 15 = 0
  · have hd : decN lens (lgUp lens 15) (allB s) (lgUp lens 15) 0 p = some (0, 3, p) := by rw [h0]; rfl
    refine ⟨0, 3, p, F54_next (by decide) lens a1 s hs p hp hd, ?_, .inr (.inr rfl), Nat.le_refl _, hp, fun h => absurd h (by decide)⟩
    have key : ∀ f, F56_14 100000 (f + 1) (codesOf lens, (p : Int), 0, [], allB s) = some (0, 3, (p : Int), 0, allB s) := fun f => by
      simp only [F56_14, B56_14]
      rw [find_nil (by decide) h, if_pos h0, Option.bind_some, if_neg (by decide), if_pos (by decide)]
    simp only [F56]
    rw [show F56_14 100000 100000 (codesOf lens, (p : Int), 0, [], allB s) = some (0, 3, (p : Int), 0, allB s) from key 99999]
    rfl
  · obtain ⟨y, e, p', g1, g2, g3, g4, g5, g6⟩ := dec_symbol (N := 100000) (by decide) h (allB s) (by omega) (lgUp lens 15) 100000 p [] (by simp) (by omega) (by omega) (by rw [find_nil (by decide) h, if_neg h0]) (fun h => absurd h (by decide)) (by omega)
    refine ⟨y, e, p', F54_next (by decide) lens a1 s hs p hp g1, ?_, g3, g4, by omega, g6⟩
    simp only [F56]
    rw [g2, Option.bind_some]
end Go.Proofs.Ytmcjfdognplgmaa.Am

namespace Go.Proofs.Ytmcjfdognplgmaa.Am
open Go.Am
set_option linter.unusedSimpArgs false
set_option linter.unusedVariables false

/-! ### Both ways to read tokens -/
theorem rd_le2 {L : List Bool} {p : Nat} {e n : Int} : p ≤ (rd L p e n).2.1 := by
  unfold rd
  split
  · split <;> simp only <;> omega
  · exact Nat.le_refl _

theorem rd_err {L : List Bool} {p : Nat} {n : Int} : (rd L p 0 n).2.2 = 0 ∨ (rd L p 0 n).2.2 = 2 := by
  unfold rd
  rw [if_pos rfl]
  split
  · exact .inl rfl
  · exact .inr rfl

theorem F68a_num (s : ByteArray) (hs : s.size ≤ 1000000) (p : Nat) (hp : p ≤ 8 * s.size) (sym : Int) (h1 : -9223372036854775808 ≤ sym ∧ sym ≤ 9223372036854775807) :
    F68a 100000 (sym, s, (p : Int), 0) = some (IntKind.wrap .i64 ((ofT lenB lenX sym 257).1 + ((rd (allB s) p 0 (ofT lenB lenX sym 257).2).1 : Int)), (rd (allB s) p 0 (ofT lenB lenX sym 257).2).2.2, s, ((rd (allB s) p 0 (ofT lenB lenX sym 257).2).2.1 : Int), (rd (allB s) p 0 (ofT lenB lenX sym 257).2).2.2) := by
  simp only [F68a]
  rw [F15_of sym h1, Option.bind_some, F65_rd (by decide) s p 0 _ (by omega) hp, Option.bind_some]
  rfl

theorem F68b_num (s : ByteArray) (hs : s.size ≤ 1000000) (p : Nat) (hp : p ≤ 8 * s.size) (sym : Int) (h1 : -9223372036854775808 ≤ sym ∧ sym ≤ 9223372036854775807) :
    F68b 100000 (sym, s, (p : Int), 0) = some (IntKind.wrap .i64 ((ofT disB disX sym 0).1 + ((rd (allB s) p 0 (ofT disB disX sym 0).2).1 : Int)), (rd (allB s) p 0 (ofT disB disX sym 0).2).2.2, s, ((rd (allB s) p 0 (ofT disB disX sym 0).2).2.1 : Int), (rd (allB s) p 0 (ofT disB disX sym 0).2).2.2) := by
  simp only [F68b]
  rw [F17_of sym h1, Option.bind_some, F65_rd (by decide) s p 0 _ (by omega) hp, Option.bind_some]
  rfl

theorem read_loops {A B : List Int} (hA : (chk A).2 = 0) (hB : (chk B).2 = 0) (s : ByteArray) (hs : s.size ≤ 1000) (most : Int) :
    ∀ (d f p : Nat) (made : Int) (out : List Tok), 8 * s.size ≤ p + d → d < f → p ≤ 8 * s.size → out.length ≤ p →
    ∃ (e e1 e2 : Int) (p' : Nat) (out' : List Tok),
      F31_254d 100000 f (most, made, s, (p : Int), 0, out, cntL A, ((lgUp A 15 : Nat) : Int), cntL B, ((lgUp B 15 : Nat) : Int), symsUp A 15, symsUp B 15) = some (e, s, (p' : Int), e1, out') ∧
      F33_4094 100000 f (most, made, (p : Int), 0, out, codesOf A, codesOf B, disB, disX, lenX, lenB, allB s) = some (e, (p' : Int), e2, out', allB s) ∧ out'.length ≤ 8 * s.size := by
  have hal := allB_length s
  obtain ⟨a1, a2⟩ := chk_ok hA
  obtain ⟨b1, b2⟩ := chk_ok hB
  intro d
  induction d with
  | zero =>
    intro f p made out hd hf hp ho
    cases f with
    | zero => omega
    | succ f =>
      obtain ⟨y, e, p', g1, g2, g3, g4, g5, g6⟩ := next_both hA s (by omega) p hp
      simp only [F31_254d, B31_254d, F33_4094, B33_4094]
      rw [g1, Option.bind_some, g2, Option.bind_some]
      rcases g3 with rfl | rfl | rfl
      · have := g6 rfl
        omega
      · try simp only [show ((3 : Int) = 2) = False by simp, if_false]
        rw [if_pos (by simp), if_pos (by simp)]
        exact ⟨_, _, _, _, _, rfl, rfl, Nat.zero_le _⟩
      · try simp only [show ((3 : Int) = 2) = False by simp, if_false]
        rw [if_pos (by simp), if_pos (by simp)]
        exact ⟨_, _, _, _, _, rfl, rfl, Nat.zero_le _⟩
  | succ d ih =>
    intro f p made out hd hf hp ho
    cases f with
    | zero => omega
    | succ f =>
      obtain ⟨y, e, p', g1, g2, g3, g4, g5, g6⟩ := next_both hA s (by omega) p hp
      simp only [F31_254d, B31_254d, F33_4094, B33_4094]
      rw [g1, Option.bind_some, g2, Option.bind_some]
      rcases g3 with rfl | rfl | rfl
      · obtain ⟨g6, g7, g8⟩ := g6 rfl
        simp only [show ((0 : Int) = 2) = False by simp, if_false, show ((0 : Int) != 0) = false by simp, Bool.false_eq_true]
        by_cases h256 : y = 256
        · have c1 : (y == 256) = true := by simpa using h256
          simp only [c1, if_true]
          exact ⟨_, _, _, _, _, rfl, rfl, by omega⟩
        · have c1 : (y == 256) = false := by simpa using h256
          simp only [c1, Bool.false_eq_true, if_false]
          by_cases hgt : y > 256
          · have c2 : decide (y > 256) = true := by simpa using hgt
            simp only [c2, if_true]
            by_cases h285 : y > 285
            · have c3 : decide (y > 285) = true := by simpa using h285
              simp only [F55, c3, if_true, Option.bind_some]
              rw [if_pos (by simp)]
              exact ⟨_, _, _, _, _, rfl, rfl, Nat.zero_le _⟩
            · have c3 : decide (y > 285) = false := by simpa using h285
              have hn := F68a_num s (by omega) p' g5 y (by omega)
              have hd' := F57_rd (N := 100000) (by decide) (allB s) p' 0 (ofT lenB lenX y 257).2 (by omega) (by omega)
              have hr1 := rd_le (L := allB s) (p := p') (e := 0) (n := (ofT lenB lenX y 257).2) (by omega)
              have hr2 := rd_le2 (L := allB s) (p := p') (e := 0) (n := (ofT lenB lenX y 257).2)
              have hr3 := rd_err (L := allB s) (p := p') (n := (ofT lenB lenX y 257).2)
              simp only [F55, c3, Bool.false_eq_true, if_false]
              rw [F16_of (by rfl) (by omega) (by omega), Option.bind_some, hn, hd', Option.bind_some, Option.bind_some]
              generalize rd (allB s) p' 0 (ofT lenB lenX y 257).2 = q at *
              obtain ⟨v, p1, e1⟩ := q
              simp only at hr1 hr2 hr3 ⊢
              rcases hr3 with rfl | rfl
              · obtain ⟨z, e, p2, k1, k2, k3, k4, k5, k6⟩ := next_both hB s (by omega) p1 (by omega)
                simp only [show ((0 : Int) != 0) = false by simp, Bool.false_eq_true, if_false]
                rw [k1, Option.bind_some, k2, Option.bind_some]
                rcases k3 with rfl | rfl | rfl
                · obtain ⟨k6, k7, k8⟩ := k6 rfl
                  simp only [show ((0 : Int) = 2) = False by simp, if_false, show ((0 : Int) != 0) = false by simp, Bool.false_eq_true]
                  by_cases h29 : z > 29
                  · have c4 : decide (z ≥ 30) = true := by simp only [decide_eq_true_eq]; omega
                    have c5 : decide (z > 29) = true := by simpa using h29
                    simp only [c4, c5, if_true, Option.bind_some]
                    rw [if_pos (by simp)]
                    exact ⟨_, _, _, _, _, rfl, rfl, Nat.zero_le _⟩
                  · have c4 : decide (z ≥ 30) = false := by simp only [decide_eq_false_iff_not]; omega
                    have c5 : decide (z > 29) = false := by simpa using h29
                    have hn := F68b_num s (by omega) p2 k5 z (by omega)
                    have hd' := F57_rd (N := 100000) (by decide) (allB s) p2 0 (ofT disB disX z 0).2 (by omega) (by omega)
                    have hr1 := rd_le (L := allB s) (p := p2) (e := 0) (n := (ofT disB disX z 0).2) (by omega)
                    have hr2 := rd_le2 (L := allB s) (p := p2) (e := 0) (n := (ofT disB disX z 0).2)
                    have hr3 := rd_err (L := allB s) (p := p2) (n := (ofT disB disX z 0).2)
                    simp only [c4, c5, Bool.false_eq_true, if_false]
                    rw [F16_of (by rfl) (by omega) (by omega), Option.bind_some, hn, hd', Option.bind_some, Option.bind_some]
                    generalize rd (allB s) p2 0 (ofT disB disX z 0).2 = q at *
                    obtain ⟨v2, p3, e3⟩ := q
                    simp only at hr1 hr2 hr3 ⊢
                    rcases hr3 with rfl | rfl
                    · simp only [show ((0 : Int) != 0) = false by simp, Bool.false_eq_true, if_false, Option.bind_some]
                      generalize hmd : IntKind.wrap .i64 (made + if (1 : Int) > IntKind.wrap .i64 ((ofT lenB lenX y 257).1 + (v : Int)) then (1 : Int) else IntKind.wrap .i64 ((ofT lenB lenX y 257).1 + (v : Int))) = made'
                      by_cases hm : made' > most
                      · have c6 : decide (made' > most) = true := by simpa using hm
                        simp only [c6, if_true]
                        exact ⟨_, _, _, _, _, rfl, rfl, Nat.zero_le _⟩
                      · have c6 : decide (made' > most) = false := by simpa using hm
                        simp only [c6, Bool.false_eq_true, if_false, List.length_singleton]
                        have c7 : decide ((out.length + 1) * 24 ≤ 140737488355328 ∧ out.length + 1 ≤ 140737488355328) = true := by simp only [decide_eq_true_eq]; omega
                        simp only [c7, if_true]
                        obtain ⟨e, e1, e2, p', out', i1, i2, i3⟩ := ih f p3 made' (out ++ [(0, IntKind.wrap .i64 ((ofT lenB lenX y 257).1 + (v : Int)), IntKind.wrap .i64 ((ofT disB disX z 0).1 + (v2 : Int)), ())]) (by omega) (by omega) (by omega) (by rw [List.length_append, List.length_singleton]; omega)
                        exact ⟨e, e1, e2, p', out', by rw [i1]; rfl, by rw [i2]; rfl, i3⟩
                    · simp only [show ((2 : Int) != 0) = true by simp, if_true, Option.bind_some]
                      exact ⟨_, _, _, _, _, rfl, rfl, Nat.zero_le _⟩
                · simp only [show ((2 : Int) != 0) = true by simp, if_true, Option.bind_some]
                  exact ⟨_, _, _, _, _, rfl, rfl, Nat.zero_le _⟩
                · simp only [show ((3 : Int) = 2) = False by simp, if_false, show ((3 : Int) != 0) = true by simp, if_true, Option.bind_some]
                  exact ⟨_, _, _, _, _, rfl, rfl, Nat.zero_le _⟩
              · simp only [show ((2 : Int) != 0) = true by simp, if_true, Option.bind_some]
                exact ⟨_, _, _, _, _, rfl, rfl, Nat.zero_le _⟩
          · have c2 : decide (y > 256) = false := by simpa using hgt
            have c3 : decide (y > 285) = false := by simp only [decide_eq_false_iff_not]; omega
            simp only [c2, c3, Bool.false_eq_true, if_false]
            generalize IntKind.wrap .i64 (made + 1) = made'
            by_cases hm : made' > most
            · have c6 : decide (made' > most) = true := by simpa using hm
              simp only [c6, if_true]
              exact ⟨_, _, _, _, _, rfl, rfl, Nat.zero_le _⟩
            · have c6 : decide (made' > most) = false := by simpa using hm
              simp only [c6, Bool.false_eq_true, if_false, List.length_singleton]
              have c7 : decide ((out.length + 1) * 24 ≤ 140737488355328 ∧ out.length + 1 ≤ 140737488355328) = true := by simp only [decide_eq_true_eq]; omega
              simp only [c7, if_true]
              obtain ⟨e, e1, e2, p'', out', i1, i2, i3⟩ := ih f p' made' (out ++ [(y, 0, 0, ())]) (by omega) (by omega) (by omega) (by rw [List.length_append, List.length_singleton]; omega)
              exact ⟨e, e1, e2, p'', out', by rw [i1]; rfl, by rw [i2]; rfl, i3⟩
      · try simp only [show ((3 : Int) = 2) = False by simp, if_false]
        rw [if_pos (by simp), if_pos (by simp)]
        exact ⟨_, _, _, _, _, rfl, rfl, Nat.zero_le _⟩
      · try simp only [show ((3 : Int) = 2) = False by simp, if_false]
        rw [if_pos (by simp), if_pos (by simp)]
        exact ⟨_, _, _, _, _, rfl, rfl, Nat.zero_le _⟩
end Go.Proofs.Ytmcjfdognplgmaa.Am

namespace Go.Proofs.Ytmcjfdognplgmaa.Am
open Go.Am
set_option linter.unusedSimpArgs false
set_option linter.unusedVariables false

theorem F34_loop (l : List Tok) (hl : l.length ≤ 10000) : ∀ (d i f : Nat), i + d = l.length → d < f → F34_58 100000 f (l, l, (i : Int)) = some (.inr ()) := by
  intro d
  induction d with
  | zero =>
    intro i f hi hf
    cases f with
    | zero => omega
    | succ f =>
      simp only [F34_58, B34_58]
      rw [if_neg (by simp only [decide_eq_true_eq]; omega)]
  | succ d ih =>
    intro i f hi hf
    cases f with
    | zero => omega
    | succ f =>
      simp only [F34_58, B34_58]
      have hwi : within (i : Int) l.length = true := by unfold within; simp only [decide_eq_true_eq]; omega
      have hw : IntKind.wrap .i64 ((i : Int) + 1) = ((i + 1 : Nat) : Int) := by rw [wrap_i64 (by omega) (by omega)]; omega
      rw [if_pos (by simp only [decide_eq_true_eq]; omega), if_pos hwi, Int.toNat_natCast, List.getElem?_eq_getElem (show i < l.length by omega), Option.bind_some, if_pos hwi, Option.bind_some, if_neg (by simp), hw, ih (i + 1) f (by omega) (by omega)]
      rfl

theorem F34_same (l : List Tok) (hl : l.length ≤ 10000) : F34 100000 (l, l) = some true := by
  simp only [F34]
  have h := F34_loop l hl l.length 0 100000 (by omega) (by omega)
  rw [show ((0 : Nat) : Int) = 0 from rfl] at h
  rw [if_neg (by simp), h, Option.bind_some]

theorem F13_len : F13 100000 () = some (lenB, lenX) := by kernel_rfl
theorem F14_dis : F14 100000 () = some (disB, disX) := by kernel_rfl

theorem law7 (hw : F8 100000 () = some true) (s : ByteArray) (lits dists : List Int) (most : Int) : F7 100000 (s, lits, dists, most) = some true := by
  simp only [F7]
  rw [hw, Option.bind_some, if_neg (by decide)]
  by_cases h1 : (330 : Int) < (lits.length : Int)
  · rw [if_pos (by simpa using h1)]
  rw [if_neg (by simpa using h1)]
  by_cases h2 : (330 : Int) < (dists.length : Int)
  · rw [if_pos (by simpa using h2)]
  rw [if_neg (by simpa using h2)]
  by_cases h3 : (60 : Int) < (s.size : Int)
  · rw [if_pos (by simpa using h3)]
  rw [if_neg (by simpa using h3)]
  have e30 : F30 100000 s = some (s, 0, 0) := rfl
  rw [e30, Option.bind_some]
  simp only [F31, F33]
  rw [F53_new (by decide), Option.bind_some, F53_new (by decide), F32_all s (by omega) (by decide), F48_chk (by decide), F48_chk (by decide)]
  have nil := F34_same [] (by decide)
  by_cases e1 : (chk lits).2 = 0
  · by_cases e2 : (chk dists).2 = 0
    · obtain ⟨a1, a2⟩ := chk_ok e1
      obtain ⟨b1, b2⟩ := chk_ok e2
      obtain ⟨e, x1, x2, p', out', g1, g2, g3⟩ := read_loops e1 e2 s (by omega) most (8 * s.size) 100000 0 0 [] (by omega) (by omega) (by omega) (by simp)
      rw [show ((0 : Nat) : Int) = 0 from rfl] at g1 g2
      simp only [if_pos e1, if_pos e2, Option.bind_some]
      rw [if_neg (by decide), if_neg (by decide), g1, Option.bind_some, Option.bind_some, if_neg (by simpa using e1), if_neg (by simpa using e2), F49_codes (by decide) lits a1 a2, Option.bind_some, F49_codes (by decide) dists b1 b2, Option.bind_some, F13_len, Option.bind_some, F14_dis, Option.bind_some]
      simp only
      rw [g2, Option.bind_some, Option.bind_some]
      simp only
      rw [F34_same out' (by omega), Option.bind_some, if_pos rfl, if_pos trivial, if_pos (by simp)]
      by_cases h0 : e = 0
      · rw [if_neg (by simpa using h0)]
        simp only [F35, Option.bind_some]
        simp
      · rw [if_pos (by simpa using h0)]
    · simp only [if_pos e1, if_neg e2, Option.bind_some]
      rw [if_neg (by decide), if_pos (by simpa using e2), if_neg (by simpa using e1), if_pos (by simpa using e2), Option.bind_some, Option.bind_some]
      simp only
      rw [nil]
      rfl
  · by_cases e2 : (chk dists).2 = 0
    · simp only [if_neg e1, if_pos e2, Option.bind_some]
      rw [if_pos (by simpa using e1), if_pos (by simpa using e1), Option.bind_some, Option.bind_some]
      simp only
      rw [nil]
      rfl
    · simp only [if_neg e1, if_neg e2, Option.bind_some]
      rw [if_pos (by simpa using e1), if_pos (by simpa using e1), Option.bind_some, Option.bind_some]
      simp only
      rw [nil]
      rfl
end Go.Proofs.Ytmcjfdognplgmaa.Am
