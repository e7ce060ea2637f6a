/- Regions, code, functions and rows: what the abstract machine tells holds in the model (no condition). -/
import Derived.Test.YteddgkplkjldcaaGreatAmB
import Derived.Laws.Sem
import Derived.Below
import Derived.Carry
import Derived.WideKeyArgs
import Derived.ProofKit
set_option linter.unusedSimpArgs false
set_option linter.unusedVariables false
namespace Go.Am
noncomputable section
def Gd (all : List Oper) (tm : List TV) (o : Oper) (b : Bool) : Prop :=
  match o.guard with
  | none => b = true
  | some (j, want) => match ((all[j]?).bind (·.dst)).map (fun t => tm.getD t .dead) with
    | some (.v (.bool q)) => b = (q == want)
    | some (.v _) => b = false
    | _ => False
abbrev Lg := List Nat × List Nat
inductive StepT (E : Env) (all : List Oper) (o : Oper) (st : St) : Lg → St → Prop
  | skip (h : Gd all st.tm o false) : StepT E all o st ([], []) { st with tm := gr st.tm o.dst gk }
  | go (e : Eff) (ob : List (Nat × Ob)) (us : List Nat) (hg : Gd all st.tm o true) (h : ((mG E (rS st.tm) o (lc E.base o.dst)).run st.ob).to e) (ha : bB st.ob st.us e.new = some (ob, us)) :
      StepT E all o st ((mG E (rS st.tm) o (lc E.base o.dst)).reads st.ob, e.upd.map (·.1) ++ e.new.map (·.1)) { tm := gr st.tm o.dst e.val, ob := bm ob e.upd, us := us }
inductive RunT (E : Env) (all : List Oper) : List Oper → St → List Lg → St → Prop
  | nil (st : St) : RunT E all [] st [] st
  | cons {o : Oper} {r : List Oper} {st st1 st2 : St} {l : Lg} {ls : List Lg} (h : StepT E all o st l st1) (t : RunT E all r st1 ls st2) : RunT E all (o :: r) st (l :: ls) st2
theorem BS {tm : List TV} {t : Nat} {x : TV} (h : tm.getD t .dead = x) (hd : x ≠ .dead) : tm.set t x = tm := by
  cases ht : tm[t]? with
  | none => rw [List.getD, ht] at h; exact (hd h.symm).elim
  | some y =>
    rw [List.getD, ht] at h
    simp only [Option.getD_some] at h
    subst h
    obtain ⟨hl, he⟩ := List.getElem?_eq_some_iff.1 ht
    rw [← he]
    exact List.set_getElem_self hl
theorem ot (E : Env) (all : List Oper) : ∀ (r : List Oper) (lg : List Lg) (st : St) (k : St → List Lg → Tr St) (x : St), (tv E all r lg st k).to x → ∃ st' ls, RunT E all r st ls st' ∧ (k st' (lg ++ ls)).to x
  | [], lg, st, k, x, h => ⟨st, [], .nil st, by rw [List.append_nil]; exact h⟩
  | o :: r, lg, st, k, x, h => by
    have skip : Gd all st.tm o false → (tv E all r (lg ++ [([], [])]) { st with tm := gr st.tm o.dst gk } k).to x → ∃ st' ls, RunT E all (o :: r) st ls st' ∧ (k st' (lg ++ ls)).to x := by
      intro hg h
      obtain ⟨st', ls, h1, h2⟩ := ot E all r _ _ k x h
      exact ⟨st', _, .cons (.skip hg) h1, by simpa using h2⟩
    have go : Gd all st.tm o true → (((mG E (rS st.tm) o (lc E.base o.dst)).run st.ob).bind fun e => match bB st.ob st.us e.new with
        | some (ob, us) => tv E all r (lg ++ [((mG E (rS st.tm) o (lc E.base o.dst)).reads st.ob, e.upd.map (·.1) ++ e.new.map (·.1))]) { tm := gr st.tm o.dst e.val, ob := bm ob e.upd, us := us } k
        | none => .fail).to x → ∃ st' ls, RunT E all (o :: r) st ls st' ∧ (k st' (lg ++ ls)).to x := by
      intro hg h
      obtain ⟨e, h1, h2⟩ := Tr.to_bind h
      split at h2
      · rename_i ob us ha
        obtain ⟨st', ls, h3, h4⟩ := ot E all r _ _ k x h2
        exact ⟨st', _, .cons (.go e ob us hg h1 ha) h3, by simpa using h4⟩
      · exact (Tr.to_fail h2).elim
    unfold tv at h
    simp only [Pq, EJ, EK, fG, eK] at h
    split at h
    · rename_i hgd
      exact go (by unfold Gd; rw [hgd]) h
    · rename_i j want hgd
      split at h
      · exact (Tr.to_fail h).elim
      · rename_i t ht
        split at h
        · rename_i q hq
          have same : ∀ b, q = b → st.tm.set t (.v (.bool b)) = st.tm := fun b e =>
            BS (by rw [hq, e]) (by intro e; cases e)
          have gd : ∀ b, b = (q == want) → Gd all st.tm o b := fun b e => by
            unfold Gd; rw [hgd]; simp only [ht, Option.map_some, hq]; exact e
          rcases Tr.to_ite h with ⟨hb, h⟩ | ⟨hb, h⟩
          · have e := same true hb
            cases want with
            | true => simp only [cond_true] at h; rw [e] at h; exact go (gd true (by rw [hb]; rfl)) h
            | false => simp only [cond_false] at h; rw [e] at h; exact skip (gd false (by rw [hb]; rfl)) h
          · have e := same false hb
            cases want with
            | true => simp only [cond_true] at h; rw [e] at h; exact skip (gd false (by rw [hb]; rfl)) h
            | false => simp only [cond_false] at h; rw [e] at h; exact go (gd true (by rw [hb]; rfl)) h
        · rename_i y hy hq
          refine skip ?_ h
          unfold Gd; rw [hgd]; simp only [ht, Option.map_some, hq]
        · exact (Tr.to_fail h).elim
section
variable {K : Ctx} {mu : Nat → Option Nat} {R : Nat → Prop} {w : World}
theorem ym {all : List Oper} {ops : Array Oper} (hops : ops.toList = all) {st : St} {a : Act} (hS : Sim K st a mu R w) {o : Oper} {b : Bool} (h : Gd all st.tm o b) : Region.wanted o (yielded ops a.tmps) = b := by
  unfold Gd at h
  unfold Region.wanted
  split at h
  · rename_i hg
    rw [hg]; exact h.symm
  · rename_i j want hg
    rw [hg]
    have hj : ops[j]? = all[j]? := by rw [← hops]; simp
    cases hd : (all[j]?).bind (·.dst) with
    | none => rw [hd] at h; simp at h
    | some t =>
      rw [hd] at h
      simp only [Option.map_some] at h
      have hval : ∀ x, st.tm.getD t .dead = .v x → a.tmps[t]? = some x := by
        intro x hx
        cases ht : st.tm[t]? with
        | none => rw [List.getD, ht] at hx; cases hx
        | some y =>
          rw [List.getD, ht] at hx
          simp only [Option.getD_some] at hx
          subst hx
          have h1 := hS.slots t _ ht
          have h2 : a.tmps.getD t undef = x := h1
          have hlt : t < a.tmps.size := by rw [hS.len]; exact (List.getElem?_eq_some_iff.1 ht).1
          rw [← h2]
          simp [Array.getD_eq_getD_getElem?, hlt]
      simp only [yielded, hj, hd, Option.bind_some]
      split at h
      · rename_i q hq
        have hq : st.tm.getD t .dead = .v (.bool q) := by simpa using hq
        rw [hval _ hq, h]
        simp
      · rename_i y hy hq
        have hq : st.tm.getD t .dead = .v y := by simpa using hq
        rw [hval _ hq, h]
        cases y <;> first | rfl | exact (hy _ rfl).elim
      · exact h.elim
theorem GJ {E : Env} (hE : EnvOK E) {all : List Oper} {ops : Array Oper} (hops : ops.toList = all) {st st' : St} {a : Act} (hS : Sim K st a mu R w) {i : Nat} {o : Oper} (hi : all[i]? = some o) {l : Lg} (h : StepT E all o st l st')
    {next : Act → World → Prop} {Q : Exit → Act → World → Prop} (hn : ∀ a' mu' R' w', Sim K st' a' mu' R' w' → next a' w') : wpOp E.P ops Q i next a w := by
  have hi' : ops[i]? = some o := by rw [← hi, ← hops]; simp
  unfold wpOp
  rw [hi']
  simp only
  cases h with
  | skip hg =>
    rw [ym hops hS hg]
    simp only [Bool.false_eq_true, if_false]
    exact hn _ mu R w (hS.put o.dst (Ext.refl _) hS.mem rfl)
  | go e ob us hg h ha =>
    rw [ym hops hS hg]
    simp only [if_true]
    exact .inl (V5 hE hS h ha fun v mu' R' w' hS' => hn _ mu' R' w' hS')
theorem HP {E : Env} (hE : EnvOK E) {all : List Oper} {ops : Array Oper} (hops : ops.toList = all) {Q : Exit → Act → World → Prop} : ∀ (r : List Oper) (k : Nat) (st st' : St) (ls : List Lg) (a : Act) (mu : Nat → Option Nat) (R : Nat → Prop) (w : World),
    (∀ j o, r[j]? = some o → all[k + j]? = some o) → RunT E all r st ls st' → Sim K st a mu R w → (∀ a' mu' R' w', Sim K st' a' mu' R' w' → Q .normal a' w') → wpOps E.P ops Q (List.range' k r.length) a w := by
  intro r
  induction r with
  | nil =>
    intro k st st' ls a mu R w _ h hS hQ
    cases h
    exact hQ a mu R w hS
  | cons o r ih =>
    intro k st st' ls a mu R w hj h hS hQ
    cases h with
    | cons h t =>
      rw [List.length_cons, List.range'_succ, wpOps_cons]
      refine GJ hE hops hS (hj 0 o rfl) h fun a' mu' R' w' hS' => ?_
      exact ih (k + 1) _ _ _ a' mu' R' w' (fun j o' ho' => by
        have := hj (j + 1) o' (by simpa using ho')
        rw [show k + 1 + j = k + (j + 1) by omega]; exact this) t hS' hQ
end
end
end Go.Am
namespace Go.Am
noncomputable section
structure Alike (s t : St) : Prop where
  tm : s.tm = t.tm
  ob : ∀ i, aL s.ob i = aL t.ob i
  us : ∀ i, i ∈ s.us ↔ i ∈ t.us
theorem Alike.refl (s : St) : Alike s s := ⟨rfl, fun _ => rfl, fun _ => Iff.rfl⟩
theorem Alike.trans {a b c : St} (h : Alike a b) (k : Alike b c) : Alike a c := ⟨h.tm.trans k.tm, fun i => (h.ob i).trans (k.ob i), fun i => (h.us i).trans (k.us i)⟩
theorem Alike.symm {a b : St} (h : Alike a b) : Alike b a := ⟨h.tm.symm, fun i => (h.ob i).symm, fun i => (h.us i).symm⟩
theorem Alike.cx {s t : St} (h : Alike s t) (mu : Nat → Option Nat) (R : Nat → Prop) (w : World) : cx s.us s.ob mu R w = cx t.us t.ob mu R w := by
  unfold Am.cx
  rw [show aL s.ob = aL t.ob from funext h.ob, show (fun i => i ∈ s.us) = (fun i => i ∈ t.us) from funext fun i => propext (h.us i)]
theorem Alike.sim {K : Ctx} {s t : St} (h : Alike s t) {a : Act} {mu : Nat → Option Nat} {R : Nat → Prop} {w : World} (hS : Sim K s a mu R w) : Sim K t a mu R w := by
  refine ⟨h.cx mu R w ▸ hS.mem, h.tm ▸ hS.len, fun i x hx => ?_, hS.df, fun i hi => ⟨(h.us i).1 (hS.pin i hi).1, fun o' ho' => (hS.pin i hi).2 o' ((h.ob i).trans ho')⟩⟩
  rw [← h.cx mu R w]
  exact hS.slots i x (h.tm ▸ hx)
theorem xz {γ : Type} {ob ob' : List (Nat × Ob)} : ∀ (g : GTr γ), (∀ i ∈ g.reads ob, aL ob i = aL ob' i) → g.run ob = g.run ob' ∧ g.reads ob = g.reads ob'
  | .done t, _ => ⟨rfl, rfl⟩
  | .get id k, h => by
    have h0 : aL ob id = aL ob' id := h id (by simp [GTr.reads])
    have := xz (ob' := ob') (k (aL ob id)) fun i hi => h i (by simp [GTr.reads, hi])
    simp only [GTr.run, GTr.reads]
    rw [← h0]
    exact ⟨this.1, by rw [this.2]⟩
theorem Cw : ∀ (u : List (Nat × Option Ob)), ∃ F : Nat → Option Ob, ∀ (ob : List (Nat × Ob)) (i : Nat), aL (bm ob u) i = if i ∈ u.map (·.1) then F i else aL ob i
  | [] => ⟨fun _ => none, fun ob i => by simp [bm]⟩
  | (id, x) :: r => by
    obtain ⟨F, hF⟩ := Cw r
    refine ⟨fun i => if i ∈ r.map (·.1) then F i else x, fun ob i => ?_⟩
    rw [bm, hF, bS]
    by_cases h1 : i ∈ r.map (·.1)
    · rw [if_pos h1, if_pos (by simp only [List.map_cons]; exact List.mem_cons_of_mem _ h1)]
      exact (if_pos h1).symm
    · rw [if_neg h1]
      by_cases h2 : i = id
      · rw [if_pos h2, if_pos (by simp [h2])]
        exact (if_neg h1).symm
      · rw [if_neg h2, if_neg (by simp only [List.map_cons, List.mem_cons]; exact fun h => h.elim h2 h1)]
def dv (us : List Nat) : List (Nat × Ob) → Prop
  | [] => True
  | (id, _) :: r => ¬ id ∈ us ∧ dv (id :: us) r
theorem dv.mono : ∀ (u : List (Nat × Ob)) (us us' : List Nat), (∀ i, i ∈ us' → i ∈ us) → dv us u → dv us' u
  | [], _, _, _, _ => trivial
  | (id, _) :: r, us, us', h, hf => ⟨fun hi => hf.1 (h _ hi), dv.mono r (id :: us) (id :: us') (fun i hi => by
      rcases List.mem_cons.1 hi with e | e
      · exact List.mem_cons.2 (.inl e)
      · exact List.mem_cons.2 (.inr (h i e))) hf.2⟩
theorem dv.more : ∀ (u : List (Nat × Ob)) (us us' : List Nat), (∀ i, i ∈ us' → i ∈ us ∨ ¬ i ∈ u.map (·.1)) → dv us u → dv us' u
  | [], _, _, _, _ => trivial
  | (id, _) :: r, us, us', h, hf => by
    refine ⟨fun hi => (h _ hi).elim hf.1 fun hn => hn (by simp), dv.more r (id :: us) (id :: us') (fun i hi => ?_) hf.2⟩
    rcases List.mem_cons.1 hi with e | e
    · exact .inl (List.mem_cons.2 (.inl e))
    · rcases h i e with k | k
      · exact .inl (List.mem_cons.2 (.inr k))
      · exact .inr fun hk => k (by simp only [List.map_cons]; exact List.mem_cons_of_mem _ hk)
theorem dv.not : ∀ (u : List (Nat × Ob)) (us : List Nat), dv us u → ∀ i ∈ u.map (·.1), ¬ i ∈ us
  | [], _, _, i, hi => by cases hi
  | (id, _) :: r, us, hf, i, hi => by
    rcases List.mem_cons.1 hi with e | e
    · exact e ▸ hf.1
    · exact fun h => dv.not r (id :: us) hf.2 i e (List.mem_cons_of_mem _ h)
theorem yg : ∀ (u : List (Nat × Ob)), ∃ F : Nat → Option Ob, ∀ (ob : List (Nat × Ob)) (us : List Nat),
    (∀ ob1 us1, bB ob us u = some (ob1, us1) → dv us u) ∧
    (dv us u → ∃ ob1 us1, bB ob us u = some (ob1, us1) ∧ (∀ i, aL ob1 i = if i ∈ u.map (·.1) then F i else aL ob i) ∧ ∀ i, i ∈ us1 ↔ i ∈ us ∨ i ∈ u.map (·.1))
  | [] => ⟨fun _ => none, fun ob us => ⟨fun _ _ _ => trivial, fun _ => ⟨ob, us, rfl, fun i => by simp, fun i => by simp⟩⟩⟩
  | (id, o) :: r => by
    obtain ⟨F, hF⟩ := yg r
    refine ⟨fun i => if i ∈ r.map (·.1) then F i else some o, fun ob us => ⟨fun ob1 us1 h => ?_, fun hf => ?_⟩⟩
    · rw [bB] at h
      cases hh : has us id with
      | true => rw [hh] at h; cases h
      | false =>
        rw [hh] at h
        exact ⟨fun hi => (by rw [(co us id).2 hi] at hh; cases hh), (hF _ _).1 _ _ h⟩
    · obtain ⟨ob1, us1, h1, h2, h3⟩ := (hF ((id, o) :: ob) (id :: us)).2 hf.2
      refine ⟨ob1, us1, by rw [bB, mb hf.1]; exact h1, fun i => ?_, fun i => ?_⟩
      · rw [h2 i, bk]
        by_cases k1 : i ∈ r.map (·.1)
        · rw [if_pos k1, if_pos (by simp only [List.map_cons]; exact List.mem_cons_of_mem _ k1)]; exact (if_pos k1).symm
        · rw [if_neg k1]
          by_cases k2 : i = id
          · rw [if_pos k2, if_pos (by simp [k2])]; exact (if_neg k1).symm
          · rw [if_neg k2, if_neg (by simp only [List.map_cons, List.mem_cons]; exact fun h => h.elim k2 k1)]
      · rw [h3 i]; simp only [List.mem_cons, List.map_cons]; exact ⟨fun h => h.elim (fun h => h.elim (fun h => .inr (.inl h)) .inl) fun h => .inr (.inr h), fun h => h.elim (fun h => .inl (.inr h)) fun h => h.elim (fun h => .inl (.inl h)) .inr⟩
structure Acts (st : St) (v : TV) (d : Option Tmp) (wr : List Nat) (nw : List (Nat × Ob)) (F : Nat → Option Ob) (st' : St) : Prop where
  tm : st'.tm = gr st.tm d v
  ob : ∀ i, aL st'.ob i = if i ∈ wr then F i else aL st.ob i
  us : ∀ i, i ∈ st'.us ↔ i ∈ st.us ∨ i ∈ nw.map (·.1)
  fresh : dv st.us nw
theorem MG (e : Eff) : ∃ F : Nat → Option Ob, (∀ i ∈ e.new.map (·.1), i ∈ e.upd.map (·.1) ++ e.new.map (·.1)) ∧ ∀ (st : St) (d : Option Tmp),
    (∀ ob1 us1, bB st.ob st.us e.new = some (ob1, us1) → Acts st e.val d (e.upd.map (·.1) ++ e.new.map (·.1)) e.new F { tm := gr st.tm d e.val, ob := bm ob1 e.upd, us := us1 }) ∧
    (dv st.us e.new → ∃ ob1 us1, bB st.ob st.us e.new = some (ob1, us1)) := by
  obtain ⟨F, hF⟩ := Cw e.upd
  obtain ⟨G, hG⟩ := yg e.new
  refine ⟨fun i => if i ∈ e.upd.map (·.1) then F i else G i, fun i hi => List.mem_append_right _ hi, fun st d => ⟨fun ob1 us1 h => ?_, fun hf => ?_⟩⟩
  · have hfr := (hG st.ob st.us).1 _ _ h
    obtain ⟨ob2, us2, h1, h2, h3⟩ := (hG st.ob st.us).2 hfr
    rw [h] at h1
    injection h1 with h1
    injection h1 with h1 h1'
    subst h1; subst h1'
    refine ⟨rfl, fun i => ?_, h3, hfr⟩
    simp only
    rw [hF, h2]
    by_cases k1 : i ∈ e.upd.map (·.1)
    · rw [if_pos k1, if_pos (List.mem_append_left _ k1)]; exact (if_pos k1).symm
    · rw [if_neg k1]
      by_cases k2 : i ∈ e.new.map (·.1)
      · rw [if_pos k2, if_pos (List.mem_append_right _ k2)]; exact (if_neg k1).symm
      · rw [if_neg k2, if_neg fun h => (List.mem_append.1 h).elim k1 k2]
  · obtain ⟨ob1, us1, h1, _⟩ := (hG st.ob st.us).2 hf
    exact ⟨ob1, us1, h1⟩
theorem Ez (E : Env) {ρ ρ' : Operand → TV} (o : Oper) (b : Nat) (h : ∀ x ∈ o.op.operands, ρ x = ρ' x) : mG E ρ o b = mG E ρ' o b := by
  obtain ⟨dst, op, type, pos, after, guard⟩ := o
  have ax : ∀ ps : Array (Nat × Operand), (∀ x ∈ ps.map (·.2), ρ x = ρ' x) →
      (ps.toList.map fun (i, x) => (i, ρ x)) = (ps.toList.map fun (i, x) => (i, ρ' x)) := fun ps hp =>
    List.map_congr_left fun p hm => by
      obtain ⟨i, x⟩ := p
      simp only [hp x (Array.mem_map.2 ⟨(i, x), by simpa using hm, rfl⟩)]
  cases op <;> simp only [Op.operands] at h <;> simp only [mG]
  case build t ps => rw [ax ps fun x hx => h x (by simpa using hx)]
  case buildSlice t n ps => rw [ax ps fun x hx => h x (by simpa using hx)]
  case makeMap t r => cases r <;> simp_all
  case makeFunc fn first cap =>
    rw [List.map_congr_left (g := ρ') (l := first.toList) fun x hx => h x (by simp; exact .inl (by simpa using hx)), List.map_congr_left (g := ρ') (l := cap.toList) fun x hx => h x (by simp; exact .inr (by simpa using hx))]
  case call c =>
    have hargs : c.args.toList.map ρ = c.args.toList.map ρ' := List.map_congr_left fun x hx => h x (by simp [Call.operands]; exact .inr (by simpa using hx))
    cases hc : c.callee with
    | value f => have hf : ρ f = ρ' f := h f (by simp [Call.operands, hc]); simp only [hf, hargs]
    | invoke r m => rfl
    | builtin b => simp only [hargs]
  case slice t x lo hi mx => cases lo <;> cases hi <;> cases mx <;> simp_all
  all_goals (first | rfl | (simp_all; done))
theorem Ca {tm : List TV} {d : Option Tmp} {x : TV} {t : Tmp} (h : d ≠ some t) : (gr tm d x).getD t .dead = tm.getD t .dead := by
  cases d with
  | none => rfl
  | some d =>
    have hne : d ≠ t := fun e => h (by rw [e])
    simp [gr, eK, List.getD, List.getElem?_set_ne hne]
theorem IQ (tm : List TV) {d e : Option Tmp} (x y : TV) (h : ∀ t, d = some t → e ≠ some t) : gr (gr tm d x) e y = gr (gr tm e y) d x := by
  cases d with
  | none => rfl
  | some d =>
    cases e with
    | none => rfl
    | some e =>
      have hne : d ≠ e := fun he => h d rfl (he ▸ rfl)
      simp only [gr, eK]
      exact List.set_comm _ _ hne
theorem Cf (E : Env) {ops : Array Oper} (o : Oper) (b : Nat) (tm : List TV) (d : Option Tmp) (x : TV) (h : ∀ t, d = some t → t ∉ o.looksAt ops) :
    mG E (rS (gr tm d x)) o b = mG E (rS tm) o b :=
  Ez E o b fun y hy => by
    cases y with
    | tmp t => exact (fG _ t).trans <| (Ca fun e => h t e (List.mem_append_left _ (List.mem_filterMap.2 ⟨.tmp t, by simpa using hy, rfl⟩))).trans (fG _ t).symm
    | _ => rfl
theorem NN {all : List Oper} {ops : Array Oper} (hops : ops.toList = all) (o : Oper) (tm : List TV) (d : Option Tmp) (x : TV) (b : Bool) (h : ∀ t, d = some t → t ∉ o.looksAt ops) :
    Gd all (gr tm d x) o b ↔ Gd all tm o b := by
  unfold Gd
  cases hg : o.guard with
  | none => exact Iff.rfl
  | some gw =>
    obtain ⟨g, want⟩ := gw
    simp only
    cases ht : (all[g]?).bind (·.dst) with
    | none => exact Iff.rfl
    | some t =>
      simp only [Option.map_some]
      rw [Ca fun e => h t e (by
        have : ops[g]? = all[g]? := by rw [← hops]; simp
        simp [Oper.looksAt, hg, this, ht])]
end
end Go.Am
namespace Go.Am
noncomputable section
theorem Acts.alike {s t s' t' : St} {v : TV} {d : Option Tmp} {wr : List Nat} {nw : List (Nat × Ob)} {F : Nat → Option Ob} (h : Acts s v d wr nw F s') (k : Acts t v d wr nw F t') (hA : Alike s t) : Alike s' t' :=
  ⟨by rw [h.tm, k.tm, hA.tm], fun i => by rw [h.ob, k.ob, hA.ob], fun i => by rw [h.us, k.us, hA.us]⟩
theorem pJ {E : Env} {all : List Oper} {o : Oper} {st st' : St} {l : Lg} (h : StepT E all o st l st') : ∃ v nw F, (∀ i ∈ nw.map (·.1), i ∈ l.2) ∧ Acts st v o.dst l.2 nw F st' ∧
    ∀ t : St, (∀ b, Gd all t.tm o b ↔ Gd all st.tm o b) → mG E (rS t.tm) o (lc E.base o.dst) = mG E (rS st.tm) o (lc E.base o.dst) → (∀ i ∈ l.1, aL t.ob i = aL st.ob i) → dv t.us nw →
      ∃ t', StepT E all o t l t' ∧ Acts t v o.dst l.2 nw F t' := by
  cases h with
  | skip hg =>
    refine ⟨gk, [], fun _ => none, fun i hi => (by cases hi), ⟨rfl, fun i => by simp, fun i => by simp, trivial⟩, fun t hG _ _ _ => ⟨_, .skip ((hG false).2 hg), ⟨rfl, fun i => by simp, fun i => by simp, trivial⟩⟩⟩
  | go e ob us hg h ha =>
    obtain ⟨F, hn, hF⟩ := MG e
    refine ⟨e.val, e.new, F, hn, (hF st o.dst).1 _ _ ha, fun t hG hE hr hf => ?_⟩
    obtain ⟨ob1, us1, h1⟩ := (hF t o.dst).2 hf
    have hrun := xz (mG E (rS st.tm) o (lc E.base o.dst)) (ob := st.ob) (ob' := t.ob) fun i hi => (hr i hi).symm
    refine ⟨_, ?_, (hF t o.dst).1 _ _ h1⟩
    have := StepT.go (E := E) (all := all) (o := o) (st := t) e ob1 us1 ((hG true).2 hg) (by rw [hE, ← hrun.1]; exact h) h1
    rw [hE, ← hrun.2] at this
    exact this
theorem Eg {E : Env} {all : List Oper} {o : Oper} {st st' t : St} {l : Lg} (h : StepT E all o st l st') (hA : Alike st t) : ∃ t', StepT E all o t l t' ∧ Alike st' t' := by
  obtain ⟨v, nw, F, _, hact, hp⟩ := pJ h
  obtain ⟨t', h1, h2⟩ := hp t (fun b => by rw [hA.tm]) (by rw [hA.tm]) (fun i _ => (hA.ob i).symm) (dv.mono _ _ _ (fun i hi => (hA.us i).2 hi) hact.fresh)
  exact ⟨t', h1, hact.alike h2 hA⟩
theorem tC {a b : List Nat} (h : meets a b = false) : ∀ i, i ∈ a → ¬ i ∈ b := fun i ha hb => by
  have : meets a b = true := by
    unfold meets
    exact List.any_eq_true.2 ⟨i, ha, List.any_eq_true.2 ⟨i, hb, cG i⟩⟩
  rw [this] at h; cases h
theorem IC {E : Env} {all : List Oper} {ops : Array Oper} (hops : ops.toList = all) {o1 o2 : Oper} {st s1 s2 : St} {l1 l2 : Lg} (hap : o1.apart ops o2 = true) (hw : meets l1.2 (l2.1 ++ l2.2) = false) (hr : meets l1.1 l2.2 = false)
    (h1 : StepT E all o1 st l1 s1) (h2 : StepT E all o2 s1 l2 s2) : ∃ sb s2', StepT E all o2 st l2 sb ∧ StepT E all o1 sb l1 s2' ∧ Alike s2 s2' := by
  obtain ⟨a1, a2, a3⟩ := Oper.apart_spec hap
  obtain ⟨v1, n1, F1, hn1, hA1, hp1⟩ := pJ h1
  obtain ⟨v2, n2, F2, hn2, hA2, hp2⟩ := pJ h2
  obtain ⟨sb, hsb, hAb⟩ := hp2 st (fun b => by rw [hA1.tm]; exact (NN hops o2 st.tm o1.dst v1 b a1).symm) (by rw [hA1.tm]; exact (Cf E o2 _ st.tm o1.dst v1 a1).symm)
    (fun i hi => by rw [hA1.ob i, if_neg fun hk => tC hw i hk (List.mem_append_left _ hi)])
    (dv.mono _ _ _ (fun i hi => (hA1.us i).2 (.inl hi)) hA2.fresh)
  obtain ⟨s2', hs2, hAs⟩ := hp1 sb (fun b => by rw [hAb.tm]; exact NN hops o1 st.tm o2.dst v2 b a3) (by rw [hAb.tm]; exact Cf E o1 _ st.tm o2.dst v2 a3)
    (fun i hi => by rw [hAb.ob, if_neg fun hk => tC hr i hi hk])
    (dv.more _ st.us _ (fun i hi => ((hAb.us i).1 hi).imp id fun hk hm => dv.not _ _ hA2.fresh i hk ((hA1.us i).2 (.inr hm))) hA1.fresh)
  refine ⟨sb, s2', hsb, hs2, ⟨?_, fun i => ?_, fun i => ?_⟩⟩
  · rw [hA2.tm, hAs.tm, hA1.tm, hAb.tm]
    exact IQ _ _ _ a2
  · rw [hA2.ob, hAs.ob, hA1.ob, hAb.ob]
    by_cases k2 : i ∈ l2.2
    · rw [if_pos k2, if_neg (fun hk => tC hw i hk (List.mem_append_right _ k2)), if_pos k2]
    · rw [if_neg k2]
      rw [if_neg k2]
  · rw [hA2.us, hAs.us, hA1.us, hAb.us]
    exact ⟨fun h => h.elim (fun h => h.elim (fun h => .inl (.inl h)) .inr) fun h => .inl (.inr h), fun h => h.elim (fun h => h.elim (fun h => .inl (.inl h)) .inr) fun h => .inl (.inr h)⟩
inductive RunI (E : Env) (all : List Oper) (lg : List Lg) : List Nat → St → St → Prop
  | nil (st : St) : RunI E all lg [] st st
  | cons {j : Nat} {o : Oper} {l : Lg} {r : List Nat} {st st1 st2 : St} (ho : all[j]? = some o) (hl : lg[j]? = some l) (h : StepT E all o st l st1) (t : RunI E all lg r st1 st2) : RunI E all lg (j :: r) st st2
theorem RunT.toI {E : Env} {all : List Oper} {lg : List Lg} : ∀ (r : List Oper) (k : Nat) (st st' : St) (ls : List Lg), (∀ j o, r[j]? = some o → all[k + j]? = some o) → (∀ j o, ls[j]? = some o → lg[k + j]? = some o) →
    RunT E all r st ls st' → RunI E all lg (List.range' k r.length) st st' := by
  intro r
  induction r with
  | nil => intro k st st' ls _ _ h; cases h; exact .nil _
  | cons o r ih =>
    intro k st st' ls hj hl h
    cases h with
    | cons h t =>
      rw [List.length_cons, List.range'_succ]
      exact .cons (hj 0 _ rfl) (hl 0 _ rfl) h (ih (k + 1) _ _ _ (fun j o' ho' => by
        have := hj (j + 1) o' (by simpa using ho')
        rw [show k + 1 + j = k + (j + 1) by omega]; exact this) (fun j o' ho' => by
        have := hl (j + 1) o' (by simpa using ho')
        rw [show k + 1 + j = k + (j + 1) by omega]; exact this) t)
theorem RunT.len {E : Env} {all : List Oper} : ∀ {r : List Oper} {st st' : St} {ls : List Lg}, RunT E all r st ls st' → ls.length = r.length
  | _, _, _, _, .nil _ => rfl
  | _, _, _, _, .cons _ t => by simp [t.len]
theorem Eo {E : Env} {all : List Oper} {lg : List Lg} {r : List Nat} {st st' : St} (h : RunI E all lg r st st') : ∀ {t : St}, Alike st t → ∃ t', RunI E all lg r t t' ∧ Alike st' t' := by
  induction h with
  | nil st => intro t hA; exact ⟨t, .nil t, hA⟩
  | cons ho hl h _ ih =>
    intro t hA
    obtain ⟨t1, h1, hA1⟩ := Eg h hA
    obtain ⟨t', h2, hA2⟩ := ih hA1
    exact ⟨t', .cons ho hl h1 h2, hA2⟩
theorem C4 {all : List Oper} {lg : List Lg} {i j : Nat} {a b : Oper} {la lb : Lg} (ha : all[i]? = some a) (hb : all[j]? = some b) (hla : lg[i]? = some la) (hlb : lg[j]? = some lb) (h : qh all lg i j = true) :
    a.apart all.toArray b = true ∧ meets la.2 (lb.1 ++ lb.2) = false ∧ meets la.1 lb.2 = false := by
  unfold qh at h
  rw [ha, hb, hla, hlb] at h
  simp only [Bool.and_eq_true, Bool.not_eq_true'] at h
  exact ⟨h.1.1, h.1.2, h.2⟩
theorem En {E : Env} {all : List Oper} {lg : List Lg} {j : Nat} {q : List Nat} : ∀ (p : List Nat) (st st' : St), RunI E all lg (p ++ j :: q) st st' → (∀ i ∈ p, qh all lg i j = true) →
    ∃ o l s1 s2, all[j]? = some o ∧ lg[j]? = some l ∧ StepT E all o st l s1 ∧ RunI E all lg (p ++ q) s1 s2 ∧ Alike st' s2 := by
  intro p
  induction p with
  | nil =>
    intro st st' h _
    cases h with
    | cons ho hl h t => exact ⟨_, _, _, _, ho, hl, h, t, Alike.refl _⟩
  | cons i p ih =>
    intro st st' h hap
    rw [List.cons_append] at h
    cases h with
    | cons ho hl h t =>
      obtain ⟨o2, l2, s1, s2, ho2, hl2, hs, hr, hA⟩ := ih _ _ t fun k hk => hap k (List.mem_cons_of_mem _ hk)
      obtain ⟨x1, x2, x3⟩ := C4 ho ho2 hl hl2 (hap i (List.mem_cons_self ..))
      obtain ⟨sb, s3, y1, y2, y3⟩ := IC (ops := all.toArray) (by simp) x1 x2 x3 h hs
      obtain ⟨s4, z1, z2⟩ := Eo hr y3
      exact ⟨o2, l2, sb, s4, ho2, hl2, y1, .cons ho hl y2 z1, hA.trans z2⟩
theorem Pe {acc : List Nat} {x y : Nat} (h : y ∈ ins acc x) : y ∈ acc ∨ y = x := by
  unfold ins at h
  cases hh : has acc x with
  | true => rw [hh] at h; exact .inl h
  | false => rw [hh] at h; exact (List.mem_cons.1 h).symm
theorem G2 {y : Nat} : ∀ (b a : List Nat), y ∈ UY a b → y ∈ a ∨ y ∈ b
  | [], a, h => .inl h
  | x :: b, a, h => (G2 b (ins a x) h).elim (fun h => (Pe h).elim .inl fun h => .inr (h ▸ List.mem_cons_self ..)) fun h => .inr (List.mem_cons_of_mem _ h)
theorem Ci {acc : List (List Nat)} {x : Nat} : ∀ (ds s : List Nat), x ∈ ds.foldl (fun s d => bif has s d then s else UY (d :: s) (acc.getD d [])) s → x ∈ s ∨ ∃ d ∈ ds, x = d ∨ x ∈ acc.getD d []
  | [], s, h => .inl h
  | d :: ds, s, h => by
    rcases Ci ds _ h with h | ⟨e, he, h⟩
    · cases hh : has s d with
      | true => simp only [hh, cond_true] at h; exact .inl h
      | false =>
        simp only [hh, cond_false] at h
        rcases G2 _ _ h with h | h
        · rcases List.mem_cons.1 h with h | h
          · exact .inr ⟨d, List.mem_cons_self .., .inl h⟩
          · exact .inl h
        · exact .inr ⟨d, List.mem_cons_self .., .inr h⟩
    · exact .inr ⟨e, List.mem_cons_of_mem _ he, h⟩
theorem rp : ∀ (r : List Oper) (acc : List (List Nat)), ∃ tail, t7 r acc = acc ++ tail ∧ tail.length = r.length ∧ ∀ i o x, r[i]? = some o → x ∈ tail.getD i [] → ∃ d ∈ direct o, x = d ∨ x ∈ (acc ++ tail).getD d []
  | [], acc => ⟨[], by simp [t7], rfl, fun i o x h => by simp at h⟩
  | o :: r, acc => by
    obtain ⟨tail, h1, h2, h3⟩ := rp r (acc ++ [(direct o).foldl (fun s d => bif has s d then s else UY (d :: s) (acc.getD d [])) []])
    refine ⟨(direct o).foldl (fun s d => bif has s d then s else UY (d :: s) (acc.getD d [])) [] :: tail, by rw [t7, h1]; simp, by simp [h2], fun i o' x hi hx => ?_⟩
    cases i with
    | zero =>
      simp only [List.getElem?_cons_zero, Option.some.injEq] at hi
      subst hi
      simp only [List.getD_cons_zero] at hx
      rcases Ci _ _ hx with h | ⟨d, hd, h⟩
      · cases h
      · refine ⟨d, hd, h.imp id fun h => ?_⟩
        by_cases hl : d < acc.length
        · simpa [List.getD, List.getElem?_append_left hl] using h
        · simp [List.getD, List.getElem?_eq_none (Nat.le_of_not_lt hl)] at h
    | succ i =>
      obtain ⟨d, hd, h⟩ := h3 i o' x (by simpa using hi) (by simpa using hx)
      exact ⟨d, hd, h.imp id fun h => by simpa using h⟩
theorem xY (ops : List Oper) : (t8 ops).length = ops.length ∧ ∀ i o x, ops[i]? = some o → x ∈ (t8 ops).getD i [] → ∃ d ∈ direct o, x = d ∨ x ∈ (t8 ops).getD d [] := by
  obtain ⟨tail, h1, h2, h3⟩ := rp ops []
  rw [List.nil_append] at h1
  unfold t8
  rw [h1]
  exact ⟨h2, fun i o x ho hx => by simpa using h3 i o x ho hx⟩
section
variable {K : Ctx}
theorem HQ {E : Env} (hE : EnvOK E) {all : List Oper} {ops : Array Oper} (hops : ops.toList = all) {Q : Exit → Act → World → Prop} {lg : List Lg} (hb : Hg all = true)
    (hap : ∀ j, j < all.length → ∀ i, i < j → i ∈ (t8 all).getD j [] ∨ qh all lg i j = true) : ∀ (fuel : Nat) (rem : List Nat) (listed : Array Bool) (st st' se : St) (a : Act) (mu : Nat → Option Nat) (R : Nat → Prop) (w : World),
    rem.length = fuel → rem.Pairwise (· < ·) → (∀ k, k ∈ rem ↔ (k < all.length ∧ listed.getD k true = false)) → (∀ k, ¬ k ∈ rem → ∀ d ∈ (t8 all).getD k [], ¬ d ∈ rem) → listed.size = all.length →
    RunI E all lg rem st st' → Alike st' se → Sim K st a mu R w → (∀ a' mu' R' w', Sim K se a' mu' R' w' → Q .normal a' w') → wpAny E.P .any ops Q fuel listed a w := by
  intro fuel
  induction fuel with
  | zero =>
    intro rem listed st st' se a mu R w hlen hpw hmem hcl hsz hrun hA hS hQ
    have : rem = [] := List.length_eq_zero_iff.1 hlen
    subst this
    cases hrun
    refine ⟨List.eq_nil_iff_forall_not_mem.2 fun j hj => ?_, hQ _ _ _ _ (hA.sim hS)⟩
    obtain ⟨h0, o, ho, _⟩ := mem_ready.1 hj
    have := (hmem j).2 ⟨by rw [← hops]; simpa using (Array.getElem?_eq_some_iff.1 ho).1, h0⟩
    cases this
  | succ fuel ih =>
    intro rem listed st st' se a mu R w hlen hpw hmem hcl hsz hrun hA hS hQ
    have hget : ∀ j : Nat, ops[j]? = all[j]? := fun j => by rw [← hops, Array.getElem?_toList]
    refine ⟨fun hnil => ?_, fun j hj => ?_⟩
    · exfalso
      cases rem with
      | nil => cases hlen
      | cons j r =>
        have hj := (hmem j).1 (List.mem_cons_self ..)
        have : j ∈ Region.ready .any ops listed := by
          rw [mem_ready]
          refine ⟨hj.2, all[j], by rw [hget]; simp [hj.1], fun e he hbd => ?_⟩
          have hlt : e.on < j := by
            unfold Hg at hb
            have := List.all_eq_true.1 hb j (List.mem_range.2 hj.1)
            rw [List.getElem?_eq_getElem hj.1] at this
            have := List.all_eq_true.1 this e.on (by unfold direct; exact List.mem_map.2 ⟨e, List.mem_filter.2 ⟨by simpa using he, hbd⟩, rfl⟩)
            exact Nat.blt_eq ▸ this
          have hn : ¬ e.on ∈ j :: r := fun hm => by
            rcases List.mem_cons.1 hm with h | h
            · omega
            · have := (List.pairwise_cons.1 hpw).1 _ h
              omega
          have h2 : listed.getD e.on true ≠ false := fun h => hn ((hmem _).2 ⟨by omega, h⟩)
          have hs : e.on < listed.size := by omega
          simp [hs] at h2 ⊢
          exact h2
        rw [hnil] at this
        cases this
    · obtain ⟨h0, o0, ho0, hall⟩ := mem_ready.1 hj
      have hjl : j < all.length := by
        rw [← hops]; simpa using (Array.getElem?_eq_some_iff.1 ho0).1
      have hjm : j ∈ rem := (hmem j).2 ⟨hjl, h0⟩
      have hdep : ∀ d ∈ (t8 all).getD j [], ¬ d ∈ rem := fun x hx => by
        obtain ⟨d, hd, h⟩ := (xY all).2 j o0 x (by rw [← hget]; exact ho0) hx
        have D1 : ¬ d ∈ rem := fun hm => by
          unfold direct at hd
          obtain ⟨e, he, hed⟩ := List.mem_map.1 hd
          obtain ⟨he1, he2⟩ := List.mem_filter.1 he
          have := hall e (by simpa using he1) he2
          rw [hed] at this
          have hk := ((hmem d).1 hm)
          have hs : d < listed.size := by omega
          have h3 := hk.2
          simp [hs] at this h3
          rw [h3] at this
          cases this
        rcases h with h | h
        · exact h ▸ D1
        · exact hcl d D1 x h
      obtain ⟨p, q, hpq⟩ := List.append_of_mem hjm
      subst hpq
      have hpw' := List.pairwise_append.1 hpw
      have hlt : ∀ i ∈ p, i < j := fun i hi => hpw'.2.2 i hi j (List.mem_cons_self ..)
      have hgt : ∀ i ∈ q, j < i := fun i hi => (List.pairwise_cons.1 hpw'.2.1).1 i hi
      obtain ⟨o, l, s1, s2, ho, hl, hs, hr, hA2⟩ := En p _ _ hrun fun i hi => (hap j hjl i (hlt i hi)).resolve_left fun hd => hdep i hd (List.mem_append_left _ hi)
      have hmem' : ∀ k, k ∈ p ++ q ↔ k ∈ p ++ j :: q ∧ k ≠ j := fun k => by
        simp only [List.mem_append, List.mem_cons]
        constructor
        · rintro (h | h)
          · exact ⟨.inl h, by have := hlt k h; omega⟩
          · exact ⟨.inr (.inr h), by have := hgt k h; omega⟩
        · rintro ⟨h | h | h, hne⟩
          · exact .inl h
          · exact absurd h hne
          · exact .inr h
      refine GJ hE hops hS ho hs fun a' mu' R' w' hS' => ?_
      refine ih (p ++ q) (listed.setIfInBounds j true) s1 s2 se a' mu' R' w' ?_ ?_ ?_ ?_ ?_ hr (hA2.symm.trans hA) hS' hQ
      · simp only [List.length_append, List.length_cons] at hlen ⊢; omega
      · exact hpw.sublist (List.Sublist.append_left (List.sublist_cons_self ..) _)
      · intro k
        rw [hmem' k, hmem k]
        constructor
        · rintro ⟨⟨h1, h2⟩, h3⟩
          exact ⟨h1, by rw [getD_set_ne true (Ne.symm h3)]; exact h2⟩
        · rintro ⟨h1, h2⟩
          have hne : k ≠ j := fun e => by
            subst e
            have hs : k < listed.size := by omega
            simp [hs] at h2
          rw [getD_set_ne true (Ne.symm hne)] at h2
          exact ⟨⟨h1, h2⟩, hne⟩
      · intro k hk d hd
        have hsub : ∀ x, x ∈ p ++ q → x ∈ p ++ j :: q := fun x hx => ((hmem' x).1 hx).1
        by_cases e : k = j
        · subst e
          exact fun hm => hdep d hd (hsub d hm)
        · exact fun hm => hcl k (fun hm' => hk ((hmem' k).2 ⟨hm', e⟩)) d hd (hsub d hm)
      · simpa using hsz
theorem xP (a : List Nat) : meets a [] = false := by
  unfold meets
  induction a with
  | nil => rfl
  | cons x l ih => simp [List.any_cons] at ih ⊢
theorem tK : ∀ (lg : List Lg) (n i : Nat) (l : Lg), lg[i]? = some l → jC l = true → (n + i, l) ∈ rK n lg
  | [], n, i, l, h, _ => by simp at h
  | a :: lg, n, 0, l, h, hf => by
    simp at h
    subst h
    unfold rK
    rw [hf]
    exact List.mem_cons_self ..
  | a :: lg, n, i + 1, l, h, hf => by
    simp at h
    have := tK lg (n + 1) i l h hf
    rw [show n + 1 + i = n + (i + 1) by omega] at this
    unfold rK
    cases hb : jC a with
    | true => exact List.mem_cons_of_mem _ this
    | false => exact this
theorem zf : ∀ (lg : List Lg) (n : Nat) (q : Nat × Lg), q ∈ rK n lg → n ≤ q.1
  | [], n, q, h => by cases h
  | a :: lg, n, q, h => by
    unfold rK at h
    cases hb : jC a with
    | true =>
      rw [hb] at h
      rcases List.mem_cons.1 h with rfl | h
      · exact Nat.le_refl _
      · have := zf lg (n + 1) q h; omega
    | false =>
      rw [hb] at h
      have := zf lg (n + 1) q h; omega
theorem lh {ds : List (List Nat)} : ∀ (lg : List Lg) (n : Nat), zJ ds (rK n lg) = true → ∀ i j ra wa rb wb, i < j → (i, ra, wa) ∈ rK n lg → (j, rb, wb) ∈ rK n lg → has (ds.getD j []) i = true ∨ (meets wa (rb ++ wb) = false ∧ meets ra wb = false)
  | [], n, _, i, j, ra, wa, rb, wb, _, h, _ => by cases h
  | a :: lg, n, hD, i, j, ra, wa, rb, wb, hij, hi, hj => by
    unfold rK at hD hi hj
    cases hb : jC a with
    | false =>
      rw [hb] at hD hi hj
      exact lh lg (n + 1) hD i j ra wa rb wb hij hi hj
    | true =>
      rw [hb] at hD hi hj
      simp only [cond_true] at hD hi hj
      obtain ⟨a1, a2⟩ := a
      simp only [zJ, Bool.and_eq_true] at hD
      rcases List.mem_cons.1 hi with e | hi'
      · cases e
        rcases List.mem_cons.1 hj with e | hj'
        · cases e; omega
        · have := List.all_eq_true.1 hD.1 _ hj'
          simp only [Bool.or_eq_true, Bool.and_eq_true, Bool.not_eq_true'] at this
          exact this
      · rcases List.mem_cons.1 hj with e | hj'
        · cases e
          have := zf lg _ _ hi'
          simp only at this
          omega
        · exact lh lg (n + 1) hD.2 i j ra wa rb wb hij hi' hj'
theorem C3 {all : List Oper} {lg : List Lg} (h : um all lg = true) : Hg all = true ∧ ∀ j, j < all.length → ∀ i, i < j → i ∈ (t8 all).getD j [] ∨ qh all lg i j = true := by
  unfold um at h
  simp only [Bool.and_eq_true] at h
  obtain ⟨⟨hS, hlen⟩, hD⟩ := h
  have hlen := Nat.eq_of_beq_eq_true hlen
  unfold MY at hS
  simp only [Bool.and_eq_true] at hS
  refine ⟨hS.1, fun j hj i hi => ?_⟩
  have h1 := List.all_eq_true.1 (List.all_eq_true.1 hS.2 j (List.mem_range.2 hj)) i (List.mem_range.2 hi)
  have e1 : all[i]? = some all[i] := List.getElem?_eq_getElem (by omega)
  have e2 : all[j]? = some all[j] := List.getElem?_eq_getElem hj
  have e3 : lg[i]? = some lg[i] := List.getElem?_eq_getElem (by omega)
  have e4 : lg[j]? = some lg[j] := List.getElem?_eq_getElem (by omega)
  rw [e1, e2] at h1
  rcases Bool.or_eq_true _ _ |>.mp h1 with h | h
  · exact .inl ((co _ _).1 h)
  · unfold qh
    rw [e1, e2, e3, e4]
    generalize hA : lg[i] = A at *
    generalize hB : lg[j] = B at *
    obtain ⟨ra, wa⟩ := A
    obtain ⟨rb, wb⟩ := B
    simp only at h ⊢
    rw [h]
    cases fA : jC (ra, wa) with
    | false =>
      have : ra = [] ∧ wa = [] := by
        unfold jC at fA
        split at fA
        · rename_i e; cases e; exact ⟨rfl, rfl⟩
        · cases fA
      obtain ⟨rfl, rfl⟩ := this
      exact .inr rfl
    | true =>
      cases fB : jC (rb, wb) with
      | false =>
        have : rb = [] ∧ wb = [] := by
          unfold jC at fB
          split at fB
          · rename_i e; cases e; exact ⟨rfl, rfl⟩
          · cases fB
        obtain ⟨rfl, rfl⟩ := this
        right
        rw [List.append_nil, xP, xP]
        rfl
      | true =>
        have m1 := tK lg 0 i _ e3 fA
        have m2 := tK lg 0 j _ e4 fB
        rw [Nat.zero_add] at m1 m2
        rcases lh lg 0 hD i j ra wa rb wb hi m1 m2 with h | ⟨h2, h3⟩
        · exact .inl ((co _ _).1 h)
        · right
          rw [h2, h3]
          rfl
theorem IP {E : Env} (hE : EnvOK E) {id : Nat} {ops : Array Oper} {draw : Bool} {st st' : St} {a : Act} {mu : Nat → Option Nat} {R : Nat → Prop} {w : World} (hS : Sim K st a mu R w) (h : (kG E ops.toList draw st).to st') {Q : Exit → Act → World → Prop}
    (hQ : ∀ a' mu' R' w', Sim K st' a' mu' R' w' → Q .normal a' w') : (Code.region id ops draw).wp E.P Q a w := by
  unfold kG at h
  rw [MB] at h
  have hE0 := hE
  generalize hEE : ({ E with base := 1000000 * st.us.length } : Env) = F at h
  have hP : F.P = E.P := by rw [← hEE]
  have hE : EnvOK F := by rw [← hEE]; exact ⟨hE.call, hE.mixed⟩
  rw [← hP]
  obtain ⟨s, ls, hrun, h⟩ := ot F _ _ _ _ _ _ h
  rw [List.nil_append] at h
  cases draw with
  | false =>
    have := Tr.to_ret h
    subst this
    refine wp_region ?_
    rw [List.range_eq_range']
    have := HP hE (K := K) (ops := ops) rfl (Q := Q) ops.toList 0 st s ls a mu R w (fun j o h => by simpa using h) hrun hS hQ
    simpa using this
  | true =>
    simp only [if_true] at h
    cases hb : um ops.toList ls with
    | false => rw [hb] at h; exact (Tr.to_fail h).elim
    | true =>
      rw [hb] at h
      have := Tr.to_ret h
      subst this
      obtain ⟨hback, hap⟩ := C3 hb
      refine wp_region_any hE.mixed ?_
      have hI := hrun.toI (lg := ls) ops.toList 0 st s ls (fun j o h => by simpa using h) (fun j o h => by simpa using h)
      refine HQ hE rfl hback hap ops.size (List.range' 0 ops.toList.length) _ st s s a mu R { w with drawn := w.drawn + 1 } (by simp) (List.pairwise_lt_range' ..) (fun k => ?_) (fun k hk d hd => ?_) (by simp) hI (Alike.refl _) ?_ hQ
      · simp
        intro hk
        simp [hk]
      · have hl : ¬ k < ops.toList.length := fun hlt => hk (by simpa using hlt)
        have hd' := (xY ops.toList).1
        simp [List.getD, List.getElem?_eq_none (show (t8 ops.toList).length ≤ k by omega)] at hd
      · exact hS.put none (x := gk) (v := undef) (Ext.grow hS.mem.rlt (Grow.drew w)) (hS.mem.grow (Grow.drew w)) rfl
end
end
end Go.Am
namespace Go.Am
noncomputable section
def Y0 : Ex → Exit
  | .normal => .normal
  | .exit i => .exit i
  | .ret => .ret
def QE (K : Ctx) (Q : Exit → Act → World → Prop) (ex : Ex) (st : St) : Prop := ∀ a mu R w, Sim K st a mu R w → Q (Y0 ex) a w
def kg (P : Program) (n : Nat) (pins : List Nat) (c : Code) (C : Cut) : Prop :=
  ∀ pk ex pk', (C.orc pk).to (ex, pk') → ∀ (K : Ctx) a mu R w Q, K.pins = pins → Sim K (kl n C.live pk) a mu R w → QE K Q ex (kl n (C.out ex) pk') → c.wp P Q a w
inductive At (root : Code) : Nat → Code → Prop
  | root : At root 1 root
  | seqL {p : Nat} {a b : Code} (h : At root p (.seq a b)) : At root (2 * p) a
  | seqR {p : Nat} {a b : Code} (h : At root p (.seq a b)) : At root (2 * p + 1) b
  | condT {p : Nat} {x : Operand} {a b : Code} (h : At root p (.cond x a b)) : At root (2 * p) a
  | condE {p : Nat} {x : Operand} {a b : Code} (h : At root p (.cond x a b)) : At root (2 * p + 1) b
  | block {p id : Nat} {c : Code} (h : At root p (.block id c)) : At root (2 * p) c
  | loop {p : Nat} {c : Code} (h : At root p (.loop c)) : At root (2 * p) c
def codeOf (root : Code) : Nat → Nat → Option Code
  | 0, _ => none
  | n + 1, q => bif Nat.beq q 1 then some root else match codeOf root n (q / 2) with
    | some (.seq a b) => some (bif Nat.beq (q % 2) 0 then a else b)
    | some (.cond _ a b) => some (bif Nat.beq (q % 2) 0 then a else b)
    | some (.block _ c) => bif Nat.beq (q % 2) 0 then some c else none
    | some (.loop c) => bif Nat.beq (q % 2) 0 then some c else none
    | _ => none
theorem At.pos {root : Code} {q : Nat} {c : Code} (h : At root q c) : 0 < q := by
  induction h <;> omega
theorem At.codeOf {root : Code} {q : Nat} {c : Code} (h : At root q c) : ∀ n, q < 2 ^ n → codeOf root n q = some c := by
  have key0 : ∀ p : Nat, (2 * p) / 2 = p := fun p => by omega
  have key1 : ∀ p : Nat, (2 * p + 1) / 2 = p := fun p => by omega
  have m0 : ∀ p : Nat, Nat.beq ((2 * p) % 2) 0 = true := fun p => by rw [Nat.mul_mod_right]; rfl
  have m1 : ∀ p : Nat, Nat.beq ((2 * p + 1) % 2) 0 = false := fun p => by rw [show (2 * p + 1) % 2 = 1 by omega]; rfl
  have one : ∀ q : Nat, q ≠ 1 → Nat.beq q 1 = false := fun q h => eE h
  induction h with
  | root => intro n hn; cases n with
    | zero => exact absurd hn (by decide)
    | succ n => rfl
  | seqL h ih | condT h ih | block h ih | loop h ih =>
    intro n hn
    cases n with
    | zero => have := h.pos; simp at hn; omega
    | succ n =>
      rw [Am.codeOf, one _ (by omega), cond_false, key0, ih n (by rw [Nat.pow_succ] at hn; omega)]
      simp only [m0, cond_true]
  | seqR h ih | condE h ih =>
    intro n hn
    cases n with
    | zero => simp at hn
    | succ n =>
      have := h.pos
      rw [Am.codeOf, one _ (by omega), cond_false, key1, ih n (by rw [Nat.pow_succ] at hn; omega)]
      simp only [m1, cond_false]
def gM (E : Env) (n : Nat) (pins : List Nat) (root : Code) : Prop := ∀ q c C, At root q c → E.cut q = some C → kg E.P n pins c C
theorem LB (tm : List TV) (d : Option Tmp) (x : TV) : (gr tm d x).length = tm.length := by
  cases d <;> simp [gr, eK]
theorem BW {E : Env} {all : List Oper} : ∀ {r : List Oper} {st st' : St} {ls : List Lg}, RunT E all r st ls st' → st'.tm.length = st.tm.length
  | _, _, _, _, .nil _ => rfl
  | _, _, _, _, .cons h t => by
    rw [BW t]
    cases h <;> exact LB ..
theorem BQ : ∀ (l : List (Nat × TV)) (tm : List TV), (l.foldl (fun l (t, x) => l.set t x) tm).length = tm.length
  | [], _ => rfl
  | (t, x) :: r, tm => by rw [List.foldl_cons, BQ r]; simp
theorem zj (n : Nat) (live : List Nat) (pk : Pk) : (kl n live pk).tm = (live.zip pk.roots).foldl (fun l (t, x) => l.set t x) (List.replicate n .dead) := by
  unfold kl
  simp only [eK]
theorem iS (n : Nat) (live : List Nat) (pk : Pk) : (kl n live pk).tm.length = n := by
  rw [zj, BQ]
  simp
theorem BR : ∀ (l : List (Nat × TV)) (tm : List TV) (i : Nat) (x : TV), (l.foldl (fun l (t, x) => l.set t x) tm)[i]? = some x → tm[i]? = some x ∨ (i, x) ∈ l
  | [], _, _, _, h => .inl h
  | (t, y) :: r, tm, i, x, h => by
    rw [List.foldl_cons] at h
    rcases BR r _ i x h with h | h
    · simp only [List.getElem?_set] at h
      by_cases e : t = i
      · subst e
        by_cases hl : t < tm.length
        · simp [hl] at h
          subst h
          exact .inr (List.mem_cons_self ..)
        · simp [hl] at h
      · simp [e] at h
        exact .inl h
    · exact .inr (List.mem_cons_of_mem _ h)
theorem fe (pk : Pk) (i : Nat) : aL (iN pk) i = pk.fd i := by
  unfold iN Pk.fd
  have key : ∀ (l : List (Option Ob)) (k i : Nat), aL ((l.zipIdx k).filterMap fun (o, i) => o.map fun ob => (i, ob)) (k + i) = (l[i]?).bind id := by
    intro l
    induction l with
    | nil => intro k i; simp [aL]
    | cons o l ih =>
      intro k i
      have hge : ∀ (l : List (Option Ob)) (k j : Nat), j < k → aL ((l.zipIdx k).filterMap fun (o, i) => o.map fun ob => (i, ob)) j = none := by
        intro l
        induction l with
        | nil => intro k j _; simp [aL]
        | cons o l ih =>
          intro k j hj
          simp only [List.zipIdx_cons, List.filterMap_cons]
          cases o with
          | none => exact ih (k + 1) j (by omega)
          | some o =>
            simp only [Option.map_some]
            rw [bk, if_neg (by omega)]
            exact ih (k + 1) j (by omega)
      simp only [List.zipIdx_cons, List.filterMap_cons]
      cases i with
      | zero =>
        cases o with
        | none => simpa using hge l (k + 1) k (by omega)
        | some o => simp [bk]
      | succ i =>
        have := ih (k + 1) i
        rw [show k + 1 + i = k + (i + 1) by omega] at this
        cases o with
        | none => simpa using this
        | some o =>
          simp only [Option.map_some]
          rw [bk, if_neg (by omega)]
          simpa using this
  simpa using key pk.obs 0 i
theorem EG {ren pins : List Nat} (h : fixed ren pins = true) : ∀ i ∈ pins, kS ren i = i := fun i hi => by
  have := List.all_eq_true.1 h i hi
  exact Nat.eq_of_beq_eq_true this
section
variable {K : Ctx}
theorem LJ {st : St} {a : Act} {mu : Nat → Option Nat} {R : Nat → Prop} {w : World} (hS : Sim K st a mu R w) {args : List TV} (hp : K.pins = aE args) {live : List Nat} {ren : List Nat} {pk : Pk}
    (hP : db st.ob args (live.map fun t => st.tm.getD t .dead) ren pk) (hf : fixed ren (aE args) = true) : Sim K (kl st.tm.length live pk) a (fun i => mu (ren.getD i 0)) R w := by
  have hM := hS.mem
  have hren := hP.ren st.us mu R R w (fun _ h => h)
  have hcx : cx (kl st.tm.length live pk).us (kl st.tm.length live pk).ob (fun i => mu (ren.getD i 0)) R w = cB pk (fun i => mu (ren.getD i 0)) R w := by
    unfold cx cB
    have h1 : aL (kl st.tm.length live pk).ob = pk.fd := funext fun i => fe pk i
    have h2 : (fun i => i ∈ (kl st.tm.length live pk).us) = fun i => i < pk.obs.length := funext fun i => propext (by simp [kl])
    rw [h1, h2]
  have orig : ∀ i, (pk.fd i).isSome = true → ∃ j, j ∈ ren ∧ ren.getD i 0 = j ∧ kS ren j = i ∧ (aL st.ob j).isSome = true := by
    intro i hi
    have hlt : i < pk.obs.length := by
      unfold Pk.fd at hi
      cases h : pk.obs[i]? with
      | none => rw [h] at hi; cases hi
      | some o => exact (List.getElem?_eq_some_iff.1 h).1
    obtain ⟨j, h1, h2, h3, _⟩ := hP.back hlt
    refine ⟨j, h1, h2, h3, ?_⟩
    have := hP.fd h1
    rw [h3] at this
    rw [this, Option.isSome_map] at hi
    exact hi
  refine ⟨?_, ?_, ?_, hS.df, ?_⟩
  · rw [hcx]
    refine ⟨fun i hi => ?_, hM.fr, fun i o ho => ?_, fun i j b hi hj h1 h2 => ?_, fun i b hi h1 => ?_, fun i b hi h1 => ?_, fun i b hi h1 => ?_, hM.ro, hM.ro0, hM.rlt⟩
    · show i < pk.obs.length
      have hi : (pk.fd i).isSome = true := hi
      unfold Pk.fd at hi
      cases h : pk.obs[i]? with
      | none => rw [h] at hi; cases hi
      | some o => exact (List.getElem?_eq_some_iff.1 h).1
    · obtain ⟨j, h1, h2, h3, h4⟩ := orig i (Option.isSome_iff_exists.2 ⟨o, ho⟩)
      obtain ⟨o1, ho1⟩ := Option.isSome_iff_exists.1 h4
      have hfd := hP.fd h1
      rw [h3, ho1] at hfd
      have ho : pk.fd i = some o := ho
      rw [hfd] at ho
      cases ho
      rw [← h3]
      exact tf hren h1 ho1 (fun k hk => hP.closed j h1 o1 ho1 k hk) (fun _ _ => rfl) (hM.obs j o1 ho1)
    · obtain ⟨i', a1, a2, a3, a4⟩ := orig i hi
      obtain ⟨j', b1, b2, b3, b4⟩ := orig j hj
      have h1 : mu (ren.getD i 0) = some b := h1
      have h2 : mu (ren.getD j 0) = some b := h2
      rw [a2] at h1
      rw [b2] at h2
      have := hM.inj i' j' b a4 b4 h1 h2
      rw [← a3, ← b3, this]
    · obtain ⟨j, a1, a2, a3, a4⟩ := orig i hi
      have h1 : mu (ren.getD i 0) = some b := h1
      rw [a2] at h1
      exact hM.notR j b a4 h1
    · obtain ⟨j, a1, a2, a3, a4⟩ := orig i hi
      have h1 : mu (ren.getD i 0) = some b := h1
      rw [a2] at h1
      exact hM.own j b a4 h1
    · obtain ⟨j, a1, a2, a3, a4⟩ := orig i hi
      have h1 : mu (ren.getD i 0) = some b := h1
      rw [a2] at h1
      exact hM.lt j b a4 h1
  · rw [iS]; exact hS.len
  · intro i x hx
    rw [hcx]
    rw [zj] at hx
    rcases BR _ _ i x hx with h | h
    · obtain ⟨h1, h2⟩ := List.getElem?_eq_some_iff.1 h
      simp at h2
      subst h2
      exact trivial
    · rw [hP.roots] at h
      have key : ∀ (live : List Nat) (i : Nat) (x : TV), (i, x) ∈ live.zip (wC (kS ren) (live.map fun t => st.tm.getD t .dead)) → i ∈ live ∧ x = (st.tm.getD i .dead).ren (kS ren) := by
        intro live
        induction live with
        | nil => intro i x h; simp at h
        | cons t live ih =>
          intro i x h
          simp only [List.map_cons, wC, List.zip_cons_cons, List.mem_cons, Prod.mk.injEq] at h
          rcases h with ⟨rfl, rfl⟩ | h
          · exact ⟨List.mem_cons_self .., rfl⟩
          · exact ⟨List.mem_cons_of_mem _ (ih i x h).1, (ih i x h).2⟩
      obtain ⟨hl, rfl⟩ := key live i x h
      have hids : BP (st.tm.getD i .dead).ids (· ∈ ren) := fun j hj => hP.ids j (by
        have : ∀ (l : List TV) (y : TV), y ∈ l → ∀ j ∈ y.ids, j ∈ aE l := by
          intro l
          induction l with
          | nil => intro y hy; cases hy
          | cons z l ih =>
            intro y hy j hj
            simp only [aE, List.mem_append]
            rcases List.mem_cons.1 hy with rfl | hy
            · exact .inl hj
            · exact .inr (ih y hy j hj)
        exact this _ _ (List.mem_map.2 ⟨i, hl, rfl⟩) j hj)
      exact tc hren _ _ hids (by have := hS.eval (.tmp i); rw [show rS st.tm (.tmp i) = st.tm.getD i .dead from fG _ _] at this; exact this)
  · intro i hi
    rw [hp] at hi
    have hir := hP.pins i hi
    have hfx := EG hf i hi
    have hlt : i < pk.obs.length := by
      rw [hP.len]
      have := List.idxOf_lt_length_iff.2 hir
      unfold kS at hfx
      omega
    refine ⟨by simp [kl, hlt], fun o' ho' => ?_⟩
    have ho' : aL (iN pk) i = some o' := ho'
    rw [fe] at ho'
    have hfd := hP.fd hir
    rw [hfx, ho'] at hfd
    cases ho : aL st.ob i with
    | none => rw [ho] at hfd; cases hfd
    | some o1 =>
      rw [ho] at hfd
      simp only [Option.map_some, Option.some.injEq] at hfd
      obtain ⟨o, h1, h2, h3⟩ := (hS.pin i (hp ▸ hi)).2 o1 ho
      refine ⟨o, h1, ?_, hfd ▸ Ob.like.trans h3 (pU (tj _ o1))⟩
      show mu (ren.getD i 0) = _
      have : ren.getD i 0 = i := by
        obtain ⟨j, k1, k2, k3, _⟩ := hP.back hlt
        rw [k2]
        unfold kS at hfx k3
        have g1 := iT hir
        have g2 := iT k1
        rw [hfx] at g1
        rw [k3] at g2
        rw [g1] at g2
        exact (Option.some.inj g2).symm
      rw [this]
      exact h2
theorem iK {γ : Type} {st : St} {a : Act} {mu : Nat → Option Nat} {R : Nat → Prop} {w : World} (hS : Sim K st a mu R w) {args : List TV} (hp : K.pins = aE args) {live : List Nat} {k : Pk → Tr γ} {r : γ}
    (h : (wE args live st k).to r) : ∃ pk mu', (k pk).to r ∧ Sim K (kl st.tm.length live pk) a mu' R w := by
  unfold wE at h
  simp only [fG] at h
  obtain ⟨ren, pk, h1, h2⟩ := tt h
  rw [GTr.run_done] at h1
  cases hf : fixed ren (aE args) with
  | false => rw [hf] at h1; exact (Tr.to_fail h1).elim
  | true =>
    rw [hf] at h1
    exact ⟨pk, _, h1, LJ hS hp h2 hf⟩
end
end
end Go.Am
namespace Go.Am
noncomputable section
theorem O6 {γ : Type} {args : List TV} {live : List Nat} {st : St} {k : Pk → Tr γ} {r : γ} (h : (wE args live st k).to r) : ∃ pk, (k pk).to r := by
  unfold wE at h
  obtain ⟨ren, pk, h1, h2⟩ := tt h
  rw [GTr.run_done] at h1
  cases hf : fixed ren (aE args) with
  | false => rw [hf] at h1; exact (Tr.to_fail h1).elim
  | true => rw [hf] at h1; exact ⟨pk, h1⟩
theorem ya {C : Cut} {args : List TV} {st st' : St} {ex : Ex} (h : (p9 C args st).to (ex, st')) : st'.tm.length = st.tm.length := by
  unfold p9 at h
  obtain ⟨pk, h⟩ := O6 h
  obtain ⟨⟨ex', pk'⟩, h1, h2⟩ := Tr.to_bind h
  have := Tr.to_ret h2
  cases this
  exact iS ..
theorem yS {E : Env} {ops : List Oper} {draw : Bool} {st st' : St} (h : (kG E ops draw st).to st') : st'.tm.length = st.tm.length := by
  unfold kG at h
  rw [MB] at h
  obtain ⟨s, ls, hrun, h⟩ := ot _ _ _ _ _ _ _ h
  have : s = st' := by
    cases draw with
    | false => exact Tr.to_ret h
    | true =>
      simp only [if_true] at h
      cases hb : um ops ([] ++ ls) with
      | false => rw [hb] at h; exact (Tr.to_fail h).elim
      | true => rw [hb] at h; exact Tr.to_ret h
  subst this
  exact BW hrun
theorem Cp (st : St) (c : Operand) (b : Bool) : (rh st c b).tm.length = st.tm.length := by
  unfold rh
  split <;> simp [eK]
theorem xT {st : St} {c : Operand} {q b : Bool} (h : rS st.tm c = .v (.bool q)) (e : q = b) : rh st c b = st := by
  unfold rh
  split
  · rename_i t
    rw [eK, BS (show st.tm.getD t .dead = .v (.bool b) by rw [← e, ← fG]; exact h) (by intro e; cases e)]
  · rfl
theorem nl (E : Env) (args : List TV) : ∀ (c : Code) (p : Nat) (st : St) (ex : Ex) (st' : St), (b9 E args c p st).to (ex, st') → st'.tm.length = st.tm.length := by
  intro c
  induction c with
  | skip => intro p st ex st' h; cases Tr.to_ret h; rfl
  | label l => intro p st ex st' h; cases Tr.to_ret h; rfl
  | exit i => intro p st ex st' h; cases Tr.to_ret h; rfl
  | ret => intro p st ex st' h; cases Tr.to_ret h; rfl
  | region id ops draw =>
    intro p st ex st' h
    simp only [b9] at h
    obtain ⟨s, h1, h2⟩ := Tr.to_bind h
    cases Tr.to_ret h2
    exact yS h1
  | seq a b iha ihb =>
    intro p st ex st' h
    simp only [b9] at h
    obtain ⟨⟨ex1, s⟩, h1, h2⟩ := Tr.to_bind h
    have l1 := iha _ _ _ _ h1
    cases ex1 with
    | normal =>
      simp only at h2
      split at h2
      · rw [ya h2, l1]
      · rw [ihb _ _ _ _ h2, l1]
    | exit i => cases Tr.to_ret h2; exact l1
    | ret => cases Tr.to_ret h2; exact l1
  | cond c a b iha ihb =>
    intro p st ex st' h
    simp only [b9] at h
    split at h
    · rcases Tr.to_ite h with ⟨_, h⟩ | ⟨_, h⟩
      · rw [iha _ _ _ _ h]; exact Cp ..
      · rw [ihb _ _ _ _ h]; exact Cp ..
    · exact (Tr.to_fail h).elim
  | block id c ih =>
    intro p st ex st' h
    simp only [b9] at h
    obtain ⟨⟨ex1, s⟩, h1, h2⟩ := Tr.to_bind h
    have l1 := ih _ _ _ _ h1
    cases ex1 with
    | normal => cases Tr.to_ret h2; exact l1
    | ret => cases Tr.to_ret h2; exact l1
    | exit i =>
      simp only at h2
      cases hb : Nat.beq i id <;> rw [hb] at h2 <;> cases Tr.to_ret h2 <;> exact l1
  | loop c ih =>
    intro p st ex st' h
    simp only [b9] at h
    split at h
    · exact ya h
    · exact (Tr.to_fail h).elim
  | _ => intro p st ex st' h; exact (Tr.to_fail h).elim
section
variable {K : Ctx}
theorem MM {P : Program} {C : Cut} {c : Code} {args : List TV} {n : Nat} (hC : kg P n (aE args) c C) {st st' : St} {ex : Ex} {a : Act} {mu : Nat → Option Nat} {R : Nat → Prop} {w : World} {Q : Exit → Act → World → Prop}
    (hn : st.tm.length = n) (hp : K.pins = aE args) (hS : Sim K st a mu R w) (h : (p9 C args st).to (ex, st')) (hQ : QE K Q ex st') : c.wp P Q a w := by
  unfold p9 at h
  obtain ⟨pk, mu', h1, h2⟩ := iK hS hp h
  obtain ⟨⟨ex', pk'⟩, h3, h4⟩ := Tr.to_bind h1
  have := Tr.to_ret h4
  cases this
  rw [hn] at h2 hQ
  exact hC pk ex pk' h3 K a mu' R w Q hp h2 hQ
theorem qb {E : Env} (hE : EnvOK E) {root : Code} {n : Nat} {args : List TV} (hC : gM E n (aE args) root) : ∀ (c : Code) (p : Nat) (st : St) (ex : Ex) (st' : St) (a : Act) (mu : Nat → Option Nat) (R : Nat → Prop) (w : World) (Q : Exit → Act → World → Prop),
    At root p c → (b9 E args c p st).to (ex, st') → st.tm.length = n → K.pins = aE args → Sim K st a mu R w → QE K Q ex st' → c.wp E.P Q a w := by
  intro c
  induction c with
  | skip => intro p st ex st' a mu R w Q _ h _ _ hS hQ; cases Tr.to_ret h; exact wp_skip (hQ _ _ _ _ hS)
  | label l => intro p st ex st' a mu R w Q _ h _ _ hS hQ; cases Tr.to_ret h; exact wp_label (hQ _ _ _ _ hS)
  | exit i => intro p st ex st' a mu R w Q _ h _ _ hS hQ; cases Tr.to_ret h; exact wp_exit (hQ _ _ _ _ hS)
  | ret => intro p st ex st' a mu R w Q _ h _ _ hS hQ; cases Tr.to_ret h; exact wp_ret (hQ _ _ _ _ hS)
  | region id ops draw =>
    intro p st ex st' a mu R w Q _ h _ _ hS hQ
    simp only [b9] at h
    obtain ⟨s, h1, h2⟩ := Tr.to_bind h
    cases Tr.to_ret h2
    exact IP hE hS h1 hQ
  | seq x y iha ihb =>
    intro p st ex st' a mu R w Q hat h hn hp hS hQ
    simp only [b9] at h
    obtain ⟨⟨ex1, s⟩, h1, h2⟩ := Tr.to_bind h
    have l1 := nl E args _ _ _ _ _ h1
    refine wp_seq (iha _ _ _ _ a mu R w _ hat.seqL h1 hn hp hS fun a1 mu1 R1 w1 hS1 => ?_)
    cases ex1 with
    | normal =>
      simp only at h2
      split at h2
      · rename_i C hcut
        exact MM (hC _ _ _ hat.seqR hcut) (l1.trans hn) hp hS1 h2 hQ
      · exact ihb _ _ _ _ _ _ _ _ _ hat.seqR h2 (l1.trans hn) hp hS1 hQ
    | exit i => cases Tr.to_ret h2; exact hQ _ _ _ _ hS1
    | ret => cases Tr.to_ret h2; exact hQ _ _ _ _ hS1
  | cond c x y iha ihb =>
    intro p st ex st' a mu R w Q hat h hn hp hS hQ
    simp only [b9] at h
    split at h
    · rename_i q hq
      have hv := hS.eval c
      rw [hq] at hv
      have hv : a.eval c = .bool q := hv
      rcases Tr.to_ite h with ⟨hb, h⟩ | ⟨hb, h⟩
      · have e := xT hq hb
        subst hb
        exact wp_cond_true hv (iha _ (rh st c true) _ _ _ _ _ _ _ hat.condT h (by rw [e]; exact hn) hp (by rw [e]; exact hS) hQ)
      · have e := xT hq hb
        subst hb
        exact wp_cond_false hv (ihb _ (rh st c false) _ _ _ _ _ _ _ hat.condE h (by rw [e]; exact hn) hp (by rw [e]; exact hS) hQ)
    · exact (Tr.to_fail h).elim
  | block id c ih =>
    intro p st ex st' a mu R w Q hat h hn hp hS hQ
    simp only [b9] at h
    obtain ⟨⟨ex1, s⟩, h1, h2⟩ := Tr.to_bind h
    refine wp_block (ih _ _ _ _ a mu R w _ hat.block h1 hn hp hS fun a1 mu1 R1 w1 hS1 => ?_)
    cases ex1 with
    | normal => cases Tr.to_ret h2; exact hQ _ _ _ _ hS1
    | ret => cases Tr.to_ret h2; exact hQ _ _ _ _ hS1
    | exit i =>
      simp only at h2
      show (if i = id then Q .normal a1 w1 else Q (.exit i) a1 w1)
      by_cases e : i = id
      · subst e
        rw [cG] at h2
        cases Tr.to_ret h2
        rw [if_pos rfl]
        exact hQ _ _ _ _ hS1
      · rw [eE e] at h2
        cases Tr.to_ret h2
        rw [if_neg e]
        exact hQ _ _ _ _ hS1
  | loop c ih =>
    intro p st ex st' a mu R w Q hat h hn hp hS hQ
    simp only [b9] at h
    split at h
    · rename_i C hcut
      exact MM (hC _ _ _ hat hcut) hn hp hS h hQ
    · exact (Tr.to_fail h).elim
  | _ => intro p st ex st' a mu R w Q _ h; exact (Tr.to_fail h).elim
end
theorem O5 {E : Env} (hE : EnvOK E) {root c : Code} {n p : Nat} {args : List TV} (hC : gM E n (aE args) root) (hat : At root p c) {C : Cut} (h : ∀ pk r, (C.orc pk).to r → (yU E n args c p C pk).to r) : kg E.P n (aE args) c C := by
  intro pk ex pk' ho K a mu R w Q hp hS hQ
  have h := h _ _ ho
  unfold yU at h
  obtain ⟨⟨ex1, s⟩, h1, h2⟩ := Tr.to_bind h
  refine qb hE hC c p _ _ _ a mu R w Q hat h1 (iS ..) hp hS fun a1 mu1 R1 w1 hS1 => ?_
  obtain ⟨nb, mu2, h3, h4⟩ := iK hS1 hp h2
  cases Tr.to_ret h3
  rw [nl E args _ _ _ _ _ h1, iS] at h4
  exact hQ _ _ _ _ h4
theorem least {p : Nat → Prop} (h : ∃ k, p k) : ∃ k, p k ∧ ∀ j, p j → k ≤ j := by
  obtain ⟨k, hk⟩ := h
  induction k using Nat.strongRecOn with
  | _ k ih =>
    by_cases h : ∃ j, j < k ∧ p j
    · obtain ⟨j, h1, h2⟩ := h
      exact ih j h1 h2
    · exact ⟨k, hk, fun j hj => Nat.le_of_not_lt fun hl => h ⟨j, hl, hj⟩⟩
def rounds (P : Program) (c : Code) (Q : Exit → Act → World → Prop) : Nat → Act → World → Prop
  | 0, _, _ => False
  | k + 1, a, w => c.wp P (Exit.then (rounds P c Q k) Q) a w
open Classical in
theorem HO {P : Program} {c : Code} {Q : Exit → Act → World → Prop} {k : Nat} {a : Act} {w : World} (h : rounds P c Q k a w) : (Code.loop c).wp P Q a w := by
  refine wp_loop (fun a w => ∃ k, rounds P c Q k a w) (fun a w => if h : ∃ k, rounds P c Q k a w then (least h).choose else 0) ⟨k, h⟩ fun a w hI => ?_
  simp only [hI, dif_pos]
  generalize hm : (least hI).choose = m
  have hs := (least hI).choose_spec
  rw [hm] at hs
  cases m with
  | zero => exact hs.1.elim
  | succ m =>
    refine wp_mono hs.1 fun e a' w' he => ?_
    cases e with
    | normal =>
      have he : rounds P c Q m a' w' := he
      have hex : ∃ k, rounds P c Q k a' w' := ⟨m, he⟩
      refine ⟨hex, ?_⟩
      simp only [hex, dif_pos]
      have := (least hex).choose_spec.2 m he
      omega
    | _ => exact he
theorem LU {E : Env} (hE : EnvOK E) {root c : Code} {n p : Nat} {args : List TV} (hC : gM E n (aE args) root) (hat : At root p (.loop c)) {C : Cut} (orc : Nat → Pk → Tr (Ex × Pk)) (h0 : ∀ pk r, ¬ (orc 0 pk).to r)
    (h : ∀ k pk r, (orc (k + 1) pk).to r → (jr E n args c p { C with orc := orc k } pk).to r) (k : Nat) : kg E.P n (aE args) (.loop c) { C with orc := orc k } := by
  have key : ∀ k pk ex pk', (orc k pk).to (ex, pk') → ∀ (K : Ctx) a mu R w Q, K.pins = aE args → Sim K (kl n C.live pk) a mu R w → QE K Q ex (kl n (C.out ex) pk') → rounds E.P c Q k a w := by
    intro k
    induction k with
    | zero => intro pk ex pk' ho; exact (h0 _ _ ho).elim
    | succ k ih =>
      intro pk ex pk' ho K a mu R w Q hp hS hQ
      have h := h k _ _ ho
      unfold jr at h
      obtain ⟨⟨ex1, s⟩, h1, h2⟩ := Tr.to_bind h
      refine qb hE hC c (2 * p) _ _ _ a mu R w _ hat.loop h1 (iS ..) hp hS fun a1 mu1 R1 w1 hS1 => ?_
      have hl : s.tm.length = n := by rw [nl E args _ _ _ _ _ h1, iS]
      cases ex1 with
      | normal =>
        obtain ⟨nb, mu2, h3, h4⟩ := iK hS1 hp h2
        rw [hl] at h4
        exact ih _ _ _ h3 K a1 mu2 R1 w1 Q hp h4 hQ
      | exit i =>
        obtain ⟨nb, mu2, h3, h4⟩ := iK hS1 hp h2
        cases Tr.to_ret h3
        rw [hl] at h4
        exact hQ _ _ _ _ h4
      | ret =>
        obtain ⟨nb, mu2, h3, h4⟩ := iK hS1 hp h2
        cases Tr.to_ret h3
        rw [hl] at h4
        exact hQ _ _ _ _ h4
  intro pk ex pk' ho K a mu R w Q hp hS hQ
  exact HO (key k pk ex pk' ho K a mu R w Q hp hS hQ)
end
end Go.Am
namespace Go.Am
noncomputable section
theorem pM {C : Cx} : ∀ (l : List TV) (vs : List Value), bj C l vs → vs.length = l.length
  | [], _, h => by rw [h]; rfl
  | x :: l, _, ⟨v, r, e, _, h⟩ => by rw [e, List.length_cons, List.length_cons, pM l r h]
theorem om {C : Cx} : ∀ (l m : List TV) (vs ws : List Value), bj C l vs → bj C m ws → bj C (l ++ m) (vs ++ ws)
  | [], m, _, ws, h, k => by rw [h]; exact k
  | x :: l, m, _, ws, ⟨v, r, e, h1, h2⟩, k => ⟨v, r ++ ws, by rw [e]; rfl, h1, om l m r ws h2 k⟩
theorem O3 {P : Program} {K : Ctx} {st : St} {a : Act} {mu : Nat → Option Nat} {R : Nat → Prop} {w : World} (hS : Sim K st a mu R w) {f : ResultVar → Sem Value} (hf1 : ∀ t, f (.tmp t) = pure (a.tmps.getD t undef)) (hf2 : ∀ t T, f (.cell t T) = do loadVar T (← asAddr (a.tmps.getD t undef)))
    {r : ResultVar} {x : TV} (h : (Lw P st r).to x) : ∃ v, (f r).run P w = .ok v w ∧ av (cx st.us st.ob mu R w) x v := by
  cases r with
  | tmp t =>
    cases Tr.to_ret h
    exact ⟨_, by rw [hf1]; exact Sem.run_pure .., hS.eval (.tmp t)⟩
  | cell t T =>
    obtain ⟨e, h1, h2⟩ := Tr.to_bind h
    cases Tr.to_ret h2
    obtain ⟨_, _, v, k1, k2⟩ := oD (P := P) (C := cx st.us st.ob mu R w) st.ob rfl hS.mem T _ _ e h1 (hS.eval (.tmp t))
    refine ⟨v, ?_, k2⟩
    rw [hf2]
    have hx := hS.eval (.tmp t)
    have k1 : (Instr.loadAt T (a.tmps.getD t undef)).run P w = .ok v w := k1
    have hx : av (cx st.us st.ob mu R w) (zl st.tm t) (a.tmps.getD t undef) := hx
    generalize a.tmps.getD t undef = vx at *
    generalize zl st.tm t = y at *
    have hp : ∃ ad, vx = .pointer (some ad) := by
      unfold tJ at h1
      simp only at h1
      split at h1
      · obtain ⟨ad, ev, _⟩ := hx
        simp only [List.cons.injEq, and_true] at ev
        exact ⟨ad, ev⟩
      · obtain ⟨b, off, cs, ev, _⟩ := hx
        simp only [List.cons.injEq, and_true] at ev
        exact ⟨_, ev⟩
      · exact (Tr.to_fail h1).elim
    obtain ⟨ad, rfl⟩ := hp
    exact k1
theorem GK {P : Program} {C : Cx} {st : St} {w : World} {f : ResultVar → Sem Value} (hf : ∀ r x, (Lw P st r).to x → ∃ v, (f r).run P w = .ok v w ∧ av C x v) : ∀ (l : List ResultVar) (xs : List TV), (S6 P st l).to xs → ∃ vs, (l.mapM f).run P w = .ok vs w ∧ bj C xs vs
  | [], xs, h => by
    cases Tr.to_ret h
    exact ⟨[], Sem.run_pure .., rfl⟩
  | r :: l, xs, h => by
    obtain ⟨x, h1, h2⟩ := Tr.to_bind h
    obtain ⟨ys, h3, h4⟩ := Tr.to_bind h2
    cases Tr.to_ret h4
    obtain ⟨v, k1, k2⟩ := hf r x h1
    obtain ⟨vs, g1, g2⟩ := GK hf l ys h3
    refine ⟨v :: vs, ?_, v, vs, rfl, k2, g2⟩
    rw [List.mapM_cons, Sem.run_bind, k1, Result.andThen_ok, Sem.run_bind, g1, Result.andThen_ok]
    exact Sem.run_pure ..
def VZ (tmps : Array Value) : ResultVar → Sem Value
  | .tmp t => pure (tmps.getD t undef)
  | .cell a t => do loadVar t (← asAddr (tmps.getD a undef))
theorem Ep {P : Program} {K : Ctx} {st : St} {a : Act} {mu : Nat → Option Nat} {R : Nat → Prop} {w : World} (hS : Sim K st a mu R w) {fn : Func} {x : TV} (h : (oi P fn st).to x) : ∃ v, (results fn a.tmps).run P w = .ok v w ∧ av (cx st.us st.ob mu R w) x v := by
  unfold oi at h
  obtain ⟨xs, h1, h2⟩ := Tr.to_bind h
  cases Tr.to_ret h2
  rw [show results fn a.tmps = (do let vs ← fn.results.mapM (VZ a.tmps); pure (if h : vs.size = 1 then vs[0] else .tuple vs)) from rfl]
  rw [Sem.run_bind, Array.mapM_eq_mapM_toList, map_eq_pure_bind, Sem.run_bind]
  obtain ⟨vs, k1, k2⟩ := GK (f := VZ a.tmps) (fun r x hr => O3 hS (fun t => rfl) (fun t T => rfl) hr) fn.results.toList xs h1
  rw [k1, Result.andThen_ok]
  have e : (Pure.pure vs.toArray : Sem (Array Value)).run P w = .ok vs.toArray w := Sem.run_pure ..
  have hlen := pM _ _ k2
  refine ⟨if h : vs.toArray.size = 1 then vs.toArray[0] else .tuple vs.toArray, ?_, ?_⟩
  · show ((Pure.pure vs.toArray : Sem (Array Value)).run P w).andThen _ = _
    rw [e, Result.andThen_ok]
    exact Sem.run_pure ..
  · match xs, k2 with
    | [y], k2 =>
      obtain ⟨v, r, e, g1, g2⟩ := k2
      have hr : r = [] := g2
      subst hr
      subst e
      exact g1
    | [], k2 =>
      have : vs = [] := k2
      subst this
      exact ⟨[], rfl, rfl⟩
    | y :: z :: l, k2 =>
      have hsz : ¬ vs.toArray.size = 1 := by
        have := hlen
        simp only [List.length_cons] at this
        show ¬ vs.length = 1
        omega
      rw [dif_neg hsz]
      exact ⟨vs, rfl, k2⟩
theorem Wb {E : Env} (hE : EnvOK E) {f : FuncId} {fn : Func} {c : Code} (hf : E.P.funcs[f]? = some fn) (hb : fn.body = some c) (hname : (fn.name == "runtime.NumGoroutine") = false) {pk r : Pk} (hC : gM E fn.ntmps (aE (dt pk.roots)) c) (hlt : pk.roots.length ≤ fn.ntmps)
    (h : (Mr E fn pk).to r) : CallOK E.P f pk r := by
  refine ⟨⟨fn, hf, by rw [hb]; rfl, hname⟩, fun w mu R vs hM hv => ?_⟩
  refine calls_of_wp hf hb ?_
  unfold Mr at h
  rw [hb] at h
  simp only at h
  cases hok : V0 pk.roots pk with
  | false => rw [hok] at h; exact (Tr.to_fail h).elim
  | true =>
    rw [hok] at h
    simp only [Bool.not_true, cond_false] at h
    obtain ⟨⟨ex, s⟩, h1, h2⟩ := Tr.to_bind h
    have hvl := pM _ _ hv
    let K : Ctx := ⟨ownB pk mu, R, w, aE (dt pk.roots), pk.fd, mu⟩
    have hcx : cx (List.range pk.obs.length) (iN pk) mu R w = cB pk mu R w := by
      unfold cx cB
      rw [show aL (iN pk) = pk.fd from funext fun i => fe pk i, show (fun i => i ∈ List.range pk.obs.length) = (fun i => i < pk.obs.length) from funext fun i => propext (by simp)]
    have hS : Sim K ⟨pk.roots ++ List.replicate (fn.ntmps - pk.roots.length) gk, iN pk, List.range pk.obs.length⟩ { tmps := vs.toArray ++ Array.replicate (fn.ntmps - vs.toArray.size) undef, defers := [] } mu R w := by
      refine ⟨by rw [hcx]; exact hM, by simp [hvl], fun i x hx => ?_, rfl, fun i hi => ?_⟩
      · rw [hcx]
        have hall : bj (cB pk mu R w) (pk.roots ++ List.replicate (fn.ntmps - pk.roots.length) gk) (vs ++ List.replicate (fn.ntmps - pk.roots.length) undef) := by
          refine om _ _ _ _ hv ?_
          generalize fn.ntmps - pk.roots.length = m
          induction m with
          | zero => rfl
          | succ m ih => exact ⟨undef, _, rfl, rfl, ih⟩
        obtain ⟨v, g1, g2⟩ := pN _ _ i x hall hx
        have : (vs.toArray ++ Array.replicate (fn.ntmps - vs.toArray.size) undef).getD i undef = v := by
          have hsz : (vs.toArray ++ Array.replicate (fn.ntmps - vs.toArray.size) undef) = (vs ++ List.replicate (fn.ntmps - pk.roots.length) undef).toArray := by
            apply Array.ext'
            simp [hvl]
          rw [hsz]
          simp only [Array.getD_eq_getD_getElem?, List.getElem?_toArray, g1, Option.getD_some]
        show av _ x ((vs.toArray ++ Array.replicate (fn.ntmps - vs.toArray.size) undef).getD i undef)
        rw [this]
        exact g2
      · have hu := oo _ _ hv i (li _ i hi)
        exact ⟨List.mem_range.2 hu, fun o' ho' => ⟨o', (fe pk i).symm.trans ho', rfl, Ob.like.refl _⟩⟩
    refine qb hE (args := dt pk.roots) hC c 1 _ ex s _ mu R w _ .root h1 (by simp; omega) rfl hS fun a' mu' R' w' hS' => ?_
    have fin : ∀ x, (oi E.P fn s).to x → ((xK (dt pk.roots) [x] fun ren pk' => .done (bif fixed ren (aE (dt pk.roots)) then .ret pk' else .fail)).run s.ob).to r →
        a'.defers = [] ∧ ∃ v, (results fn a'.tmps).run E.P w' = .ok v w' ∧ ∃ v' mu' R', Ending.returned v = .returned v' ∧ Mem (ownB pk mu) R w (cB r mu' R' w') ∧ av (cB r mu' R' w') (r.roots.headD .dead) v' ∧
      ∀ i ∈ aE (dt pk.roots), ∀ o', r.fd i = some o' → ∃ o, pk.fd i = some o ∧ mu' i = mu i ∧ o.like o' := by
      intro x hx hr
      obtain ⟨v, hv1, hv2⟩ := Ep (P := E.P) hS' hx
      refine ⟨hS'.df, v, hv1, ?_⟩
      -- the result stands in a slot of its own
      have hS2 : Sim K ⟨s.tm ++ [x], s.ob, s.us⟩ { tmps := a'.tmps.push v, defers := [] } mu' R' w' := by
        refine ⟨hS'.mem, by simp [hS'.len], fun i y hy => ?_, rfl, hS'.pin⟩
        have hl := hS'.len
        by_cases hi : i < s.tm.length
        · rw [List.getElem?_append_left hi] at hy
          have := hS'.slots i y hy
          show av _ y ((a'.tmps.push v).getD i undef)
          have e : (a'.tmps.push v).getD i undef = a'.tmps.getD i undef := by
            simp [Array.getD_eq_getD_getElem?, Array.getElem?_push, show ¬ i = a'.tmps.size by omega]
          rw [e]; exact this
        · have hi2 : i = s.tm.length := by
            have := (List.getElem?_eq_some_iff.1 hy).1
            simp at this; omega
          subst hi2
          simp at hy
          subst hy
          show av _ x ((a'.tmps.push v).getD s.tm.length undef)
          have e : (a'.tmps.push v).getD s.tm.length undef = v := by
            rw [← hl]; simp [Array.getD_eq_getD_getElem?]
          rw [e]; exact hv2
      have hout : (wE (dt pk.roots) [s.tm.length] ⟨s.tm ++ [x], s.ob, s.us⟩ fun pk' => .ret pk').to r := by
        unfold wE
        simp only [List.map_cons, List.map_nil]
        rw [fG, show (s.tm ++ [x]).getD s.tm.length .dead = x by simp [List.getD]]
        exact hr
      obtain ⟨pk', mu2, k1, k2⟩ := iK hS2 rfl hout
      cases Tr.to_ret k1
      have hcx2 : cx (List.range r.obs.length) (iN r) mu2 R' w' = cB r mu2 R' w' := by
        unfold cx cB
        rw [show aL (iN r) = r.fd from funext fun i => fe r i, show (fun i => i ∈ List.range r.obs.length) = (fun i => i < r.obs.length) from funext fun i => propext (by simp)]
      refine ⟨v, mu2, R', rfl, ?_, ?_, fun i hi o' ho' => ?_⟩
      · rw [← hcx2]; exact k2.mem
      · have hs := k2.slots s.tm.length (r.roots.headD .dead) (by
          rw [zj]
          simp only [List.length_append, List.length_cons, List.length_nil]
          cases r.roots with
          | nil => simp
          | cons y l => simp)
        have hs : av (cx (List.range r.obs.length) (iN r) mu2 R' w') (r.roots.headD .dead) ((a'.tmps.push v).getD s.tm.length undef) := hs
        rw [hcx2] at hs
        rw [show (a'.tmps.push v).getD s.tm.length undef = v by rw [← hS'.len]; simp [Array.getD_eq_getD_getElem?]] at hs
        exact hs
      · obtain ⟨o, g1, g2, g3⟩ := (k2.pin i hi).2 o' (by show aL (iN r) i = some o'; rw [fe]; exact ho')
        exact ⟨o, g1, g2, g3⟩
    cases ex with
    | exit i => exact (Tr.to_fail h2).elim
    | normal =>
      obtain ⟨x, hx, h3⟩ := Tr.to_bind h2
      exact fin x hx h3
    | ret =>
      obtain ⟨x, hx, h3⟩ := Tr.to_bind h2
      exact fin x hx h3
end
end Go.Am
namespace Go.Am
noncomputable section
def aO (P : Program) (f : FuncId) (T : Pk → Tr Pk) : Prop := ∀ pk r, (T pk).to r → CallOK P f pk r
def tell {α β : Type} (I : Pk → Option α) (F : α → Option β) (O : β → Tr Pk) (pk : Pk) : Tr Pk :=
  match I pk with
  | some x => .ask β (F x) O
  | none => .fail
def eV {α β : Type} (I : Pk → Option α) (F : α → Option β) (O : β → Tr (Ex × Pk)) (pk : Pk) : Tr (Ex × Pk) :=
  match I pk with
  | some x => .ask β (F x) O
  | none => .fail
def V2 : List (Nat × List Nat) → FuncId → List Nat
  | [], _ => []
  | (j, x) :: r, f => bif Nat.beq j f then x else V2 r f
def Xz {α : Type} (I : Pk → Option α) (T U : Pk → Tr Pk) (pk : Pk) : Tr Pk :=
  match I pk with
  | some _ => T pk
  | none => U pk
theorem LL {P : Program} {f : FuncId} {α : Type} {I : Pk → Option α} {T U : Pk → Tr Pk} (h1 : aO P f T) (h2 : aO P f U) : aO P f (Xz I T U) := by
  intro pk r h
  unfold Xz at h
  split at h
  · exact h1 pk r h
  · exact h2 pk r h
def look {γ : Type 1} : List (Nat × γ) → Nat → Option γ
  | [], _ => none
  | (j, x) :: r, i => bif Nat.beq j i then some x else look r i
def ES (tab : List (Nat × (Pk → Tr Pk))) (f : FuncId) (pk : Pk) : Tr Pk :=
  match look tab f with
  | some T => T pk
  | none => .fail
def wn (P : Program) (own : FuncId → List Nat) (tab : List (Nat × (Pk → Tr Pk))) (cuts : List (Nat × Cut)) : Env :=
  { P := P, call := ES tab, own := own, cut := look cuts }
def ai (P : Program) : List (Nat × (Pk → Tr Pk)) → Prop
  | [] => True
  | (f, T) :: r => aO P f T ∧ ai P r
theorem KN {P : Program} {f : FuncId} {pk r : Pk} : ∀ (tab : List (Nat × (Pk → Tr Pk))), ai P tab → (ES tab f pk).to r → CallOK P f pk r
  | [], _, hr => (Tr.to_fail hr).elim
  | (j, T) :: l, h, hr => by
    unfold ES at hr
    by_cases e : j = f
    · subst e
      simp only [look, cG, cond_true] at hr
      exact h.1 pk r hr
    · simp only [look, eE e, cond_false] at hr
      exact KN l h.2 hr
theorem jA {P : Program} {own : FuncId → List Nat} {tab : List (Nat × (Pk → Tr Pk))} {cuts : List (Nat × Cut)} (hm : P.follows .mixedOrders = true) (h : ai P tab) : EnvOK (wn P own tab cuts) :=
  ⟨fun f pk r hr => KN tab h hr, hm⟩
def lJ (P : Program) (n : Nat) (pins : List Nat) (root : Code) : List (Nat × Cut) → Prop
  | [] => True
  | (q, C) :: r => (∀ c, At root q c → kg P n pins c C) ∧ lJ P n pins root r
theorem xZ {P : Program} {n : Nat} {pins : List Nat} {root : Code} {q : Nat} {c : Code} {C : Cut} : ∀ (cuts : List (Nat × Cut)), lJ P n pins root cuts → At root q c → look cuts q = some C → kg P n pins c C
  | [], _, _, hC => by cases hC
  | (j, D) :: l, h, hat, hC => by
    by_cases e : j = q
    · subst e
      simp only [look, cG, cond_true, Option.some.injEq] at hC
      subst hC
      exact h.1 c hat
    · simp only [look, eE e, cond_false] at hC
      exact xZ l h.2 hat hC
theorem dj {P : Program} {own : FuncId → List Nat} {tab : List (Nat × (Pk → Tr Pk))} {n : Nat} {pins : List Nat} {root : Code} {cuts : List (Nat × Cut)} (h : lJ P n pins root cuts) : gM (wn P own tab cuts) n pins root :=
  fun _ _ _ hat hC => xZ cuts h hat hC
theorem OO {E : Env} (hE : EnvOK E) {f : FuncId} {fn : Func} {c : Code} (hf : E.P.funcs[f]? = some fn) (hb : fn.body = some c) (hname : (fn.name == "runtime.NumGoroutine") = false) {α β : Type} {I : Pk → Option α} {J : α → Pk} {F : α → Option β} {D : Pk → Option β} {O : β → Tr Pk}
    (hI : ∀ pk x, I pk = some x → pk = J x) (hD : ∀ y r, D y = some r → ∀ z, (O r).to z → y = z) {args : List TV} (hids : ∀ x, aE (dt (J x).roots) = aE args) (hlt : ∀ x, (J x).roots.length ≤ fn.ntmps) (hC : gM E fn.ntmps (aE args) c)
    (heq : ∀ x, (Mr E fn (J x)).run D = F x) : aO E.P f (tell I F O) := by
  intro pk r h
  unfold tell at h
  split at h
  · rename_i x hx
    obtain ⟨y, h1, h2⟩ := Tr.to_ask h
    rw [← heq x] at h1
    obtain ⟨z, h3, h4⟩ := Tr.to_run h1
    have := hD _ _ h4 _ h2
    subst this
    have := hI _ _ hx
    subst this
    exact Wb hE hf hb hname (by rw [hids]; exact hC) (hlt x) h3
  · exact (Tr.to_fail h).elim
def EF (E : Env) (fn : Func) (pk : Pk) : Tr Pk := bif Nat.ble pk.roots.length fn.ntmps then Mr E fn pk else .fail
theorem tO {E : Env} (hE : EnvOK E) {f : FuncId} {fn : Func} {c : Code} (hf : E.P.funcs[f]? = some fn) (hb : fn.body = some c) (hname : (fn.name == "runtime.NumGoroutine") = false) (hC : ∀ pins, gM E fn.ntmps pins c) : aO E.P f (EF E fn) := by
  intro pk r h
  unfold EF at h
  cases hl : Nat.ble pk.roots.length fn.ntmps with
  | false => rw [hl] at h; exact (Tr.to_fail h).elim
  | true =>
    rw [hl] at h
    exact Wb hE hf hb hname (hC _) (Nat.le_of_ble_eq_true hl) h
theorem Ph {E : Env} (hE : EnvOK E) {root c : Code} {n p : Nat} {args : List TV} (hC : gM E n (aE args) root) {fuel : Nat} (hp : Nat.blt p (2 ^ fuel) = true) (hc : codeOf root fuel p = some (.loop c)) {α β : Type} {I : Pk → Option α} {J : α → Pk} {D : Ex × Pk → Option β} {O : β → Tr (Ex × Pk)}
    (hI : ∀ pk x, I pk = some x → pk = J x) (hD : ∀ y r, D y = some r → ∀ z, (O r).to z → y = z) {live : List Nat} {out : Ex → List Nat} (B : (α → Option β) → α → Option β) (F : Nat → α → Option β) (h0 : ∀ x, F 0 x = none) (h1 : ∀ k x, F (k + 1) x = B (F k) x)
    (heq : ∀ f x, (jr E n args c p { live := live, out := out, orc := eV I f O } (J x)).run D = B f x) (k : Nat) :
    ∀ c', At root p c' → kg E.P n (aE args) c' { live := live, out := out, orc := eV I (F k) O } := by
  intro c' hat
  have hlt : p < 2 ^ fuel := Nat.blt_eq ▸ hp
  have hcc := hat.codeOf fuel hlt
  rw [hc] at hcc
  cases hcc
  refine LU hE hC hat (C := { live := live, out := out, orc := eV I (F k) O }) (fun k => eV I (F k) O) (fun pk r h => ?_) (fun k pk r h => ?_) k
  · unfold eV at h
    split at h
    · obtain ⟨y, g1, g2⟩ := Tr.to_ask h
      rw [h0] at g1; cases g1
    · exact Tr.to_fail h
  · unfold eV at h
    split at h
    · rename_i x hx
      obtain ⟨y, g1, g2⟩ := Tr.to_ask h
      rw [h1, ← heq] at g1
      obtain ⟨z, g3, g4⟩ := Tr.to_run g1
      have := hD _ _ g4 _ g2
      subst this
      have := hI _ _ hx
      subst this
      exact g3
    · exact (Tr.to_fail h).elim
def Ey {α γ : Type} (I : Pk → Option α) (g : α → Tr γ) (t : Pk → Tr γ) (pk : Pk) : Tr γ :=
  match I pk with
  | some x => g x
  | none => t pk
def EH {α β : Type} (G : Nat → α → Option β) (O : β → Tr (Ex × Pk)) : Nat → α → Tr (Ex × Pk)
  | 0, _ => .fail
  | k + 1, x => .ask β (G k x) O
theorem LS {E : Env} (hE : EnvOK E) {root c : Code} {n p : Nat} {args : List TV} (hC : gM E n (aE args) root) {fuel : Nat} (hp : Nat.blt p (2 ^ fuel) = true) (hc : codeOf root fuel p = some (.loop c)) {α α' β : Type} {I : Pk → Option α} {J : α → Pk} {I' : Pk → Option α'} {J' : α' → Pk}
    {D : Ex × Pk → Option β} {O : β → Tr (Ex × Pk)} (hI : ∀ pk x, I pk = some x → pk = J x) (hI' : ∀ pk x, I' pk = some x → pk = J' x) (hD : ∀ y r, D y = some r → ∀ z, (O r).to z → y = z) {live : List Nat} {out : Ex → List Nat}
    (B : (α' → Option β) → α → Option β) (B' : (α' → Option β) → α' → Option β) (F' : Nat → α' → Option β) (h0 : ∀ x, F' 0 x = none) (h1 : ∀ k x, F' (k + 1) x = B' (F' k) x)
    (heq : ∀ f g x, (jr E n args c p { live := live, out := out, orc := Ey I g (eV I' f O) } (J x)).run D = B f x)
    (heq' : ∀ f g x, (jr E n args c p { live := live, out := out, orc := Ey I g (eV I' f O) } (J' x)).run D = B' f x) (k : Nat) :
    ∀ c', At root p c' → kg E.P n (aE args) c' { live := live, out := out, orc := eV I (B (F' k)) O } := by
  intro c' hat
  have hlt : p < 2 ^ fuel := Nat.blt_eq ▸ hp
  have hcc := hat.codeOf fuel hlt
  rw [hc] at hcc
  cases hcc
  have key := LU hE hC hat (C := { live := live, out := out, orc := eV I (B (F' k)) O }) (fun k => Ey I (EH (fun k => B (F' k)) O k) (eV I' (F' k) O)) (fun pk r h => ?_) (fun k pk r h => ?_) (k + 1)
  · intro pk ex pk' h
    refine key pk ex pk' ?_
    unfold eV at h
    simp only at h
    unfold Ey
    simp only
    cases hx : I pk with
    | none => rw [hx] at h; exact (Tr.to_fail h).elim
    | some x => rw [hx] at h; exact h
  · unfold Ey at h
    split at h
    · exact Tr.to_fail h
    · unfold eV at h
      split at h
      · obtain ⟨y, g1, g2⟩ := Tr.to_ask h
        rw [h0] at g1; cases g1
      · exact Tr.to_fail h
  · unfold Ey at h
    split at h
    · rename_i x hx
      obtain ⟨y, g1, g2⟩ := Tr.to_ask h
      simp only at g1
      rw [← heq _ (EH (fun k => B (F' k)) O k)] at g1
      obtain ⟨z, g3, g4⟩ := Tr.to_run g1
      have := hD _ _ g4 _ g2
      subst this
      have := hI _ _ hx
      subst this
      exact g3
    · unfold eV at h
      split at h
      · rename_i x hx
        obtain ⟨y, g1, g2⟩ := Tr.to_ask h
        rw [h1, ← heq' _ (EH (fun k => B (F' k)) O k)] at g1
        obtain ⟨z, g3, g4⟩ := Tr.to_run g1
        have := hD _ _ g4 _ g2
        subst this
        have := hI' _ _ hx
        subst this
        exact g3
      · exact (Tr.to_fail h).elim
def IX {α : Type} (I : Pk → Option α) (C D : Cut) : Cut :=
  ⟨C.live, C.out, fun pk => match I pk with
    | some _ => C.orc pk
    | none => D.orc pk⟩
theorem gu {P : Program} {n : Nat} {pins : List Nat} {c : Code} {α : Type} {I : Pk → Option α} {C D : Cut} (h1 : kg P n pins c C) (h2 : kg P n pins c D) (hl : C.live = D.live) (ho : C.out = D.out) : kg P n pins c (IX I C D) := by
  obtain ⟨l, o, f⟩ := C
  obtain ⟨l2, o2, g⟩ := D
  simp only at hl ho
  subst hl; subst ho
  intro pk ex pk' h
  unfold IX at h
  simp only at h
  split at h
  · exact h1 pk ex pk' h
  · exact h2 pk ex pk' h
def rv (fn : Func) : Code := match fn.body with
  | some c => c
  | none => .skip
def tF (root : Code) (p : Nat) : Code := match codeOf root 200 p with
  | some (.loop c) => c
  | _ => .skip
theorem ON {α β : Type} {I : Pk → Option α} {F : α → Option β} {O : β → Tr Pk} {pk r : Pk} {x : α} {y : β} (hI : I pk = some x) (hF : F x = some y) (hO : (O y).to r) : (tell I F O pk).to r := by
  unfold tell
  rw [hI]
  show (F x).bind (fun y => (O y).run some) = some r
  rw [hF]
  exact hO
theorem CallOK.law {P : Program} {f : FuncId} {roots : List TV} {r : Pk} (h : CallOK P f ⟨roots, []⟩ r) (hr : r.roots.headD .dead = .v (.bool true)) {w : World} {R : Nat → Prop} (hR : ∀ b, R b → b < w.heap.size) {vs : List Value}
    (hv : bj ⟨fun _ => False, fun _ => none, fun _ => none, R, w⟩ roots vs) : Calls P f vs.toArray w fun e w' => e = .returned (.bool true) ∧ RowKit.Below w.heap.size w w' := by
  have hcx : cB ⟨roots, []⟩ (fun _ => none) R w = ⟨fun _ => False, fun _ => none, fun _ => none, R, w⟩ := by
    unfold cB
    rw [show (fun i => i < (⟨roots, []⟩ : Pk).obs.length) = fun _ => False from funext fun i => propext (by simp)]
    rfl
  have hM : Mem (ownB ⟨roots, []⟩ fun _ => none) R w (cB ⟨roots, []⟩ (fun _ => none) R w) := by
    rw [hcx]
    exact ⟨fun _ h => (by cases h), Fr.refl _ _, fun _ _ h => (by cases h), fun _ _ _ h => (by cases h), fun _ _ h => (by cases h), fun _ _ h => (by cases h), fun _ _ h => (by cases h), fun b hb => .inl hb, fun b hb => hb, hR⟩
  refine (h.runs w (fun _ => none) R vs hM (by rw [hcx]; exact hv)).mono fun e w' ⟨v, mu', R', he, hM', hv', _⟩ => ?_
  rw [hr] at hv'
  have hv' : v = .bool true := hv'
  subst hv'
  have hfr := hM'.fr
  exact ⟨he, hfr.os, hfr.tape, hfr.output, hfr.size, fun k hk => hfr.block k hk fun ⟨i, h1, h2⟩ => by cases h2⟩
end
end Go.Am
namespace Go.Am
noncomputable section
abbrev V6 (T : Type) : List T := []
def Fo (post : Pk → Tr Pk) : Prop := ∀ (P : Program) (f : FuncId) (pk r r' : Pk), aE (dt pk.roots) = [] → CallOK P f pk r → (post r).to r' → CallOK P f pk r'
def isNil {α : Type} : List α → Bool
  | [] => true
  | _ :: _ => false
def tn (post : Pk → Tr Pk) (T : Pk → Tr Pk) (pk : Pk) : Tr Pk := bif isNil (aE (dt pk.roots)) then (T pk).bind post else .fail
theorem kI {P : Program} {f : FuncId} {post T : Pk → Tr Pk} (hp : Fo post) (h : aO P f T) : aO P f (tn post T) := by
  intro pk r hr
  unfold tn at hr
  cases hn : aE (dt pk.roots) with
  | nil =>
    rw [hn] at hr
    obtain ⟨q, h1, h2⟩ := Tr.to_bind (show ((T pk).bind post).to r from hr)
    exact hp P f pk q r hn (h pk q h1) h2
  | cons x l =>
    rw [hn] at hr
    exact (Tr.to_fail hr).elim
def Mn (obs : List (Nat × Ob)) : TV → Option (TV × List Nat)
  | .sl i p => match aL obs i with
    | some (.row t _ xs) => some (.ro t (dn xs p), [i])
    | _ => none
  | .v x => some (.v x, [])
  | .ro t xs => some (.ro t xs, [])
  | _ => none
def Mm (obs : List (Nat × Ob)) : List TV → Option (List TV × List Nat)
  | [] => some ([], [])
  | x :: l => match Mn obs x, Mm obs l with
    | some (y, a), some (m, b) => bif meets a b then none else some (y :: m, a ++ b)
    | _, _ => none
def zv (l : List (Option Ob)) (is : List Nat) : List (Option Ob) := l.zipIdx.map fun (o, i) => bif has is i then none else o
def Ml (r : Pk) : Tr Pk :=
  match r.roots with
  | [.tup l] => match Mm (iN r) l with
    | some (m, is) => .ret ⟨[.tup m], zv r.obs is⟩
    | none => .fail
  | [x] => match Mn (iN r) x with
    | some (y, is) => .ret ⟨[y], zv r.obs is⟩
    | none => .fail
  | _ => .fail
def kZ (ob : List (Nat × Ob)) (is : List Nat) : List (Nat × Ob) := bm ob (is.map fun i => (i, none))
theorem G8 {ob : List (Nat × Ob)} {x y : TV} {is : List Nat} (h : Mn ob x = some (y, is)) {K : Ctx} {us : List Nat} {ob1 : List (Nat × Ob)} {mu : Nat → Option Nat} {R : Nat → Prop} {w : World} {v : Value}
    (hob : ∀ q ∈ is, aL ob1 q = aL ob q) (hM : Mem K.O K.R0 K.w0 (cx us ob1 mu R w)) (hv : av (cx us ob1 mu R w) x v) :
    ∃ R', Ext (cx us ob1 mu R w) (cx us (kZ ob1 is) mu R' w) ∧ Mem K.O K.R0 K.w0 (cx us (kZ ob1 is) mu R' w) ∧ av (cx us (kZ ob1 is) mu R' w) y v := by
  unfold Mn at h
  split at h
  · rename_i i p
    split at h
    · rename_i t e xs ho
      cases h
      exact xV p ho K us ob1 mu R w [v] (fun q hq => by simp [ids] at hq; subst hq; exact hob _ (List.mem_singleton_self _)) hM hv
    · cases h
  · cases h
    exact ⟨R, Ext.refl _, hM, hv⟩
  · cases h
    exact ⟨R, Ext.refl _, hM, hv⟩
  · cases h
theorem CM (ob : List (Nat × Ob)) (a b : List Nat) : kZ ob (a ++ b) = kZ (kZ ob a) b := by
  unfold kZ; rw [List.map_append, dC]
theorem Pp {ob : List (Nat × Ob)} : ∀ {l m : List TV} {is : List Nat}, Mm ob l = some (m, is) → ∀ {K : Ctx} {us : List Nat} {ob1 : List (Nat × Ob)} {mu : Nat → Option Nat} {R : Nat → Prop} {w : World} {vs : List Value},
    (∀ q ∈ is, aL ob1 q = aL ob q) → Mem K.O K.R0 K.w0 (cx us ob1 mu R w) → bj (cx us ob1 mu R w) l vs →
    ∃ R', Ext (cx us ob1 mu R w) (cx us (kZ ob1 is) mu R' w) ∧ Mem K.O K.R0 K.w0 (cx us (kZ ob1 is) mu R' w) ∧ bj (cx us (kZ ob1 is) mu R' w) m vs := by
  intro l
  induction l with
  | nil =>
    intro m is h K us ob1 mu R w vs _ hM hv
    cases h
    exact ⟨R, Ext.refl _, hM, hv⟩
  | cons x l ih =>
    intro m is h K us ob1 mu R w vs hob hM hv
    simp only [Mm] at h
    cases h1 : Mn ob x with
    | none => rw [h1] at h; cases h
    | some p =>
      cases h2 : Mm ob l with
      | none => rw [h1, h2] at h; cases h
      | some q =>
        obtain ⟨y, a⟩ := p
        obtain ⟨n, b⟩ := q
        rw [h1, h2] at h
        simp only at h
        cases hm : meets a b with
        | true => rw [hm] at h; cases h
        | false =>
          rw [hm] at h
          cases h
          obtain ⟨v, r, e, hx, hl⟩ := hv
          obtain ⟨R1, hE1, hM1, hy⟩ := G8 h1 (fun q hq => hob q (List.mem_append_left _ hq)) hM hx
          obtain ⟨R2, hE2, hM2, hl2⟩ := ih h2 (ob1 := kZ ob1 a) (fun q hq => by
            rw [kZ, fI, if_neg ?_]
            · exact hob q (List.mem_append_right _ hq)
            · intro ha
              unfold meets at hm
              rw [List.any_eq_false] at hm
              have := hm q ha
              simp only [Bool.not_eq_true, List.any_eq_false] at this
              have := this q hq
              rw [Nat.beq_refl] at this
              cases this) hM1 (ju hE1 l r hl)
          rw [CM]
          exact ⟨R2, hE1.trans hE2, hM2, v, r, e, br hE2 y v hy, hl2⟩
theorem Hb (r : Pk) (is : List Nat) (x : List TV) (i : Nat) : (⟨x, zv r.obs is⟩ : Pk).fd i = if i ∈ is then none else r.fd i := by
  unfold Pk.fd zv
  simp only [List.getElem?_map, List.getElem?_zipIdx]
  cases h : r.obs[i]? with
  | none => simp
  | some o =>
    by_cases hi : i ∈ is
    · simp [(co is i).2 hi, hi]
    · have : has is i = false := by
        cases hh : has is i with
        | false => rfl
        | true => exact absurd ((co is i).1 hh) hi
      simp [this, hi]
theorem O4 (r : Pk) (mu : Nat → Option Nat) (R : Nat → Prop) (w : World) : cB r mu R w = cx (List.range r.obs.length) (iN r) mu R w := by
  unfold cB cx
  rw [show aL (iN r) = r.fd from funext fun i => fe r i, show (fun i => i ∈ List.range r.obs.length) = (fun i => i < r.obs.length) from funext fun i => propext (by simp)]
theorem Cb (r : Pk) (is : List Nat) (x : List TV) (mu : Nat → Option Nat) (R : Nat → Prop) (w : World) : cB ⟨x, zv r.obs is⟩ mu R w = cx (List.range r.obs.length) (kZ (iN r) is) mu R w := by
  unfold cB cx
  have h1 : (⟨x, zv r.obs is⟩ : Pk).fd = aL (kZ (iN r) is) := funext fun i => by
    rw [Hb, kZ, fI, fe]
  rw [h1, show (fun i => i ∈ List.range r.obs.length) = (fun i => i < (zv r.obs is).length) from funext fun i => propext (by simp [zv])]
theorem zn : Fo Ml := by
  intro P f pk r r' hpin hC h
  refine ⟨hC.enters, fun w mu R vs hM hv => (hC.runs w mu R vs hM hv).mono fun e w' he => ?_⟩
  obtain ⟨v, mu', R', he, hM', hv', hp⟩ := he
  rw [O4] at hM' hv'
  unfold Ml at h
  have key : ∀ (m : List TV) (is : List Nat) (R2 : Nat → Prop), Mem (ownB pk mu) R w (cx (List.range r.obs.length) (kZ (iN r) is) mu' R2 w') → av (cx (List.range r.obs.length) (kZ (iN r) is) mu' R2 w') (m.headD .dead) v → r' = ⟨m, zv r.obs is⟩ →
      ∃ v mu' R', e = .returned v ∧ Mem (ownB pk mu) R w (cB r' mu' R' w') ∧ av (cB r' mu' R' w') (r'.roots.headD .dead) v ∧
      ∀ i ∈ aE (dt pk.roots), ∀ o', r'.fd i = some o' → ∃ o, pk.fd i = some o ∧ mu' i = mu i ∧ o.like o' := by
    intro m is R2 k1 k2 k3
    subst k3
    refine ⟨v, mu', R2, he, by rw [Cb]; exact k1, by rw [Cb]; exact k2, fun i hi o' ho' => hp i hi o' ?_⟩
    rw [Hb] at ho'
    split at ho'
    · cases ho'
    · exact ho'
  split at h
  · rename_i l hroots
    split at h
    · rename_i m is hf
      cases Tr.to_ret h
      rw [hroots] at hv'
      obtain ⟨us, ev, hl⟩ := hv'
      obtain ⟨R2, hE2, hM2, hl2⟩ := Pp hf (K := ⟨ownB pk mu, R, w, [], fun _ => none, fun _ => none⟩) (fun _ _ => rfl) hM' hl
      exact key [.tup m] is R2 hM2 ⟨us, ev, hl2⟩ rfl
    · exact (Tr.to_fail h).elim
  · rename_i x hroots
    split at h
    · rename_i y is hf
      cases Tr.to_ret h
      rw [hroots] at hv'
      obtain ⟨R2, hE2, hM2, hl2⟩ := G8 hf (K := ⟨ownB pk mu, R, w, [], fun _ => none, fun _ => none⟩) (fun _ _ => rfl) hM' hv'
      exact key [y] is R2 hM2 hl2 rfl
    · exact (Tr.to_fail h).elim
  · exact (Tr.to_fail h).elim
def GH (t : Ty) (e : TypeId) (r : Pk) : Tr Pk :=
  match r with
  | ⟨[.sl 0 (some (0, n))], [some (.row t' e' xs)]⟩ => .ret ⟨[.sl 0 none], [some (.row t' e' (xs.take n))]⟩
  | ⟨[.v (.slice none 0 0)], []⟩ => .ret ⟨[.sl 0 none], [some (.row t e [])]⟩
  | ⟨[.sl 0 none], [some (.row t' e' xs)]⟩ => .ret ⟨[.sl 0 none], [some (.row t' e' xs)]⟩
  | _ => .fail
theorem EI (x : List TV) (o : Ob) (i : Nat) : (⟨x, [some o]⟩ : Pk).fd i = if i = 0 then some o else none := by
  unfold Pk.fd
  match i with
  | 0 => rfl
  | i + 1 => rfl
theorem GQ {O R0 : Nat → Prop} {w0 w : World} {x y : List TV} {o o' : Ob} {mu mu' : Nat → Option Nat} {R : Nat → Prop} (hM : Mem O R0 w0 (cB ⟨x, [some o]⟩ mu R w)) (hm : mu' 0 = none ∨ mu' 0 = mu 0) (ho : mF (cB ⟨y, [some o']⟩ mu' R w) 0 o') :
    Mem O R0 w0 (cB ⟨y, [some o']⟩ mu' R w) := by
  have f0 : ∀ i, ((cB ⟨y, [some o']⟩ mu' R w).fd i).isSome = true → i = 0 := fun i hi => by
    refine Classical.byContradiction fun hn => ?_
    have : (cB ⟨y, [some o']⟩ mu' R w).fd i = none := by
      show (⟨y, [some o']⟩ : Pk).fd i = none
      rw [EI, if_neg hn]
    rw [this] at hi; cases hi
  have g0 : ((cB ⟨x, [some o]⟩ mu R w).fd 0).isSome = true := rfl
  have m0 : ∀ b, mu' 0 = some b → mu 0 = some b := fun b hb => by
    rcases hm with h | h
    · rw [h] at hb; cases hb
    · rw [← h]; exact hb
  refine ⟨fun i hi => ?_, hM.fr, fun i ob hi => ?_, fun i j b hi hj _ _ => ?_, fun i b hi hb => ?_, fun i b hi hb => ?_, fun i b hi hb => ?_, hM.ro, hM.ro0, hM.rlt⟩
  · rw [f0 i hi]; exact Nat.zero_lt_one
  · have := f0 i (by rw [hi]; rfl)
    subst this
    have e : (⟨y, [some o']⟩ : Pk).fd 0 = some ob := hi
    rw [EI, if_pos rfl] at e
    cases e
    exact ho
  · rw [f0 i hi, f0 j hj]
  · have := f0 i hi; subst this; exact hM.notR 0 b g0 (m0 b hb)
  · have := f0 i hi; subst this; exact hM.own 0 b g0 (m0 b hb)
  · have := f0 i hi; subst this; exact hM.lt 0 b g0 (m0 b hb)
theorem Bv (t : Ty) (e : TypeId) : Fo (GH t e) := by
  intro P f pk r r' hpin hC h
  refine ⟨hC.enters, fun w mu R vs hM hv => (hC.runs w mu R vs hM hv).mono fun ex w' he => ?_⟩
  obtain ⟨v, mu', R', he, hM', hv', hp⟩ := he
  unfold GH at h
  split at h
  · rename_i n t' e' xs
    cases Tr.to_ret h
    have h0 : (cB ⟨[.sl 0 (some (0, n))], [some (.row t' e' xs)]⟩ mu' R' w').fd 0 = some (.row t' e' xs) := rfl
    obtain ⟨a, m, c, ev, hu, hpp⟩ := hv'
    simp only [List.cons.injEq, and_true] at ev
    subst ev
    obtain ⟨t2, e2, xs2, heq, hs⟩ := hpp _ h0
    cases heq
    obtain ⟨hle, a', c', h1, h2, h3⟩ := hs
    cases h1
    have hO := hM'.obs 0 _ h0
    have hlen : (xs.take n).length = n := by rw [List.length_take]; omega
    by_cases hc : c = 0
    · subst hc
      have hn : n = 0 := by omega
      subst hn
      refine ⟨_, fun _ => none, R', he, GQ hM' (.inl rfl) (.inl ⟨rfl, rfl⟩), ⟨a, 0, 0, rfl, hu, fun ob hob => ?_⟩, fun i hi => by rw [hpin] at hi; cases hi⟩
      cases (show some (Ob.row t' e' (xs.take 0)) = some ob from hob)
      exact ⟨t', e', _, rfl, .inl ⟨rfl, rfl, a, rfl⟩⟩
    · rcases h3 with h3 | ⟨b, k1, k2, k3⟩
      · exact absurd h3 hc
      · rcases hO with ⟨g1, g2⟩ | ⟨b', vs', g1, g2, g3, g4, g5⟩
        · rw [k1] at g1; cases g1
        · rw [k1] at g1; cases g1
          obtain ⟨p, q, s, e1, e2, e3⟩ := iH (fun x vs hx => aK t' x vs hx) g2 0 n (by omega)
          have hp0 : p = [] := List.eq_nil_of_length_eq_zero (by omega)
          subst hp0
          subst e1
          rw [List.drop_zero] at e3
          have hq : w'.rangeAt b 0 q := by
            have g3' : w'.rangeAt b 0 ([] ++ q ++ s) := g3
            have := be g3'
            simpa using this
          refine ⟨_, mu', R', he, GQ hM' (.inr rfl) (.inr ⟨b, q, k1, e3, hq, kp g4 (by simp), g5⟩), ⟨_, _, c, rfl, hu, fun ob hob => ?_⟩, fun i hi => by rw [hpin] at hi; cases hi⟩
          cases (show some (Ob.row t' e' (xs.take n)) = some ob from hob)
          refine ⟨t', e', _, rfl, .inr ⟨b, c, k1, ?_, by rw [hlen]; exact h2, by rw [Nat.zero_add] at k3; exact k3⟩⟩
          rw [hlen, k2, Nat.zero_mul]
  · cases Tr.to_ret h
    refine ⟨v, fun _ => none, R', he, ?_, ?_, fun i hi => by rw [hpin] at hi; cases hi⟩
    · have f0 : ∀ i ob, (cB ⟨[.sl 0 none], [some (.row t e [])]⟩ (fun _ => none) R' w').fd i = some ob → i = 0 ∧ ob = .row t e [] := fun i ob hi => by
        have hi : (⟨[.sl 0 none], [some (.row t e [])]⟩ : Pk).fd i = some ob := hi
        rw [EI] at hi
        split at hi
        · rename_i h; cases hi; exact ⟨h, rfl⟩
        · cases hi
      refine ⟨fun i hi => ?_, hM'.fr, fun i ob hi => ?_, fun i j b hi hj h1 _ => (by cases h1), fun i b _ hb => (by cases hb), fun i b _ hb => (by cases hb), fun i b _ hb => (by cases hb), hM'.ro, hM'.ro0, hM'.rlt⟩
      · obtain ⟨ob, ho⟩ := Option.isSome_iff_exists.1 hi
        rw [(f0 i ob ho).1]; exact Nat.zero_lt_one
      · obtain ⟨rfl, rfl⟩ := f0 i ob hi
        exact .inl ⟨rfl, rfl⟩
    · cases (show v = _ from hv')
      refine ⟨none, 0, 0, rfl, Nat.zero_lt_one, fun ob hob => ?_⟩
      cases (show some (Ob.row t e []) = some ob from hob)
      exact ⟨t, e, [], rfl, .inl ⟨rfl, rfl, none, rfl⟩⟩
  · cases Tr.to_ret h
    exact ⟨v, mu', R', he, hM', hv', hp⟩
  · exact (Tr.to_fail h).elim
theorem HV {P : Program} {f : FuncId} {α β : Type} {I : Pk → Option α} {F : α → Option β} {O : β → Tr Pk} (h : ∀ x, F x = none) : aO P f (tell I F O) := by
  intro pk r hr
  unfold tell at hr
  split at hr
  · obtain ⟨y, h1, _⟩ := Tr.to_ask hr
    rw [h] at h1; cases h1
  · exact (Tr.to_fail hr).elim
end
end Go.Am
namespace Go.Am
noncomputable section
inductive LT where
  | one (t : Ty) | row (t : Ty) | nat | mp (k v : Ty)
@[reducible] def LT.den : LT → Type
  | .one t => t.den
  | .row t => List t.den
  | .nat => Nat
  | .mp k v => List (k.den × v.den)
@[reducible] def HL : List LT → Type
  | [] => Unit
  | a :: l => a.den × HL l
@[reducible] def HT : List LT → Type
  | [] => Unit
  | [a] => a.den
  | a :: b :: l => a.den × HT (b :: l)
def Xy : (l : List LT) → HL l → HT l
  | [], _ => ()
  | [_], x => x.1
  | _ :: b :: l, x => (x.1, Xy (b :: l) x.2)
def tx : (l : List LT) → HT l → HL l
  | [], _ => ()
  | [_], x => (x, ())
  | _ :: b :: l, x => (x.1, tx (b :: l) x.2)
theorem GR : ∀ (l : List LT) (x : HL l), tx l (Xy l x) = x
  | [], _ => rfl
  | [_], _ => rfl
  | _ :: b :: l, x => by
    show (x.1, tx (b :: l) (Xy (b :: l) x.2)) = x
    rw [GR]
inductive NH where
  | c (n : Nat) | h
inductive SV where
  | int (k : IntKind) | bool | str | ro (t : Ty) | adr (i : Nat) (p : List Step) | sl (i : Nat) | slp (i : Nat) (a b : NH) | radr (t : Ty) (p : List Step) | radrl (t : Ty) (p : List Step)
  | agg (l : List SV) | tup (l : List SV) | arr (t : Ty) (n : Nat) | clo (g : Nat) (l : List SV) | mp (i : Nat) | dead | nilsl | nilp | fn (g : Nat)
inductive SO where
  | row (t : Ty) (e : TypeId) | var (s : SV) | map (k v : Ty) | non
structure SP where
  roots : List SV
  obs : List SO
@[reducible] def NH.lv : NH → List LT → List LT
  | .c _, r => r
  | .h, r => .nat :: r
mutual
@[reducible] def SV.lv : SV → List LT → List LT
  | .int k, r => .one (.int k) :: r
  | .bool, r => .one .bool :: r
  | .str, r => .one .str :: r
  | .ro t, r => .row t :: r
  | .slp _ a b, r => a.lv (b.lv r)
  | .radr t _, r => .one t :: r
  | .radrl t _, r => .row t :: r
  | .agg l, r => G4 l r
  | .tup l, r => G4 l r
  | .arr t _, r => .row t :: r
  | .clo _ l, r => G4 l r
  | .adr _ _, r => r
  | .sl _, r => r
  | .mp _, r => r
  | .dead, r => r
  | .nilsl, r => r
  | .nilp, r => r
  | .fn _, r => r
@[reducible] def G4 : List SV → List LT → List LT
  | [], r => r
  | s :: l, r => s.lv (G4 l r)
end
@[reducible] def SO.lv : SO → List LT → List LT
  | .row t _, r => .row t :: r
  | .var s, r => s.lv r
  | .map k v, r => .mp k v :: r
  | .non, r => r
@[reducible] def I1 : List SO → List LT → List LT
  | [], r => r
  | s :: l, r => s.lv (I1 l r)
@[reducible] def SP.lv (S : SP) : List LT := G4 S.roots (I1 S.obs [])
def NH.enc : (s : NH) → (r : List LT) → HL (s.lv r) → Nat × HL r
  | .c n, _, x => (n, x)
  | .h, _, x => (x.1, x.2)
mutual
def SV.enc : (s : SV) → (r : List LT) → HL (s.lv r) → TV × HL r
  | .int k, _, x => (.v (.int k x.1), x.2)
  | .bool, _, x => (.v (.bool x.1), x.2)
  | .str, _, x => (.v (.string x.1), x.2)
  | .ro t, _, x => (.ro t x.1, x.2)
  | .slp i a b, r, x => (.sl i (some ((a.enc (b.lv r) x).1, (b.enc r (a.enc (b.lv r) x).2).1)), (b.enc r (a.enc (b.lv r) x).2).2)
  | .radr t p, _, x => (.radr t [x.1] p, x.2)
  | .radrl t p, _, x => (.radr t x.1 p, x.2)
  | .agg l, r, x => (.agg (nk l r x).1, (nk l r x).2)
  | .tup l, r, x => (.tup (nk l r x).1, (nk l r x).2)
  | .arr t n, _, x => (.arr t n x.1, x.2)
  | .clo g l, r, x => (.clo g (nk l r x).1, (nk l r x).2)
  | .adr i p, _, x => (.adr i p, x)
  | .sl i, _, x => (.sl i none, x)
  | .mp i, _, x => (.mp i, x)
  | .dead, _, x => (.dead, x)
  | .nilsl, _, x => (.v (.slice none 0 0), x)
  | .nilp, _, x => (.v (.pointer none), x)
  | .fn g, _, x => (.v (.func (.func g) ⟨[]⟩ ⟨[]⟩), x)
def nk : (l : List SV) → (r : List LT) → HL (G4 l r) → List TV × HL r
  | [], _, x => ([], x)
  | s :: l, r, x => ((s.enc (G4 l r) x).1 :: (nk l r (s.enc (G4 l r) x).2).1, (nk l r (s.enc (G4 l r) x).2).2)
end
def SO.enc : (s : SO) → (r : List LT) → HL (s.lv r) → Option Ob × HL r
  | .row t e, _, x => (some (.row t e x.1), x.2)
  | .var s, r, x => (some (.var (s.enc r x).1), (s.enc r x).2)
  | .map k v, _, x => (some (.map k v x.1), x.2)
  | .non, _, x => (none, x)
def Jb : (l : List SO) → (r : List LT) → HL (I1 l r) → List (Option Ob) × HL r
  | [], _, x => ([], x)
  | s :: l, r, x => ((s.enc (I1 l r) x).1 :: (Jb l r (s.enc (I1 l r) x).2).1, (Jb l r (s.enc (I1 l r) x).2).2)
def SP.encH (S : SP) (x : HL S.lv) : Pk := ⟨(nk S.roots (I1 S.obs []) x).1, (Jb S.obs [] (nk S.roots (I1 S.obs []) x).2).1⟩
def SP.J (S : SP) (x : HT S.lv) : Pk := S.encH (tx S.lv x)
def NH.dec : (s : NH) → (r : List LT) → Nat → HL r → Option (HL (s.lv r))
  | .c n, _, m, x => bif Nat.beq n m then some x else none
  | .h, _, m, x => some (m, x)
def kB : IntKind → IntKind → Bool
  | .i8, .i8 => true
  | .i16, .i16 => true
  | .i32, .i32 => true
  | .i64, .i64 => true
  | .u8, .u8 => true
  | .u16, .u16 => true
  | .u32, .u32 => true
  | .u64, .u64 => true
  | _, _ => false
theorem Rj : ∀ {a b : IntKind}, kB a b = true → a = b := by
  intro a b h
  cases a <;> cases b <;> first | rfl | cases h
def HU : Ty → Ty → Bool
  | .int a, .int b => kB a b
  | .bool, .bool => true
  | .str, .str => true
  | .sl a, .sl b => HU a b
  | .unit, .unit => true
  | .cons a b, .cons c d => HU a c && HU b d
  | _, _ => false
theorem cT : ∀ {a b : Ty}, HU a b = true → a = b
  | .int _, .int _, h => by rw [Rj h]
  | .bool, .bool, _ => rfl
  | .str, .str, _ => rfl
  | .sl a, .sl b, h => by rw [cT (a := a) (b := b) h]
  | .unit, .unit, _ => rfl
  | .cons a b, .cons c d, h => by
    have h : (HU a c && HU b d) = true := h
    rw [Bool.and_eq_true] at h
    rw [cT h.1, cT h.2]
def XL : Step → Step → Bool
  | .f a b, .f c d => Nat.beq a c && Nat.beq b d
  | .i a b, .i c d => Nat.beq a c && Nat.beq b d
  | _, _ => false
theorem S3 : ∀ {a b : Step}, XL a b = true → a = b
  | .f a b, .f c d, h => by
    have h : (Nat.beq a c && Nat.beq b d) = true := h
    rw [Bool.and_eq_true] at h
    rw [Nat.eq_of_beq_eq_true h.1, Nat.eq_of_beq_eq_true h.2]
  | .i a b, .i c d, h => by
    have h : (Nat.beq a c && Nat.beq b d) = true := h
    rw [Bool.and_eq_true] at h
    rw [Nat.eq_of_beq_eq_true h.1, Nat.eq_of_beq_eq_true h.2]
def yK : List Step → List Step → Bool
  | [], [] => true
  | a :: l, b :: m => XL a b && yK l m
  | _, _ => false
theorem rT : ∀ {a b : List Step}, yK a b = true → a = b
  | [], [], _ => rfl
  | a :: l, b :: m, h => by
    have h : (XL a b && yK l m) = true := h
    rw [Bool.and_eq_true] at h
    rw [S3 h.1, rT h.2]
def Rc {α : Type} (b : Bool) (f : b = true → Option α) : Option α := @Bool.rec (fun c => b = c → Option α) (fun _ => none) (fun h => f h) b rfl
theorem gv {α : Type} {b : Bool} {f : b = true → Option α} {y : α} (h : Rc b f = some y) : ∃ e, f e = some y := by
  cases b with
  | true => exact ⟨rfl, h⟩
  | false => cases h
def Wl (k : IntKind) {ρ : Type} (v : TV) (y : ρ) : Option (Int × ρ) := match v with
  | .v (.int k' x) => bif kB k k' then some (x, y) else none
  | _ => none
def Ro {ρ : Type} (v : TV) (y : ρ) : Option (Bool × ρ) := match v with
  | .v (.bool x) => some (x, y)
  | _ => none
def Wg {ρ : Type} (v : TV) (y : ρ) : Option (ByteArray × ρ) := match v with
  | .v (.string x) => some (x, y)
  | _ => none
def Yy (t : Ty) {ρ : Type} (v : TV) (y : ρ) : Option (List t.den × ρ) := match v with
  | .ro u xs => Rc (HU u t) fun h => some (mO (cT h) xs, y)
  | _ => none
def Wh {ρ σ : Type} (i : Nat) (f : Nat → Nat → ρ → Option σ) (v : TV) (y : ρ) : Option σ := match v with
  | .sl j (some (o, n)) => bif Nat.beq i j then f o n y else none
  | _ => none
def Wr {t u : Ty} (h : t = u) (x : t.den) : u.den := h ▸ x
def Rl (t : Ty) (p : List Step) {ρ : Type} (v : TV) (y : ρ) : Option (t.den × ρ) := match v with
  | .radr u [x] q => bif yK p q then Rc (HU u t) fun h => some (Wr (cT h) x, y) else none
  | _ => none
def MK (t : Ty) (p : List Step) {ρ : Type} (v : TV) (y : ρ) : Option (List t.den × ρ) := match v with
  | .radr u xs q => bif yK p q then Rc (HU u t) fun h => some (mO (cT h) xs, y) else none
  | _ => none
def Wo {ρ σ : Type} (f : List TV → ρ → Option σ) (v : TV) (y : ρ) : Option σ := match v with
  | .agg l => f l y
  | _ => none
def We {ρ σ : Type} (f : List TV → ρ → Option σ) (v : TV) (y : ρ) : Option σ := match v with
  | .tup l => f l y
  | _ => none
def Wn (t : Ty) (n : Nat) {ρ : Type} (v : TV) (y : ρ) : Option (List t.den × ρ) := match v with
  | .arr u m xs => bif Nat.beq n m then Rc (HU u t) fun h => some (mO (cT h) xs, y) else none
  | _ => none
def Wm (g : Nat) {ρ σ : Type} (f : List TV → ρ → Option σ) (v : TV) (y : ρ) : Option σ := match v with
  | .clo g' l => bif Nat.beq g g' then f l y else none
  | _ => none
def Wp (i : Nat) (p : List Step) {ρ : Type} (v : TV) (y : ρ) : Option ρ := match v with
  | .adr j q => bif Nat.beq i j then (bif yK p q then some y else none) else none
  | _ => none
def Yx (i : Nat) {ρ : Type} (v : TV) (y : ρ) : Option ρ := match v with
  | .sl j none => bif Nat.beq i j then some y else none
  | _ => none
def Yz (i : Nat) {ρ : Type} (v : TV) (y : ρ) : Option ρ := match v with
  | .mp j => bif Nat.beq i j then some y else none
  | _ => none
def Rn {ρ : Type} (v : TV) (y : ρ) : Option ρ := match v with
  | .dead => some y
  | _ => none
def ML {ρ : Type} (v : TV) (y : ρ) : Option ρ := match v with
  | .v (.slice none 0 0) => some y
  | _ => none
def Rm {ρ : Type} (v : TV) (y : ρ) : Option ρ := match v with
  | .v (.pointer none) => some y
  | _ => none
def YA (g : Nat) {ρ : Type} (v : TV) (y : ρ) : Option ρ := match v with
  | .v (.func (.func f) ⟨[]⟩ ⟨[]⟩) => bif Nat.beq g f then some y else none
  | _ => none
mutual
def SV.dec : (s : SV) → (r : List LT) → TV → HL r → Option (HL (s.lv r))
  | .int k, _, v, y => Wl k v y
  | .bool, _, v, y => Ro v y
  | .str, _, v, y => Wg v y
  | .ro t, _, v, y => Yy t v y
  | .slp i a b, r, v, y => Wh i (fun o n y => match b.dec r n y with
      | some z => a.dec (b.lv r) o z
      | none => none) v y
  | .radr t p, _, v, y => Rl t p v y
  | .radrl t p, _, v, y => MK t p v y
  | .agg l, r, v, y => Wo (CO l r) v y
  | .tup l, r, v, y => We (CO l r) v y
  | .arr t n, _, v, y => Wn t n v y
  | .clo g l, r, v, y => Wm g (CO l r) v y
  | .adr i p, _, v, y => Wp i p v y
  | .sl i, _, v, y => Yx i v y
  | .mp i, _, v, y => Yz i v y
  | .dead, _, v, y => Rn v y
  | .nilsl, _, v, y => ML v y
  | .nilp, _, v, y => Rm v y
  | .fn g, _, v, y => YA g v y
def CO : (l : List SV) → (r : List LT) → List TV → HL r → Option (HL (G4 l r))
  | [], _, [], y => some y
  | s :: l, r, v :: vs, y => match CO l r vs y with
    | some z => s.dec (G4 l r) v z
    | none => none
  | _, _, _, _ => none
end
def Wi (t : Ty) (e : TypeId) {ρ : Type} (v : Option Ob) (y : ρ) : Option (List t.den × ρ) := match v with
  | some (.row u e' xs) => bif Nat.beq e e' then Rc (HU u t) fun h => some (mO (cT h) xs, y) else none
  | _ => none
def Wd {ρ σ : Type} (f : TV → ρ → Option σ) (v : Option Ob) (y : ρ) : Option σ := match v with
  | some (.var x) => f x y
  | _ => none
def Tt {k v k' v' : Ty} (h : k' = k) (g : v' = v) (xs : List (k'.den × v'.den)) : List (k.den × v.den) := h ▸ g ▸ xs
def Wk (k w : Ty) {ρ : Type} (v : Option Ob) (y : ρ) : Option (List (k.den × w.den) × ρ) := match v with
  | some (.map k' w' xs) => Rc (HU k' k) fun h => Rc (HU w' w) fun g => some (Tt (cT h) (cT g) xs, y)
  | _ => none
def Wj {ρ : Type} (v : Option Ob) (y : ρ) : Option ρ := match v with
  | none => some y
  | _ => none
def SO.dec : (s : SO) → (r : List LT) → Option Ob → HL r → Option (HL (s.lv r))
  | .row t e, _, v, y => Wi t e v y
  | .var s, r, v, y => Wd (s.dec r) v y
  | .map k w, _, v, y => Wk k w v y
  | .non, _, v, y => Wj v y
def Jc : (l : List SO) → (r : List LT) → List (Option Ob) → HL r → Option (HL (I1 l r))
  | [], _, [], y => some y
  | s :: l, r, v :: vs, y => match Jc l r vs y with
    | some z => s.dec (I1 l r) v z
    | none => none
  | _, _, _, _ => none
def SP.decH (S : SP) (pk : Pk) : Option (HL S.lv) := match Jc S.obs [] pk.obs () with
  | some y => CO S.roots (I1 S.obs []) pk.roots y
  | none => none
def SV.fit : SV → TV → Bool
  | .sl i, .sl j none => Nat.beq i j
  | .slp i _ _, .sl j (some _) => Nat.beq i j
  | .ro _, .ro _ _ => true
  | .adr i _, .adr j _ => Nat.beq i j
  | .int _, .v (.int _ _) => true
  | .bool, .v (.bool _) => true
  | .str, .v (.string _) => true
  | .nilsl, .v (.slice _ _ _) => true
  | .nilp, .v (.pointer _) => true
  | .fn _, .v (.func _ _ _) => true
  | .radr _ _, .radr _ _ _ => true
  | .radrl _ _, .radr _ _ _ => true
  | .agg _, .agg _ => true
  | .tup _, .tup _ => true
  | .arr _ _, .arr _ _ _ => true
  | .clo g _, .clo g' _ => Nat.beq g g'
  | .mp i, .mp j => Nat.beq i j
  | .dead, .dead => true
  | _, _ => false
def Tn : List SV → List TV → Bool
  | [], [] => true
  | s :: l, v :: m => bif s.fit v then Tn l m else false
  | _, _ => false
def SP.I (S : SP) (pk : Pk) : Option (HT S.lv) := bif Tn S.roots pk.roots then (match S.decH pk with
  | some y => some (Xy S.lv y)
  | none => none) else none
theorem NH.dec_enc (s : NH) (r : List LT) (m : Nat) (x : HL r) (y : HL (s.lv r)) (h : s.dec r m x = some y) : s.enc r y = (m, x) := by
  cases s with
  | c n =>
    simp only [NH.dec] at h
    cases hb : Nat.beq n m with
    | false => rw [hb] at h; cases h
    | true =>
      rw [hb] at h
      cases h
      rw [Nat.eq_of_beq_eq_true hb]
      rfl
  | h => cases h; rfl
mutual
theorem SV.dec_enc : ∀ (s : SV) (r : List LT) (v : TV) (x : HL r) (y : HL (s.lv r)), s.dec r v x = some y → s.enc r y = (v, x)
  | .int k, r, v, x, y, h => by
    simp only [SV.dec] at h
    unfold Wl at h
    split at h
    · rename_i k' n
      cases hb : kB k k' with
      | false => rw [hb] at h; cases h
      | true => rw [hb] at h; cases h; rw [← Rj hb]; rfl
    · cases h
  | .bool, r, v, x, y, h => by
    simp only [SV.dec] at h
    unfold Ro at h
    split at h <;> first | (cases h; rfl) | cases h
  | .str, r, v, x, y, h => by
    simp only [SV.dec] at h
    unfold Wg at h
    split at h <;> first | (cases h; rfl) | cases h
  | .ro t, r, v, x, y, h => by
    simp only [SV.dec] at h
    unfold Yy at h
    split at h
    · obtain ⟨e, h⟩ := gv h
      have := cT e
      subst this
      cases h; rfl
    · cases h
  | .slp i a b, r, v, x, y, h => by
    simp only [SV.dec] at h
    unfold Wh at h
    split at h
    · rename_i j o n
      cases hb : Nat.beq i j with
      | false => rw [hb] at h; cases h
      | true =>
        rw [hb] at h
        simp only [cond_true] at h
        cases hz : b.dec r n x with
        | none => rw [hz] at h; cases h
        | some z =>
          rw [hz] at h
          have h1 := NH.dec_enc a (b.lv r) o z y h
          have h2 := NH.dec_enc b r n x z hz
          rw [← Nat.eq_of_beq_eq_true hb]
          simp only [SV.enc, h1, h2]
    · cases h
  | .radr t p, r, v, x, y, h => by
    simp only [SV.dec] at h
    unfold Rl at h
    split at h
    · rename_i u z q
      cases hb : yK p q with
      | false => rw [hb] at h; cases h
      | true =>
        rw [hb] at h
        simp only [cond_true] at h
        obtain ⟨e, h⟩ := gv h
        have := cT e
        subst this
        have := rT hb
        subst this
        cases h; rfl
    · cases h
  | .radrl t p, r, v, x, y, h => by
    simp only [SV.dec] at h
    unfold MK at h
    split at h
    · rename_i u z q
      cases hb : yK p q with
      | false => rw [hb] at h; cases h
      | true =>
        rw [hb] at h
        simp only [cond_true] at h
        obtain ⟨e, h⟩ := gv h
        have := cT e
        subst this
        have := rT hb
        subst this
        cases h; rfl
    · cases h
  | .agg l, r, v, x, y, h => by
    simp only [SV.dec] at h
    unfold Wo at h
    split at h
    · have h1 := k0 l r _ x y h
      simp only [SV.enc, h1]
    · cases h
  | .tup l, r, v, x, y, h => by
    simp only [SV.dec] at h
    unfold We at h
    split at h
    · have h1 := k0 l r _ x y h
      simp only [SV.enc, h1]
    · cases h
  | .arr t n, r, v, x, y, h => by
    simp only [SV.dec] at h
    unfold Wn at h
    split at h
    · rename_i u m xs
      cases hb : Nat.beq n m with
      | false => rw [hb] at h; cases h
      | true =>
        rw [hb] at h
        simp only [cond_true] at h
        obtain ⟨e, h⟩ := gv h
        have := cT e
        subst this
        have := Nat.eq_of_beq_eq_true hb
        subst this
        cases h; rfl
    · cases h
  | .clo g l, r, v, x, y, h => by
    simp only [SV.dec] at h
    unfold Wm at h
    split at h
    · rename_i g' vs
      cases hb : Nat.beq g g' with
      | false => rw [hb] at h; cases h
      | true =>
        rw [hb] at h
        have h1 := k0 l r _ x y h
        have := Nat.eq_of_beq_eq_true hb
        subst this
        simp only [SV.enc, h1]
    · cases h
  | .adr i p, r, v, x, y, h => by
    simp only [SV.dec] at h
    unfold Wp at h
    split at h
    · rename_i j q
      cases hb : Nat.beq i j with
      | false => rw [hb] at h; cases h
      | true =>
        rw [hb] at h
        cases hc : yK p q with
        | false => rw [hc] at h; cases h
        | true =>
          rw [hc] at h
          have := Nat.eq_of_beq_eq_true hb
          subst this
          have := rT hc
          subst this
          cases h; rfl
    · cases h
  | .sl i, r, v, x, y, h => by
    simp only [SV.dec] at h
    unfold Yx at h
    split at h
    · rename_i j
      cases hb : Nat.beq i j with
      | false => rw [hb] at h; cases h
      | true =>
        rw [hb] at h
        have := Nat.eq_of_beq_eq_true hb
        subst this
        cases h; rfl
    · cases h
  | .mp i, r, v, x, y, h => by
    simp only [SV.dec] at h
    unfold Yz at h
    split at h
    · rename_i j
      cases hb : Nat.beq i j with
      | false => rw [hb] at h; cases h
      | true =>
        rw [hb] at h
        have := Nat.eq_of_beq_eq_true hb
        subst this
        cases h; rfl
    · cases h
  | .dead, r, v, x, y, h => by
    simp only [SV.dec] at h
    unfold Rn at h
    split at h <;> first | (cases h; rfl) | cases h
  | .nilsl, r, v, x, y, h => by
    simp only [SV.dec] at h
    unfold ML at h
    split at h <;> first | (cases h; rfl) | cases h
  | .nilp, r, v, x, y, h => by
    simp only [SV.dec] at h
    unfold Rm at h
    split at h <;> first | (cases h; rfl) | cases h
  | .fn g, r, v, x, y, h => by
    simp only [SV.dec] at h
    unfold YA at h
    split at h
    · rename_i f
      cases hb : Nat.beq g f with
      | false => rw [hb] at h; cases h
      | true =>
        rw [hb] at h
        have := Nat.eq_of_beq_eq_true hb
        subst this
        cases h; rfl
    · cases h
theorem k0 : ∀ (l : List SV) (r : List LT) (vs : List TV) (x : HL r) (y : HL (G4 l r)), CO l r vs x = some y → nk l r y = (vs, x)
  | [], r, [], x, y, h => by cases h; rfl
  | [], r, _ :: _, x, y, h => by cases h
  | _ :: _, r, [], x, y, h => by cases h
  | s :: l, r, v :: vs, x, y, h => by
    simp only [CO] at h
    cases hz : CO l r vs x with
    | none => rw [hz] at h; cases h
    | some z =>
      rw [hz] at h
      have h1 := SV.dec_enc s (G4 l r) v z y h
      have h2 := k0 l r vs x z hz
      simp only [nk, h1, h2]
end
theorem SO.dec_enc (s : SO) (r : List LT) (v : Option Ob) (x : HL r) (y : HL (s.lv r)) (h : s.dec r v x = some y) : s.enc r y = (v, x) := by
  cases s with
  | row t e =>
    simp only [SO.dec] at h
    unfold Wi at h
    split at h
    · rename_i u e' xs
      cases hb : Nat.beq e e' with
      | false => rw [hb] at h; cases h
      | true =>
        rw [hb] at h
        simp only [cond_true] at h
        obtain ⟨g, h⟩ := gv h
        have := cT g
        subst this
        have := Nat.eq_of_beq_eq_true hb
        subst this
        cases h; rfl
    · cases h
  | var s =>
    simp only [SO.dec] at h
    unfold Wd at h
    split at h
    · have h1 := SV.dec_enc s r _ x y h
      simp only [SO.enc, h1]
    · cases h
  | map k w =>
    simp only [SO.dec] at h
    unfold Wk at h
    split at h
    · obtain ⟨e, h⟩ := gv h
      obtain ⟨g, h⟩ := gv h
      have := cT e
      subst this
      have := cT g
      subst this
      cases h; rfl
    · cases h
  | non =>
    simp only [SO.dec] at h
    unfold Wj at h
    split at h <;> first | (cases h; rfl) | cases h
theorem CN : ∀ (l : List SO) (r : List LT) (vs : List (Option Ob)) (x : HL r) (y : HL (I1 l r)), Jc l r vs x = some y → Jb l r y = (vs, x)
  | [], r, [], x, y, h => by cases h; rfl
  | [], r, _ :: _, x, y, h => by cases h
  | _ :: _, r, [], x, y, h => by cases h
  | s :: l, r, v :: vs, x, y, h => by
    simp only [Jc] at h
    cases hz : Jc l r vs x with
    | none => rw [hz] at h; cases h
    | some z =>
      rw [hz] at h
      have h1 := SO.dec_enc s (I1 l r) v z y h
      have h2 := CN l r vs x z hz
      simp only [Jb, h1, h2]
theorem SP.I_J (S : SP) (pk : Pk) (x : HT S.lv) (h : S.I pk = some x) : pk = S.J x := by
  unfold SP.I at h
  cases hf : Tn S.roots pk.roots with
  | false => rw [hf] at h; cases h
  | true =>
  rw [hf] at h
  simp only [cond_true] at h
  cases hy : S.decH pk with
  | none => rw [hy] at h; cases h
  | some y =>
    rw [hy] at h
    cases h
    unfold SP.J
    rw [GR]
    unfold SP.decH at hy
    cases hz : Jc S.obs [] pk.obs () with
    | none => rw [hz] at hy; cases hy
    | some z =>
      rw [hz] at hy
      have h1 := k0 _ _ _ _ _ hy
      have h2 := CN _ _ _ _ _ hz
      obtain ⟨roots, obs⟩ := pk
      unfold SP.encH
      rw [h1]
      show (⟨roots, obs⟩ : Pk) = ⟨roots, (Jb S.obs [] z).1⟩
      rw [h2]
@[reducible] def WT : List SP → Type
  | [] => Unit
  | [s] => HT s.lv
  | s :: t :: l => HT s.lv ⊕ WT (t :: l)
def pO : (l : List SP) → WT l → Tr Pk
  | [], _ => .fail
  | [s], x => .ret (s.J x)
  | s :: t :: l, x => .sum _ _ x (fun u => .ret (s.J u)) (fun v => pO (t :: l) v)
def pD : (l : List SP) → Pk → Option (WT l)
  | [], _ => none
  | [s], pk => s.I pk
  | s :: t :: l, pk => match s.I pk with
    | some x => some (.inl x)
    | none => match pD (t :: l) pk with
      | some x => some (.inr x)
      | none => none
theorem V1 : ∀ (l : List SP) (y : Pk) (r : WT l), pD l y = some r → ∀ z, (pO l r).to z → y = z
  | [], _, _, h, _, _ => by cases h
  | [s], y, r, h, z, hz => by
    rw [s.I_J y r h]
    exact Tr.to_ret hz
  | s :: t :: l, y, r, h, z, hz => by
    simp only [pD] at h
    cases hx : s.I y with
    | some x =>
      rw [hx] at h
      cases h
      rw [s.I_J y x hx]
      exact Option.some.inj hz
    | none =>
      rw [hx] at h
      cases hy : pD (t :: l) y with
      | none => rw [hy] at h; cases h
      | some x =>
        rw [hy] at h
        cases h
        exact V1 (t :: l) y x hy z hz
def XB : Ex → Ex → Bool
  | .normal, .normal => true
  | .ret, .ret => true
  | .exit a, .exit b => Nat.beq a b
  | _, _ => false
theorem Tp : ∀ {a b : Ex}, XB a b = true → a = b
  | .normal, .normal, _ => rfl
  | .ret, .ret, _ => rfl
  | .exit a, .exit b, h => by rw [Nat.eq_of_beq_eq_true (show Nat.beq a b = true from h)]
@[reducible] def XT : List (Ex × SP) → Type
  | [] => Unit
  | [s] => HT s.2.lv
  | s :: t :: l => HT s.2.lv ⊕ XT (t :: l)
def xO : (l : List (Ex × SP)) → XT l → Tr (Ex × Pk)
  | [], _ => .fail
  | [s], x => .ret (s.1, s.2.J x)
  | s :: t :: l, x => .sum _ _ x (fun u => .ret (s.1, s.2.J u)) (fun v => xO (t :: l) v)
def xI (s : Ex × SP) (y : Ex × Pk) : Option (HT s.2.lv) := bif XB s.1 y.1 then s.2.I y.2 else none
theorem UW (s : Ex × SP) (y : Ex × Pk) (x : HT s.2.lv) (h : xI s y = some x) : y = (s.1, s.2.J x) := by
  unfold xI at h
  cases hb : XB s.1 y.1 with
  | false => rw [hb] at h; cases h
  | true =>
    rw [hb] at h
    obtain ⟨e, pk⟩ := y
    rw [Tp hb, ← s.2.I_J pk x h]
def xD : (l : List (Ex × SP)) → Ex × Pk → Option (XT l)
  | [], _ => none
  | [s], y => xI s y
  | s :: t :: l, y => match xI s y with
    | some x => some (.inl x)
    | none => match xD (t :: l) y with
      | some x => some (.inr x)
      | none => none
theorem OI : ∀ (l : List (Ex × SP)) (y : Ex × Pk) (r : XT l), xD l y = some r → ∀ z, (xO l r).to z → y = z
  | [], _, _, h, _, _ => by cases h
  | [s], y, r, h, z, hz => by
    rw [UW s y r h]
    exact Tr.to_ret hz
  | s :: t :: l, y, r, h, z, hz => by
    simp only [xD] at h
    cases hx : xI s y with
    | some x =>
      rw [hx] at h
      cases h
      rw [UW s y x hx]
      exact Option.some.inj hz
    | none =>
      rw [hx] at h
      cases hy : xD (t :: l) y with
      | none => rw [hy] at h; cases h
      | some x =>
        rw [hy] at h
        cases h
        exact OI (t :: l) y x hy z hz
def Tb : List (Ex × List Nat) → Ex → List Nat
  | [], _ => []
  | x :: l, e => bif XB x.1 e then x.2 else Tb l e
structure LD where
  p : Nat
  live : List Nat
  out : List (Ex × List Nat)
  s : SP
  w : List (Ex × SP)
@[reducible] def LD.X (L : LD) : Type := HT L.s.lv
@[reducible] def LD.R (L : LD) : Type := XT L.w
def LD.cut (L : LD) (F : L.X → Option L.R) : Cut := ⟨L.live, Tb L.out, eV L.s.I F (xO L.w)⟩
def ap (P : Program) (fn : Func) (A : List Nat) (p : Nat) (C : Cut) : Prop := ∀ c', At (rv fn) p c' → kg P fn.ntmps (aE (A.map fun i => .adr i [])) c' C
def qg (A : List Nat) : List TV := A.map fun i => .adr i []
def LD.rnd (L : LD) (E : Env) (fn : Func) (A : List Nat) (f : L.X → Option L.R) (x : L.X) : Option L.R :=
  (jr E fn.ntmps (qg A) (tF (rv fn) L.p) L.p (L.cut f) (L.s.J x)).run (xD L.w)
theorem LD.loop (L : LD) {E : Env} (hE : EnvOK E) {fn : Func} {A : List Nat} (hC : gM E fn.ntmps (aE (qg A)) (rv fn)) (hp : Nat.blt L.p (2 ^ 200) = true) (hc : codeOf (rv fn) 200 L.p = some (.loop (tF (rv fn) L.p)))
    (B : (L.X → Option L.R) → L.X → Option L.R) (F : Nat → L.X → Option L.R) (h0 : ∀ x, F 0 x = none) (h1 : ∀ k x, F (k + 1) x = B (F k) x) (heq : ∀ f x, L.rnd E fn A f x = B f x) (k : Nat) : ap E.P fn A L.p (L.cut (F k)) :=
  Ph hE hC hp hc (L.s.I_J) (OI L.w) B F h0 h1 heq k
def zz (fn : Func) (p : Nat) : Code := match codeOf (rv fn) 200 p with
  | some c => c
  | none => .skip
def LD.pce (L : LD) (E : Env) (fn : Func) (A : List Nat) (x : L.X) : Option L.R :=
  (yU E fn.ntmps (qg A) (zz fn L.p) L.p (L.cut fun _ => none) (L.s.J x)).run (xD L.w)
theorem LD.piece (L : LD) {E : Env} (hE : EnvOK E) {fn : Func} {A : List Nat} (hC : gM E fn.ntmps (aE (qg A)) (rv fn)) (hp : Nat.blt L.p (2 ^ 200) = true) (hc : codeOf (rv fn) 200 L.p = some (zz fn L.p))
    (F : L.X → Option L.R) (heq : ∀ x, L.pce E fn A x = F x) : ap E.P fn A L.p (L.cut F) := by
  intro c' hat
  have hcc := hat.codeOf 200 (Nat.blt_eq ▸ hp)
  rw [hc] at hcc
  cases hcc
  refine O5 hE hC hat (C := L.cut F) fun pk r h => ?_
  unfold LD.cut eV at h
  simp only at h
  split at h
  · rename_i x hx
    obtain ⟨y, g1, g2⟩ := Tr.to_ask h
    rw [← heq] at g1
    obtain ⟨z, g3, g4⟩ := Tr.to_run g1
    have := OI L.w _ _ g4 _ g2
    subst this
    have := L.s.I_J _ _ hx
    subst this
    exact g3
  · exact (Tr.to_fail h).elim
def Yw (E : Env) (fn : Func) (s : SP) (w : List SP) (x : HT s.lv) : Option (WT w) := (Mr E fn (s.J x)).run (pD w)
def aj (s : SP) (w : List SP) (F : HT s.lv → Option (WT w)) : Pk → Tr Pk := tell s.I F (pO w)
theorem LD.loopT {P : Program} {tab : List (Nat × (Pk → Tr Pk))} (L : LD) (own : FuncId → List Nat) (hm : P.follows .mixedOrders = true) (ht : ai P tab) (fn : Func) (A : List Nat) {cuts : List (Nat × Cut)} (hC : lJ P fn.ntmps (aE (qg A)) (rv fn) cuts) (hp : Nat.blt L.p (2 ^ 200) = true)
    (hc : codeOf (rv fn) 200 L.p = some (.loop (tF (rv fn) L.p))) (B : (L.X → Option L.R) → L.X → Option L.R) (F : Nat → L.X → Option L.R) (h0 : ∀ x, F 0 x = none) (h1 : ∀ k x, F (k + 1) x = B (F k) x) (heq : ∀ f x, L.rnd (wn P own tab cuts) fn A f x = B f x) (k : Nat) : ap P fn A L.p (L.cut (F k)) :=
  L.loop (E := wn P own tab cuts) (jA hm ht) (dj hC) hp hc B F h0 h1 heq k
theorem LD.pieceT {P : Program} {tab : List (Nat × (Pk → Tr Pk))} (L : LD) (own : FuncId → List Nat) (hm : P.follows .mixedOrders = true) (ht : ai P tab) (fn : Func) (A : List Nat) {cuts : List (Nat × Cut)} (hC : lJ P fn.ntmps (aE (qg A)) (rv fn) cuts) (hp : Nat.blt L.p (2 ^ 200) = true)
    (hc : codeOf (rv fn) 200 L.p = some (zz fn L.p)) (F : L.X → Option L.R) (heq : ∀ x, L.pce (wn P own tab cuts) fn A x = F x) : ap P fn A L.p (L.cut F) :=
  L.piece (E := wn P own tab cuts) (jA hm ht) (dj hC) hp hc F heq
def LD.rnd2 (L : LD) (s : SP) (E : Env) (fn : Func) (A : List Nat) (f : HT s.lv → Option L.R) (g : L.X → Tr (Ex × Pk)) (pk : Pk) : Option L.R :=
  (jr E fn.ntmps (qg A) (tF (rv fn) L.p) L.p ⟨L.live, Tb L.out, Ey L.s.I g (eV s.I f (xO L.w))⟩ pk).run (xD L.w)
theorem LD.loop2T {P : Program} {tab : List (Nat × (Pk → Tr Pk))} (L : LD) (own : FuncId → List Nat) (hm : P.follows .mixedOrders = true) (ht : ai P tab) (s : SP) (fn : Func) (A : List Nat) {cuts : List (Nat × Cut)} (hC : lJ P fn.ntmps (aE (qg A)) (rv fn) cuts) (hp : Nat.blt L.p (2 ^ 200) = true)
    (hc : codeOf (rv fn) 200 L.p = some (.loop (tF (rv fn) L.p))) (B : (HT s.lv → Option L.R) → L.X → Option L.R) (B' : (HT s.lv → Option L.R) → HT s.lv → Option L.R) (F' : Nat → HT s.lv → Option L.R) (h0 : ∀ x, F' 0 x = none) (h1 : ∀ k x, F' (k + 1) x = B' (F' k) x)
    (heq : ∀ f g x, L.rnd2 s (wn P own tab cuts) fn A f g (L.s.J x) = B f x) (heq' : ∀ f g x, L.rnd2 s (wn P own tab cuts) fn A f g (s.J x) = B' f x) (k : Nat) : ap P fn A L.p (L.cut (B (F' k))) :=
  LS (E := wn P own tab cuts) (jA hm ht) (dj hC) hp hc L.s.I_J s.I_J (OI L.w) B B' F' h0 h1 heq heq' k
theorem Wa {P : Program} {tab : List (Nat × (Pk → Tr Pk))} (own : FuncId → List Nat) (hm : P.follows .mixedOrders = true) (ht : ai P tab) {f : FuncId} {fn : Func} (hf : P.funcs[f]? = some fn) (hb : fn.body = some (rv fn)) (hname : (fn.name == "runtime.NumGoroutine") = false) (s : SP) (w : List SP) (A : List Nat) {cuts : List (Nat × Cut)}
    (hC : lJ P fn.ntmps (aE (qg A)) (rv fn) cuts) (hids : ∀ x, aE (dt (s.J x).roots) = aE (qg A)) (hlt : Nat.ble s.roots.length fn.ntmps = true) (F : HT s.lv → Option (WT w)) (heq : ∀ x, Yw (wn P own tab cuts) fn s w x = F x) : aO P f (aj s w F) :=
  OO (E := wn P own tab cuts) (jA hm ht) hf hb hname s.I_J (V1 w) (args := qg A) hids (fun x => by
    have : ∀ (l : List SV) (r : List LT) (y : HL (G4 l r)), (nk l r y).1.length = l.length := by
      intro l
      induction l with
      | nil => intro r y; rfl
      | cons s l ih => intro r y; simp [nk, ih]
    show (nk s.roots _ _).1.length ≤ fn.ntmps
    rw [this]
    exact Nat.le_of_ble_eq_true hlt) (dj hC) heq
abbrev au := List (Nat × (Pk → Tr Pk))
def Rp (fn : Func) (s : SP) : Bool := fn.body.isSome && (!(fn.name == "runtime.NumGoroutine") && Nat.ble s.roots.length fn.ntmps)
theorem ag {P : Program} {tab : List (Nat × (Pk → Tr Pk))} (own : FuncId → List Nat) (hm : P.follows .mixedOrders = true) (ht : ai P tab) {f : FuncId} {fn : Func} (hf : P.funcs[f]? = some fn) (s : SP) (w : List SP) (A : List Nat) {cuts : List (Nat × Cut)}
    (hC : lJ P fn.ntmps (aE (qg A)) (rv fn) cuts) (hids : ∀ x, aE (dt (s.J x).roots) = aE (qg A)) (hc : Rp fn s = true) (F : HT s.lv → Option (WT w)) (heq : ∀ x, Yw (wn P own tab cuts) fn s w x = F x) : aO P f (aj s w F) := by
  unfold Rp at hc
  rw [Bool.and_eq_true, Bool.and_eq_true] at hc
  obtain ⟨h1, h2, h3⟩ := hc
  refine Wa own hm ht hf ?_ ?_ s w A hC hids h3 F heq
  · unfold rv
    cases hb : fn.body with
    | none => rw [hb] at h1; cases h1
    | some c => rfl
  · cases hn : fn.name == "runtime.NumGoroutine" with
    | false => rfl
    | true => rw [hn] at h2; cases h2
end
end Go.Am
namespace Go.Am
noncomputable section
def OF : (t : Ty) → t.den → Prop
  | .int k, n => k.min ≤ n ∧ n ≤ k.max
  | .bool, _ => True
  | .str, s => s.size ≤ maxLen
  | .sl t, xs => xs.length ≤ maxLen ∧ ∀ x ∈ xs, OF t x
  | .unit, _ => True
  | .cons a r, x => OF a x.1 ∧ OF r x.2
def zm (P : Program) (laid : TypeId → Bool) (ty : TypeId → Option Ty) : List Field → Nat → Nat → Bool
  | [], off, tot => Nat.beq off tot
  | f :: fs, off, tot => Nat.beq f.offset off && laid f.type && (match ty f.type with | some t => Nat.beq (P.cellsOf f.type) t.cells | none => false) && zm P laid ty fs (off + P.cellsOf f.type) tot
def mW (P : Program) : Nat → TypeId → Bool
  | 0, _ => false
  | m + 1, T => match P.underlying T with
    | some (.slice e) => mW P m e && (match dS P m e with | some t => Nat.beq (P.cellsOf e) t.cells && Nat.blt 0 t.cells | none => false)
    | some (.struct fs) => zm P (mW P m) (dS P m) fs.toList 0 (P.cellsOf T)
    | _ => true
theorem Jh {w : World} {a : Addr} {n : Nat} {cs : List Value} (h : w.cells? 0 a n = some cs) : cs.length = n ∧ ∀ j v, cs[j]? = some v → w.cell? (a.add j) = some v := by
  unfold World.cells? at h
  rw [if_pos (Nat.zero_le _)] at h
  have key : ∀ (n k : Nat) (cs : List Value), (List.range' k n).mapM (fun i => w.cell? (a.add i)) = some cs → cs.length = n ∧ ∀ j v, cs[j]? = some v → w.cell? (a.add (k + j)) = some v := by
    intro n
    induction n with
    | zero => intro k cs h; cases h; exact ⟨rfl, fun j v hj => by simp at hj⟩
    | succ n ih =>
      intro k cs h
      rw [List.range'_succ, List.mapM_cons] at h
      cases ha : w.cell? (a.add k) with
      | none => rw [ha] at h; cases h
      | some b =>
        rw [ha] at h
        cases hl : (List.range' (k + 1) n).mapM (fun i => w.cell? (a.add i)) with
        | none => rw [hl] at h; cases h
        | some bs =>
          rw [hl] at h
          cases h
          obtain ⟨h1, h2⟩ := ih _ _ hl
          refine ⟨by simp [h1], fun j v hj => ?_⟩
          cases j with
          | zero => simp at hj; subst hj; exact ha
          | succ j =>
            have := h2 j v (by simpa using hj)
            rw [show k + (j + 1) = k + 1 + j by omega]; exact this
  have := key n 0 cs (by rw [← List.range_eq_range']; exact h)
  simpa using this
theorem tW {P : Program} {w : World} {laid : TypeId → Bool} {ty : TypeId → Option Ty} {rd : TypeId → List Value → Prop}
    (ih : ∀ T cs t, laid T = true → rd T cs → ty T = some t → ∃ x : t.den, OF t x ∧ bJ (fun b => b < w.heap.size) w t x cs) :
    ∀ (fs : List Field) (off tot : Nat) (cs : List Value) (t : Ty), cs.length = tot → zm P laid ty fs off tot = true → jj (fs.map fun f => ty f.type) = some t →
      (∀ f ∈ fs, rd f.type ((cs.drop f.offset).take (P.cellsOf f.type))) → ∃ x : t.den, OF t x ∧ bJ (fun b => b < w.heap.size) w t x (cs.drop off)
  | [], off, tot, cs, t, hlen, hl, ht, _ => by
    cases ht
    have : off = tot := Nat.eq_of_beq_eq_true hl
    subst this
    exact ⟨(), trivial, List.drop_eq_nil_of_le (by omega)⟩
  | f :: fs, off, tot, cs, t, hlen, hl, ht, hr => by
    simp only [zm, Bool.and_eq_true] at hl
    obtain ⟨⟨⟨h1, h2⟩, h3⟩, h4⟩ := hl
    have h1 : f.offset = off := Nat.eq_of_beq_eq_true h1
    simp only [List.map_cons] at ht
    cases hty : ty f.type with
    | none => rw [hty] at ht; cases ht
    | some a =>
      rw [hty] at ht h3
      simp only [jj] at ht
      cases hc : jj (fs.map fun f => ty f.type) with
      | none => rw [hc] at ht; cases ht
      | some b =>
        rw [hc] at ht
        cases ht
        obtain ⟨y, wy, ry⟩ := tW ih fs _ tot cs b hlen h4 hc fun g hg => hr g (List.mem_cons_of_mem _ hg)
        obtain ⟨x, wx, rx⟩ := ih _ _ _ h2 (hr f (List.mem_cons_self ..)) hty
        rw [h1] at rx
        refine ⟨(x, y), ⟨wx, wy⟩, _, _, ?_, rx, ry⟩
        rw [← List.drop_drop, List.take_append_drop]
theorem add_add (a : Addr) (i j : Nat) : (a.add i).add j = a.add (i + j) := by
  unfold Addr.add
  by_cases hi : i = 0
  · subst hi; simp
  · by_cases hj : j = 0
    · subst hj; simp [hi]
    · have : i + j ≠ 0 := by omega
      simp [hi, hj, this, Nat.add_assoc]
theorem Lt {w : World} {a : Addr} {sz : Nat} {t : Ty} {len : Nat} (hsz : t.cells = sz) (h : ∀ i, i < len → ∃ cs x, w.cells? 0 (a.add (i * sz)) sz = some cs ∧ OF t x ∧ bJ (fun b => b < w.heap.size) w t x cs) :
    ∃ xs : List t.den, ∃ cs : List Value, xs.length = len ∧ (∀ x ∈ xs, OF t x) ∧ bZ (bJ (fun b => b < w.heap.size) w t) xs cs ∧ cs.length = len * sz ∧ ∀ j v, cs[j]? = some v → w.cell? (a.add j) = some v := by
  induction len with
  | zero => exact ⟨[], [], rfl, fun x hx => (by cases hx), rfl, by simp, fun j v hj => by simp at hj⟩
  | succ len ih =>
    obtain ⟨xs, cs, h1, h2, h3, h4, h5⟩ := ih fun i hi => h i (by omega)
    obtain ⟨ds, x, k1, k2, k3⟩ := h len (by omega)
    obtain ⟨g1, g2⟩ := Jh k1
    refine ⟨xs ++ [x], cs ++ ds, by simp [h1], fun z hz => ?_, dG _ _ _ _ h3 ⟨ds, [], by simp, k3, rfl⟩, by simp [h4, g1, Nat.add_mul], fun j v hj => ?_⟩
    · rcases List.mem_append.1 hz with hz | hz
      · exact h2 z hz
      · simp at hz; subst hz; exact k2
    · by_cases hlt : j < cs.length
      · rw [List.getElem?_append_left hlt] at hj
        exact h5 j v hj
      · rw [List.getElem?_append_right (by omega)] at hj
        have := g2 _ _ hj
        rw [h4] at this hlt
        rw [add_add, show len * sz + (j - len * sz) = j by omega] at this
        exact this
theorem KI {H : Type} {enc : TypeId × Value → H} {P : Program} {w : World} {sp : Nat → Bool} {held : Bool} : ∀ (m n : Nat) (T : TypeId) (cs : List Value) (y : DataW H × List MemPlace) (t : Ty), mW P m T = true → DataW.trod enc P w 0 sp held n T cs = some y → dS P m T = some t →
    ∃ x : t.den, OF t x ∧ bJ (fun b => b < w.heap.size) w t x cs := by
  intro m
  induction m with
  | zero => intro n T cs y t h; cases h
  | succ m ih =>
    intro n T cs y t hl h ht
    simp only [dS] at ht
    simp only [mW] at hl
    cases hu : P.underlying T with
    | none => rw [hu] at ht; cases ht
    | some d =>
      rw [hu] at ht hl
      cases d with
      | bool =>
        cases ht
        obtain ⟨b, rfl, _⟩ := DataW.trod_bool hu h
        exact ⟨b, trivial, rfl⟩
      | int k =>
        cases ht
        obtain ⟨b, rfl, _, hw⟩ := DataW.trod_int hu h
        simp only [Lit.wf, Bool.and_eq_true, decide_eq_true_eq] at hw
        exact ⟨b, hw, rfl⟩
      | string =>
        cases ht
        obtain ⟨b, rfl, _, hw⟩ := DataW.trod_string hu h
        exact ⟨b, hw, rfl⟩
      | slice e =>
        simp only at ht hl
        cases hte : dS P m e with
        | none => rw [hte] at ht; cases ht
        | some te =>
          rw [hte] at ht hl
          cases ht
          simp only [Bool.and_eq_true] at hl
          obtain ⟨hl1, hl2, hl3⟩ := hl
          have hsz : P.cellsOf e = te.cells := Nat.eq_of_beq_eq_true hl2
          have hpos : 0 < te.cells := Nat.blt_eq ▸ hl3
          rcases DataW.trod_slice hu h with ⟨rfl, _⟩ | ⟨a, len, cap, elems, rest, n', _, rfl, _, _, hcap, hmax, hel, helem, _, _⟩
          · exact ⟨[], ⟨Nat.zero_le _, fun x hx => by cases hx⟩, none, 0, rfl, Nat.le_refl _, .inl rfl⟩
          · obtain ⟨xs, cs', h1, h2, h3, h4, h5⟩ := Lt (w := w) (a := a) (sz := te.cells) (t := te) (len := len) rfl fun i hi => by
              have := helem i hi
              rw [List.getElem?_eq_getElem (by omega)] at this
              obtain ⟨cs, k1, k2⟩ := Option.bind_eq_some_iff.1 this
              obtain ⟨x, k3, k4⟩ := ih _ _ _ _ _ hl1 k2 hte
              rw [hsz] at k1
              exact ⟨cs, x, k1, k3, k4⟩
            refine ⟨xs, ⟨by omega, h2⟩, some a, cap, by rw [h1], by omega, ?_⟩
            cases xs with
            | nil => exact .inl rfl
            | cons x xs =>
              right
              have hlen0 : 0 < len := by simp at h1; omega
              have hc0 : 0 < cs'.length := by rw [h4]; exact Nat.mul_pos hlen0 hpos
              have hcell := h5 0 cs'[0] (List.getElem?_eq_getElem hc0)
              have hspot : a.spot = none := by
                unfold World.cell? at hcell
                split at hcell
                · split at hcell
                  · cases hcell
                  · rename_i hs; simpa [Addr.add] using hs
                · cases hcell
              have hblk : a.block < w.heap.size := by
                unfold World.cell? at hcell
                split at hcell
                · rename_i hs
                  exact (Array.getElem?_eq_some_iff.1 hs).1
                · cases hcell
              obtain ⟨ab, ao, asp⟩ := a
              simp only at hspot hblk
              subst hspot
              refine ⟨ab, ao, cs', rfl, hblk, hblk, h3, fun j v hj => ?_⟩
              have := h5 j v hj
              by_cases hj0 : j = 0
              · subst hj0; exact this
              · simpa [Addr.add, hj0] using this
      | struct fs =>
        simp only at ht hl
        obtain ⟨xs, n', _, _, hlen, hxl, hf⟩ := DataW.trod_struct hu h
        have := tW (P := P) (w := w) (laid := mW P m) (ty := dS P m) (rd := fun T cs => ∃ n y, DataW.trod enc P w 0 sp held n T cs = some y)
          (fun T cs t k1 ⟨n, y, k2⟩ k3 => ih n T cs y t k1 k2 k3) fs.toList 0 (P.cellsOf T) cs t hlen hl ht (fun f hf' => by
            obtain ⟨i, hi, he⟩ := List.getElem_of_mem hf'
            have hfi : fs[i]? = some f := by rw [← he]; simp at hi; simp [hi]
            have := hf i f hfi
            have hi' : i < xs.length := by rw [hxl]; simpa using hi
            rw [List.getElem?_eq_getElem hi'] at this
            exact ⟨_, _, this⟩)
        simpa using this
      | _ => cases ht
theorem Pz {H : Type} {enc : TypeId × Value → H} {P : Program} {w : World} {sp : Nat → Bool} {held : Bool} {base : Nat} {T : TypeId} {v : Value} {d : DataW H} {ps : List MemPlace} {t : Ty} (hl : mW P pz T = true) (ht : dS P pz T = some t)
    (hok : Value.okWide P w .any base T v) (h : DataW.Trod enc P w 0 sp held T v d ps) : ∃ x : t.den, OF t x ∧ av ⟨fun _ => False, fun _ => none, fun _ => none, fun b => b < w.heap.size, w⟩ (mX t x) v := by
  obtain ⟨fuel, hf⟩ := h
  obtain ⟨x, hw, hr⟩ := KI pz fuel T _ _ t hl hf ht
  refine ⟨x, hw, ?_⟩
  have hc := iA (C := ⟨fun _ => False, fun _ => none, fun _ => none, fun b => b < w.heap.size, w⟩) t x _ hr
  have hv := ir hc
  unfold Value.okWide at hok
  have hagg : (mX t x).isAgg = t.isAgg := by cases t <;> rfl
  cases hu : P.underlying T with
  | none => simp [pz, dS, hu] at ht
  | some dd =>
    rw [hu] at hok
    cases dd with
    | struct fs =>
      obtain ⟨cs, rfl, _⟩ := hok
      have ha : t.isAgg = true := by
        simp only [pz, dS, hu] at ht
        have : ∀ (l : List (Option Ty)) (t : Ty), jj l = some t → t.isAgg = true := by
          intro l t h
          cases l with
          | nil => cases h; rfl
          | cons a l =>
            cases a with
            | none => cases h
            | some a =>
              simp only [jj] at h
              split at h
              · cases h; rfl
              · cases h
        exact this _ _ ht
      have := hv.1 (by rw [hagg]; exact ha)
      simpa [Value.cells] using this
    | bool | int k | string | slice e =>
      have hna : t.isAgg = false := by
        simp only [pz, dS, hu] at ht
        first | (cases ht; rfl) | (split at ht <;> cases ht; rfl)
      obtain ⟨v', hv1, hv2⟩ := hv.2 (by rw [hagg]; exact hna)
      have hone : v.cells = #[v] := by
        cases v with
        | agg cs => simp [Cell.okWide, hu, Cell.ok] at hok
        | _ => rfl
      rw [hone] at hv1
      simp at hv1
      subst hv1
      exact hv2
    | _ => simp [pz, dS, hu] at ht
theorem EY {w w' : World} (h : RowKit.Below w.heap.size w w') (may : MemPlace → Prop) : w.keptBut w' may := by
  refine ⟨h.os, h.output, fun i hi => ?_⟩
  rw [h.block i hi]
  cases w.heap[i]? with
  | none => trivial
  | some o => cases o <;> first | exact ⟨rfl, rfl, rfl, fun _ _ => rfl⟩ | exact .inr ⟨rfl, rfl⟩ | rfl
@[reducible] def OB : List Ty → Type
  | [] => Unit
  | t :: ts => t.den × OB ts
def yR : (ts : List Ty) → OB ts → List TV
  | [], _ => []
  | t :: ts, x => mX t x.1 :: yR ts x.2
def KF : (ts : List Ty) → OB ts → Prop
  | [], _ => True
  | t :: ts, x => OF t x.1 ∧ KF ts x.2
def rc (P : Program) : List TypeId → List Ty → Bool
  | [], [] => true
  | T :: Ts, t :: ts => mW P pz T && (match dS P pz T with | some u => decide (u = t) | none => false) && P.readableRec T && Nat.blt T P.types.size && rc P Ts ts
  | _, _ => false
theorem C1 {H : Type} {enc : TypeId × Value → H} {P : Program} {w : World} {base : Nat} : ∀ (Ts : List TypeId) (ts : List Ty) (vs : List Value) (ds : List (DataW H)) (ps : List MemPlace), rc P Ts ts = true →
    (∀ (j : Nat) T v, Ts[j]? = some T → vs[j]? = some v → Value.okWide P w .any base T v) → DataW.TrodAll enc P w 0 (fun _ => true) true Ts vs ds ps →
    ∃ x : OB ts, KF ts x ∧ bj ⟨fun _ => False, fun _ => none, fun _ => none, fun b => b < w.heap.size, w⟩ (yR ts x) vs
  | [], [], vs, ds, ps, _, _, hA => by
    obtain ⟨rfl, rfl, rfl⟩ := ChangeShapes.trodAll_nil hA
    exact ⟨(), trivial, rfl⟩
  | T :: Ts, t :: ts, vs, ds, ps, hp, hok, hA => by
    obtain ⟨v, vs1, d, ds1, a, b, rfl, rfl, rfl, h1, h2⟩ := ChangeShapes.trodAll_cons hA
    simp only [rc, Bool.and_eq_true] at hp
    obtain ⟨⟨⟨⟨p1, p2⟩, p3⟩, p4⟩, p5⟩ := hp
    cases ht : dS P pz T with
    | none => rw [ht] at p2; cases p2
    | some u =>
      rw [ht] at p2
      have : u = t := of_decide_eq_true p2
      subst this
      obtain ⟨x, wx, rx⟩ := Pz p1 ht (hok 0 T v rfl rfl) h1
      obtain ⟨y, wy, ry⟩ := C1 Ts ts vs1 ds1 b p5 (fun j T v h k => hok (j + 1) T v h k) h2
      exact ⟨(x, y), ⟨wx, wy⟩, _, _, rfl, rx, ry⟩
  | [], _ :: _, _, _, _, hp, _, _ => by cases hp
  | _ :: _, [], _, _, _, hp, _, _ => by cases hp
theorem ye {H : Type} {enc : TypeId × Value → H} {P : Program} (hl : laidOutB P = true) {w w' : World} (hb : RowKit.Below w.heap.size w w') : ∀ (Ts : List TypeId) (ts : List Ty) (vs : List Value) (ds : List (DataW H)) (ps : List MemPlace), rc P Ts ts = true →
    DataW.TrodAll enc P w 0 (fun _ => true) true Ts vs ds ps → (∀ p ∈ ps, p.block < w.heap.size) → DataW.TrodAll enc P w' 0 (fun b => decide (b < w.heap.size)) true Ts vs ds ps
  | [], _, vs, ds, ps, _, hA, _ => by
    obtain ⟨rfl, rfl, rfl⟩ := ChangeShapes.trodAll_nil hA
    exact rfl
  | T :: Ts, t :: ts, vs, ds, ps, hp, hA, hlt => by
    obtain ⟨v, vs1, d, ds1, a, b, rfl, rfl, rfl, h1, h2⟩ := ChangeShapes.trodAll_cons hA
    simp only [rc, Bool.and_eq_true] at hp
    obtain ⟨⟨⟨⟨p1, p2⟩, p3⟩, p4⟩, p5⟩ := hp
    exact ⟨a, b, RowKit.Below.trod hl p3 (Nat.blt_eq ▸ p4) h1 hb fun x hx => hlt x (List.mem_append_left _ hx), ye hl hb Ts ts vs1 ds1 b p5 h2 fun x hx => hlt x (List.mem_append_right _ hx), rfl⟩
  | _ :: _, [], _, _, _, hp, _, _ => by cases hp
theorem Mc {H : Type} {enc : TypeId × Value → H} {P : Program} {f : FuncId} {fn : Func} {s : ChangeSpec} {apart fresh : Bool} {ts : List Ty} (hl : laidOutB P = true) (hp : rc P fn.params.toList ts = true) {TB : TypeId} (hres : fn.resultTypes = #[TB]) (hTB : P.underlying TB = some .bool)
    (hvars : s.vars = []) (hs : ∀ (ds : List (DataW H)), ds.length = ts.length → s.fn H ds = { results := [.lit (.bool true)], args := ds })
    (h : ∀ x : OB ts, KF ts x → ∃ r, CallOK P f ⟨yR ts x, []⟩ r ∧ r.roots.headD .dead = .v (.bool true))
    (W : World) (base : Nat) (args : Array Value) (ds gs : List (DataW H)) (before : List MemPlace) (hval : ∀ (j : Nat) t v, fn.params[j]? = some t → args[j]? = some v → Value.okWide P W .any base t v)
    (hW : DataW.Whole enc P fn.params.toList s.vars apart W args.toList ds gs before) : Calls P f args W fun e W' => ∃ v, e = .returned v ∧ s.post enc P fn apart fresh false false W args v W' := by
  have hW' := hW
  obtain ⟨p, q, hA, hV, rfl, hfz, hnd⟩ := hW
  rw [hvars] at hV
  have hgs : gs = [] ∧ q = [] := by
    cases gs with
    | nil => exact ⟨rfl, hV⟩
    | cons _ _ => exact hV.elim
  obtain ⟨rfl, rfl⟩ := hgs
  obtain ⟨x, wx, rx⟩ := C1 _ ts _ _ _ hp (fun j T v h k => hval j T v (by simpa using h) (by simpa using k)) hA
  obtain ⟨r, hr1, hr2⟩ := h x wx
  have hcall := hr1.law hr2 (w := W) (R := fun b => b < W.heap.size) (fun b hb => hb) rx
  rw [show args.toList.toArray = args by simp] at hcall
  refine hcall.mono fun e W' ⟨he, hb⟩ => ?_
  subst he
  have hlt : ∀ x ∈ p, x.block < W.heap.size := fun x hx => hW'.lt x (List.mem_append_left _ hx)
  have hdl : ∀ (Ts : List TypeId) (ts : List Ty) (vs : List Value) (ds : List (DataW H)) (ps : List MemPlace), rc P Ts ts = true → DataW.TrodAll enc P W 0 (fun _ => true) true Ts vs ds ps → ds.length = ts.length := by
    intro Ts
    induction Ts with
    | nil =>
      intro ts vs ds ps h k
      obtain ⟨rfl, rfl, rfl⟩ := ChangeShapes.trodAll_nil k
      cases ts with
      | nil => rfl
      | cons _ _ => cases h
    | cons T Ts ih =>
      intro ts vs ds ps h k
      cases ts with
      | nil => cases h
      | cons t ts =>
        obtain ⟨v, vs1, d, ds1, a, b, rfl, rfl, rfl, h1, h2⟩ := ChangeShapes.trodAll_cons k
        simp only [rc, Bool.and_eq_true] at h
        simp [ih ts _ _ _ h.2 h2]
  have hsp : s.fn H (ds ++ []) = { results := [.lit (.bool true)], args := ds } := by
    rw [List.append_nil]; exact hs ds (hdl _ _ _ _ _ hp hA)
  refine ⟨_, rfl, ds, [], p ++ [], [], p, [], hW', ?_, ?_, ?_, EY hb _, fun h => by cases h⟩
  · rw [hsp, hres]
    exact ChangeShapes.trodAll_mk1 (RowKit.shut_bool hTB true)
  · rw [hsp]
    exact ye hl hb _ ts _ _ _ hp hA hlt
  · rw [hsp, hvars]
    exact rfl
end
end Go.Am
namespace Go.Am
def U (X : BitVec 64) : Int := (X.toNat : Int)
theorem wrap_u64 (z : Int) : IntKind.wrap .u64 z = z % 18446744073709551616 := by
  simp [IntKind.wrap, IntKind.bits, IntKind.signed]
theorem UX (X : BitVec 64) : IntKind.wrap .u64 (X.toNat : Int) = U X := by
  rw [wrap_u64]; unfold U; have := X.isLt; omega
theorem YZ (X : BitVec 64) : BitVec.ofInt 64 (U X) = X := by
  unfold U; exact BitVec.ofInt_natCast ..  |>.trans (by simp)
theorem Ei (X : BitVec 64) (k : Nat) : Int.fdiv (U X) (2 ^ k) = U (X >>> k) := by
  unfold U
  rw [BitVec.toNat_ushiftRight, Nat.shiftRight_eq_div_pow, Int.fdiv_eq_ediv_of_nonneg _ (by exact Int.pow_nonneg (by decide))]
  simp
theorem IE (X : BitVec 64) (k : Nat) : IntKind.wrap .u64 (U X * 2 ^ k) = U (X <<< k) := by
  unfold U
  rw [wrap_u64, BitVec.toNat_shiftLeft, Nat.shiftLeft_eq]
  simp
end Go.Am
namespace Go.Am
theorem XQ (X : BitVec 64) : Int.fdiv (U X) 2 = U (X >>> 1) := Ei X 1
theorem XP (X : BitVec 64) : Int.fdiv (U X) 4 = U (X >>> 2) := Ei X 2
theorem XO (X : BitVec 64) : Int.fdiv (U X) 16 = U (X >>> 4) := Ei X 4
theorem XM (X : BitVec 64) : Int.fdiv (U X) 256 = U (X >>> 8) := Ei X 8
theorem VV (X : BitVec 64) : Int.fdiv (U X) 65536 = U (X >>> 16) := Ei X 16
theorem VU (X : BitVec 64) : Int.fdiv (U X) 4294967296 = U (X >>> 32) := Ei X 32
theorem XV (X : BitVec 64) : IntKind.wrap .u64 (U X * 2) = U (X <<< 1) := IE X 1
theorem XU (X : BitVec 64) : IntKind.wrap .u64 (U X * 4) = U (X <<< 2) := IE X 2
theorem XS (X : BitVec 64) : IntKind.wrap .u64 (U X * 16) = U (X <<< 4) := IE X 4
theorem XR (X : BitVec 64) : IntKind.wrap .u64 (U X * 256) = U (X <<< 8) := IE X 8
theorem VX (X : BitVec 64) : IntKind.wrap .u64 (U X * 65536) = U (X <<< 16) := IE X 16
theorem VW (X : BitVec 64) : IntKind.wrap .u64 (U X * 4294967296) = U (X <<< 32) := IE X 32
theorem yH (z : Int) : IntKind.wrap .i64 z = if 9223372036854775808 ≤ z % 18446744073709551616 then z % 18446744073709551616 - 18446744073709551616 else z % 18446744073709551616 := by
  simp [IntKind.wrap, IntKind.bits, IntKind.signed]
theorem wrap_i64 {z : Int} (h1 : -9223372036854775808 ≤ z) (h2 : z < 9223372036854775808) : IntKind.wrap .i64 z = z := by
  rw [yH]
  split <;> omega
def stage (s : Nat) (M x : BitVec 64) : BitVec 64 := ((x >>> s) &&& M) ||| ((x &&& M) <<< s)
def flip (s i : Nat) : Nat := if (i / s) % 2 = 0 then i + s else i - s
theorem iG {s : Nat} {M : BitVec 64} (x : BitVec 64) (hM : ∀ i, i < 64 → M.getLsbD i = decide ((i / s) % 2 = 0)) (h1 : ∀ i, i < 64 → (i / s) % 2 = 0 → i + s < 64 ∧ (i < s ∨ ((i - s) / s) % 2 ≠ 0)) (h2 : ∀ i, i < 64 → (i / s) % 2 ≠ 0 → s ≤ i ∧ ((i - s) / s) % 2 = 0) {i : Nat} (hi : i < 64) :
    (stage s M x).getLsbD i = x.getLsbD (flip s i) := by
  unfold stage flip
  simp only [BitVec.getLsbD_or, BitVec.getLsbD_and, BitVec.getLsbD_ushiftRight, BitVec.getLsbD_shiftLeft, hM i hi]
  by_cases h : (i / s) % 2 = 0
  · obtain ⟨a, b⟩ := h1 i hi h
    rw [if_pos h]
    rcases b with b | b
    · simp [h, b, hi, Nat.add_comm]
    · have hm : M.getLsbD (i - s) = false := by rw [hM _ (by omega)]; simp [b]
      simp [h, hm, Nat.add_comm]
  · obtain ⟨a, b⟩ := h2 i hi h
    rw [if_neg h]
    have hm : M.getLsbD (i - s) = true := by rw [hM _ (by omega)]; simp [b]
    simp [h, hm, hi]
    omega
def IN (X : BitVec 64) : BitVec 64 := stage 16 281470681808895#64 (stage 8 71777214294589695#64 (stage 4 1085102592571150095#64 (stage 2 3689348814741910323#64 (stage 1 6148914691236517205#64 X))))
def q8 (X : BitVec 64) : BitVec 64 := (IN X >>> 32) ||| (IN X <<< 32)
theorem oJ {s i : Nat} (hs : s = 1 ∨ s = 2 ∨ s = 4 ∨ s = 8 ∨ s = 16 ∨ s = 32) (hi : i < 64) : flip s i < 64 := by
  unfold flip; rcases hs with rfl | rfl | rfl | rfl | rfl | rfl <;> split <;> omega
theorem IM (X : BitVec 64) {i : Nat} (hi : i < 64) : (q8 X).getLsbD i = X.getLsbD (63 - i) := by
  have e5 : ∀ j, j < 64 → (IN X).getLsbD j = X.getLsbD (flip 1 (flip 2 (flip 4 (flip 8 (flip 16 j))))) := by
    intro j hj
    have l16 : flip 16 j < 64 := oJ (by simp) hj
    have l8 : flip 8 (flip 16 j) < 64 := oJ (by simp) l16
    have l4 : flip 4 (flip 8 (flip 16 j)) < 64 := oJ (by simp) l8
    have l2 : flip 2 (flip 4 (flip 8 (flip 16 j))) < 64 := oJ (by simp) l4
    unfold IN
    rw [iG _ (by decide +kernel) (by decide +kernel) (by decide +kernel) hj, iG _ (by decide +kernel) (by decide +kernel) (by decide +kernel) l16, iG _ (by decide +kernel) (by decide +kernel) (by decide +kernel) l8,
      iG _ (by decide +kernel) (by decide +kernel) (by decide +kernel) l4, iG _ (by decide +kernel) (by decide +kernel) (by decide +kernel) l2]
  have e : (q8 X).getLsbD i = (IN X).getLsbD (flip 32 i) := by
    unfold q8 flip
    simp only [BitVec.getLsbD_or, BitVec.getLsbD_ushiftRight, BitVec.getLsbD_shiftLeft]
    by_cases h : (i / 32) % 2 = 0
    · have : i < 32 := by omega
      rw [if_pos h]
      simp [this, Nat.add_comm]
    · have h' : ¬ i < 32 := by omega
      rw [if_neg h]
      have : (IN X).getLsbD (32 + i) = false := BitVec.getLsbD_of_ge _ _ (by omega)
      simp [h', this, hi]
  rw [e, e5 _ (oJ (by simp) hi)]
  congr 1
  have : ∀ k : Fin 64, flip 1 (flip 2 (flip 4 (flip 8 (flip 16 (flip 32 k.val))))) = 63 - k.val := by decide +kernel
  exact this ⟨i, hi⟩
end Go.Am
namespace Go.Am
def val : List Bool → Nat
  | [] => 0
  | b :: l => b.toNat + 2 * val l
theorem ji : ∀ l : List Bool, val l < 2 ^ l.length
  | [] => by decide
  | b :: l => by
    have := ji l
    have hb : b.toNat ≤ 1 := by cases b <;> decide
    rw [val, List.length_cons, Nat.pow_succ]
    omega
theorem val_append : ∀ l m : List Bool, val (l ++ m) = val l + 2 ^ l.length * val m
  | [], m => by simp [val]
  | b :: l, m => by
    rw [List.cons_append, val, val, val_append l m, List.length_cons, Nat.pow_succ, Nat.mul_add, Nat.mul_comm (2 ^ l.length) 2, Nat.mul_assoc]
    omega
theorem xa (l : List Bool) (k : Nat) (hk : k ≤ l.length) : val l = val (l.take k) + 2 ^ k * val (l.drop k) := by
  have := val_append (l.take k) (l.drop k)
  rw [List.take_append_drop, List.length_take, Nat.min_eq_left hk] at this
  exact this
theorem OK (l : List Bool) (k : Nat) (hk : k ≤ l.length) : val l % 2 ^ k = val (l.take k) := by
  rw [xa l k hk, Nat.add_mul_mod_self_left, Nat.mod_eq_of_lt]
  have := ji (l.take k)
  rwa [List.length_take, Nat.min_eq_left hk] at this
theorem OL (l : List Bool) (k : Nat) (hk : k ≤ l.length) : val l / 2 ^ k = val (l.drop k) := by
  have h := ji (l.take k)
  rw [List.length_take, Nat.min_eq_left hk] at h
  rw [xa l k hk, Nat.add_mul_div_left _ _ (Nat.pow_pos (by decide)), Nat.div_eq_of_lt h, Nat.zero_add]
def j9 (n L : Nat) : List Bool := (List.range n).map fun i => L.testBit i
@[simp] theorem bT (n L : Nat) : (j9 n L).length = n := by simp [j9]
theorem nP : ∀ (l : List Bool) (i : Nat), (val l).testBit i = l.getD i false
  | [], i => by simp [val]
  | b :: l, 0 => by
    rw [val, Nat.testBit_zero]
    cases b <;> simp <;> omega
  | b :: l, i + 1 => by
    rw [val, Nat.testBit_succ]
    have : (b.toNat + 2 * val l) / 2 = val l := by cases b <;> simp <;> omega
    rw [this, nP l i]
    simp
theorem pA (n L : Nat) : val (j9 n L) = L % 2 ^ n := by
  apply Nat.eq_of_testBit_eq
  intro i
  rw [nP, Nat.testBit_mod_two_pow]
  unfold j9
  by_cases h : i < n
  · simp [List.getD, h]
  · simp [List.getD, h]
def bh : Nat → List Bool → List Int
  | 0, _ => []
  | k + 1, m => (val (m.take 8) : Int) :: bh k (m.drop 8)
def bF (m : List Bool) : List Int := bh (m.length / 8) m
def cw (m : List Bool) : List Bool := m.drop (8 * (m.length / 8))
def aJ (m : List Bool) : Int := (val (cw m) : Int)
def nF (m : List Bool) : Int := ((m.length % 8 : Nat) : Int)
theorem js (m : List Bool) : (cw m).length = m.length % 8 := by
  unfold cw; rw [List.length_drop]; omega
theorem nm (k : Nat) : ∀ m, (bh k m).length = k := by
  induction k with
  | zero => intro m; rfl
  | succ k ih => intro m; rw [bh, List.length_cons, ih]
theorem zI (m : List Bool) : (bF m).length = m.length / 8 := nm _ _
theorem mP : ∀ (k : Nat) (m r : List Bool), 8 * k ≤ m.length → bh k (m ++ r) = bh k m
  | 0, _, _, _ => rfl
  | k + 1, m, r, h => by
    rw [bh, bh, List.take_append_of_le_length (by omega), List.drop_append_of_le_length (by omega), mP k _ r (by rw [List.length_drop]; omega)]
theorem ru : ∀ (k : Nat) (m : List Bool), bh (k + 1) m = bh k m ++ [(val ((m.drop (8 * k)).take 8) : Int)]
  | 0, m => by simp [bh]
  | k + 1, m => by
    rw [bh, ru k, bh, List.cons_append, List.drop_drop, show 8 + 8 * k = 8 * (k + 1) by omega]
theorem ug : ∀ (k j : Nat) (a q : List Bool), a.length = 8 * k → bh (k + j) (a ++ q) = bh k a ++ bh j q
  | 0, j, a, q, h => by
    have : a = [] := List.length_eq_zero_iff.1 (by omega)
    subst this; simp [bh]
  | k + 1, j, a, q, h => by
    rw [show k + 1 + j = (k + j) + 1 by omega, bh, bh, List.take_append_of_le_length (by omega), List.drop_append_of_le_length (by omega), ug k j _ q (by rw [List.length_drop]; omega), List.cons_append]
theorem parts (m s : List Bool) : bF (m ++ s) = bF m ++ bF (cw m ++ s) ∧ cw (m ++ s) = cw (cw m ++ s) ∧ nF (m ++ s) = nF (cw m ++ s) := by
  have hm : m = m.take (8 * (m.length / 8)) ++ cw m := (List.take_append_drop ..).symm
  have hl : (m.take (8 * (m.length / 8))).length = 8 * (m.length / 8) := by rw [List.length_take]; omega
  generalize hk : m.length / 8 = k at *
  generalize ha : m.take (8 * k) = a at *
  have hbm : bF m = bh k a := by
    unfold bF
    rw [hk]
    conv => lhs; rw [hm]
    exact mP k a _ (by omega)
  have e : m ++ s = a ++ (cw m ++ s) := by rw [← List.append_assoc, ← hm]
  generalize cw m ++ s = q at *
  have hlen : (a ++ q).length = 8 * k + q.length := by rw [List.length_append, hl]
  rw [e]
  refine ⟨?_, ?_, ?_⟩
  · rw [hbm]
    show bh ((a ++ q).length / 8) (a ++ q) = _
    rw [hlen, show (8 * k + q.length) / 8 = k + q.length / 8 by omega, ug k _ a q hl]
    rfl
  · show (a ++ q).drop (8 * ((a ++ q).length / 8)) = q.drop (8 * (q.length / 8))
    rw [hlen, show 8 * ((8 * k + q.length) / 8) = a.length + 8 * (q.length / 8) by omega, List.drop_append]
    simp
  · unfold nF
    rw [hlen]
    congr 1
    omega
theorem wrap_u8 (z : Int) : IntKind.wrap .u8 z = z % 256 := by
  simp [IntKind.wrap, IntKind.bits, IntKind.signed]
theorem LK {A B i j : Nat} (hA : A < 2 ^ i) (hB : B < 2 ^ j) (hij : i + j ≤ 62) :
    IntKind.wrap .i64 ((BitVec.toNat (BitVec.ofInt 64 (A : Int) ||| BitVec.ofInt 64 (IntKind.wrap .i64 ((B : Int) * 2 ^ min (Int.toNat (i : Int)) 64))) : Nat) : Int) = ((A + 2 ^ i * B : Nat) : Int) := by
  have h1 : min (Int.toNat (i : Int)) 64 = i := by simp; omega
  have h2 : (B : Int) * 2 ^ i = ((2 ^ i * B : Nat) : Int) := by rw [Nat.mul_comm]; simp
  have h3 : A + 2 ^ i * B < 2 ^ (i + j) := by
    rw [Nat.pow_add]
    have : 2 ^ i * (B + 1) ≤ 2 ^ i * 2 ^ j := Nat.mul_le_mul_left _ hB
    rw [Nat.mul_add] at this
    omega
  have h4 : 2 ^ (i + j) ≤ 4611686018427387904 := Nat.pow_le_pow_right (n := 2) (by decide) hij
  have h5 : 2 ^ i * B < 4611686018427387904 := by omega
  have h6 : A < 4611686018427387904 := by omega
  rw [h1, h2, wrap_i64 (z := ((2 ^ i * B : Nat) : Int)) (by omega) (by omega)]
  have e : (BitVec.ofInt 64 (A : Int) ||| BitVec.ofInt 64 ((2 ^ i * B : Nat) : Int)).toNat = A + 2 ^ i * B := by
    rw [BitVec.toNat_or, BitVec.ofInt_natCast, BitVec.ofInt_natCast, BitVec.toNat_ofNat, BitVec.toNat_ofNat, Nat.mod_eq_of_lt (by omega), Nat.mod_eq_of_lt (by omega), Nat.or_comm, ← Nat.two_pow_add_eq_or_of_lt hA]
    omega
  rw [e]
  exact wrap_i64 (by omega) (by omega)
theorem aY {α : Type} {p : Prop} [Decidable p] {a b : α} (h : p) : (if decide p = true then a else b) = a := if_pos (decide_eq_true h)
theorem aV {α : Type} {p : Prop} [Decidable p] {a b : α} (h : ¬ p) : (if decide p = true then a else b) = b := if_neg (by rw [decide_eq_true_eq]; exact h)
end Go.Am
