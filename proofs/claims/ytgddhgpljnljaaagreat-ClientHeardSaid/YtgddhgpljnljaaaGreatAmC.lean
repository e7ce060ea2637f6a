/- Regions, code, functions, rounds and rows: what the abstract machine tells holds in the model (no condition). -/
import Derived.Test.YtgddhgpljnljaaaGreatAmB
import Derived.Laws.Sem
import Derived.Below
import Derived.Carry
import Derived.WideKeyArgs
import Derived.ProofKit
set_option linter.unusedSimpArgs false
set_option linter.unusedVariables false
set_option linter.unusedSectionVars false
namespace Go.Am
noncomputable section
variable [PI : Inhabited Program]
def Gd (all : List Oper) (tm : List TV) (o : Oper) (b : Bool) : Prop :=
  match o.guard with
  | none => b = true
  | some (j, want) => match ((all[j]?).bind (·.dst)).map (fun t => tm.getD t .dead) with
    | some (.v (.bool q)) => b = (q == want)
    | some (.v _) => b = false
    | _ => False
abbrev Lg := List Nat × List Nat
inductive StepT (E : Env) (all : List Oper) (o : Oper) (st : St) : Lg → St → Prop
  | skip (h : Gd all st.tm o false) : StepT E all o st ([], []) { st with tm := putT st.tm o.dst undefT }
  | go (e : Eff) (ob : List (Nat × Ob)) (us : List Nat) (hg : Gd all st.tm o true) (h : ((opEv E (tvE st.tm) o (baseOf E.base o.dst)).run st.ob).to e) (ha : adds st.ob st.us e.new = some (ob, us)) :
      StepT E all o st ((opEv E (tvE st.tm) o (baseOf E.base o.dst)).reads st.ob, e.upd.map (·.1) ++ e.new.map (·.1)) { tm := putT st.tm o.dst e.val, ob := upds ob e.upd, us := us }
inductive RunT (E : Env) (all : List Oper) : List Oper → St → List Lg → St → Prop
  | nil (st : St) : RunT E all [] st [] st
  | cons {o : Oper} {r : List Oper} {st st1 st2 : St} {l : Lg} {ls : List Lg} (h : StepT E all o st l st1) (t : RunT E all r st1 ls st2) : RunT E all (o :: r) st (l :: ls) st2
theorem set_same {tm : List TV} {t : Nat} {x : TV} (h : tm.getD t .dead = x) (hd : x ≠ .dead) : tm.set t x = tm := by
  cases ht : tm[t]? with
  | none => rw [List.getD, ht] at h; exact (hd h.symm).elim
  | some y =>
    rw [List.getD, ht] at h
    simp only [Option.getD_some] at h
    subst h
    obtain ⟨hl, he⟩ := List.getElem?_eq_some_iff.1 ht
    rw [← he]
    exact List.set_getElem_self hl
theorem opsEv_to (E : Env) (all : List Oper) : ∀ (r : List Oper) (lg : List Lg) (st : St) (k : St → List Lg → Tr St) (x : St), (opsEv E all r lg st k).to x → ∃ st' ls, RunT E all r st ls st' ∧ (k st' (lg ++ ls)).to x
  | [], lg, st, k, x, h => ⟨st, [], .nil st, by rw [List.append_nil]; exact h⟩
  | o :: r, lg, st, k, x, h => by
    have skip : Gd all st.tm o false → (opsEv E all r (lg ++ [([], [])]) { st with tm := putT st.tm o.dst undefT } k).to x → ∃ st' ls, RunT E all (o :: r) st ls st' ∧ (k st' (lg ++ ls)).to x := by
      intro hg h
      obtain ⟨st', ls, h1, h2⟩ := opsEv_to E all r _ _ k x h
      exact ⟨st', _, .cons (.skip hg) h1, by simpa using h2⟩
    have go : Gd all st.tm o true → (((opEv E (tvE st.tm) o (baseOf E.base o.dst)).run st.ob).bind fun e => match adds st.ob st.us e.new with
        | some (ob, us) => opsEv E all r (lg ++ [((opEv E (tvE st.tm) o (baseOf E.base o.dst)).reads st.ob, e.upd.map (·.1) ++ e.new.map (·.1))]) { tm := putT st.tm o.dst e.val, ob := upds ob e.upd, us := us } k
        | none => .fail).to x → ∃ st' ls, RunT E all (o :: r) st ls st' ∧ (k st' (lg ++ ls)).to x := by
      intro hg h
      obtain ⟨e, h1, h2⟩ := Tr.to_bind h
      split at h2
      · rename_i ob us ha
        obtain ⟨st', ls, h3, h4⟩ := opsEv_to E all r _ _ k x h2
        exact ⟨st', _, .cons (.go e ob us hg h1 ha) h3, by simpa using h4⟩
      · exact (Tr.to_fail h2).elim
    unfold opsEv at h
    simp only [fEff_eq, fSp_eq, fNs_eq, getT_eq, setT_eq] at h
    split at h
    · rename_i hgd
      exact go (by unfold Gd; rw [hgd]) h
    · rename_i j want hgd
      split at h
      · exact (Tr.to_fail h).elim
      · rename_i t ht
        split at h
        · rename_i q hq
          have same : ∀ b, q = b → st.tm.set t (.v (.bool b)) = st.tm := fun b e =>
            set_same (by rw [hq, e]) (by intro e; cases e)
          have gd : ∀ b, b = (q == want) → Gd all st.tm o b := fun b e => by
            unfold Gd; rw [hgd]; simp only [ht, Option.map_some, hq]; exact e
          rcases Tr.to_ite h with ⟨hb, h⟩ | ⟨hb, h⟩
          · have e := same true hb
            cases want with
            | true => simp only [cond_true] at h; rw [e] at h; exact go (gd true (by rw [hb]; rfl)) h
            | false => simp only [cond_false] at h; rw [e] at h; exact skip (gd false (by rw [hb]; rfl)) h
          · have e := same false hb
            cases want with
            | true => simp only [cond_true] at h; rw [e] at h; exact skip (gd false (by rw [hb]; rfl)) h
            | false => simp only [cond_false] at h; rw [e] at h; exact go (gd true (by rw [hb]; rfl)) h
        · rename_i y hy hq
          refine skip ?_ h
          unfold Gd; rw [hgd]; simp only [ht, Option.map_some, hq]
        · exact (Tr.to_fail h).elim
section
variable {K : Ctx} {mu : Nat → Option Nat} {R : Nat → Prop} {w : World}
theorem Gd_wanted {all : List Oper} {ops : Array Oper} (hops : ops.toList = all) {st : St} {a : Act} (hS : Sim K st a mu R w) {o : Oper} {b : Bool} (h : Gd all st.tm o b) : Region.wanted o (yielded ops a.tmps) = b := by
  unfold Gd at h
  unfold Region.wanted
  split at h
  · rename_i hg
    rw [hg]; exact h.symm
  · rename_i j want hg
    rw [hg]
    have hj : ops[j]? = all[j]? := by rw [← hops]; simp
    cases hd : (all[j]?).bind (·.dst) with
    | none => rw [hd] at h; simp at h
    | some t =>
      rw [hd] at h
      simp only [Option.map_some] at h
      have hval : ∀ x, st.tm.getD t .dead = .v x → a.tmps[t]? = some x := by
        intro x hx
        cases ht : st.tm[t]? with
        | none => rw [List.getD, ht] at hx; cases hx
        | some y =>
          rw [List.getD, ht] at hx
          simp only [Option.getD_some] at hx
          subst hx
          have h1 := hS.slots t _ ht
          have h2 : a.tmps.getD t undef = x := h1
          have hlt : t < a.tmps.size := by rw [hS.len]; exact (List.getElem?_eq_some_iff.1 ht).1
          rw [← h2]
          simp [Array.getD_eq_getD_getElem?, hlt]
      simp only [yielded, hj, hd, Option.bind_some]
      split at h
      · rename_i q hq
        have hq : st.tm.getD t .dead = .v (.bool q) := by simpa using hq
        rw [hval _ hq, h]
        simp
      · rename_i y hy hq
        have hq : st.tm.getD t .dead = .v y := by simpa using hq
        rw [hval _ hq, h]
        cases y <;> first | rfl | exact (hy _ rfl).elim
      · exact h.elim
theorem step_wp {ro : Option Nat} {E : Env} (hE : EnvOK E) {all : List Oper} {ops : Array Oper} (hops : ops.toList = all) {st st' : St} {a : Act} (hS : Sim K st a mu R w) {i : Nat} {o : Oper} (hi : all[i]? = some o) {l : Lg} (h : StepT E all o st l st')
    {next : Act → World → Prop} {Q : Exit → Act → World → Prop} (hn : ∀ a' mu' R' w', Sim K st' a' mu' R' w' → next a' w') : wpOpIn (fen ro) 0 E.P ops Q i next a w := by
  have hi' : ops[i]? = some o := by rw [← hi, ← hops]; simp
  unfold wpOpIn
  rw [hi']
  simp only
  cases h with
  | skip hg =>
    rw [Gd_wanted hops hS hg]
    simp only [Bool.false_eq_true, if_false]
    exact ⟨fun _ _ => trivial, hn _ mu R w (hS.put o.dst (Ext.refl _) hS.mem rfl)⟩
  | go e ob us hg h ha =>
    rw [Gd_wanted hops hS hg]
    simp only [if_true]
    exact op_wp hE hS h ha fun v mu' R' w' hS' => hn _ mu' R' w' hS'
theorem wpOps_run {ro : Option Nat} {E : Env} (hE : EnvOK E) {all : List Oper} {ops : Array Oper} (hops : ops.toList = all) {Q : Exit → Act → World → Prop} : ∀ (r : List Oper) (k : Nat) (st st' : St) (ls : List Lg) (a : Act) (mu : Nat → Option Nat) (R : Nat → Prop) (w : World),
    (∀ j o, r[j]? = some o → all[k + j]? = some o) → RunT E all r st ls st' → Sim K st a mu R w → (∀ a' mu' R' w', Sim K st' a' mu' R' w' → Q .normal a' w') → wpOpsIn (fen ro) 0 E.P ops Q (List.range' k r.length) a w := by
  intro r
  induction r with
  | nil =>
    intro k st st' ls a mu R w _ h hS hQ
    cases h
    exact hQ a mu R w hS
  | cons o r ih =>
    intro k st st' ls a mu R w hj h hS hQ
    cases h with
    | cons h t =>
      rw [List.length_cons, List.range'_succ, wpOpsIn_cons]
      refine step_wp hE hops hS (hj 0 o rfl) h fun a' mu' R' w' hS' => ?_
      exact ih (k + 1) _ _ _ a' mu' R' w' (fun j o' ho' => by
        have := hj (j + 1) o' (by simpa using ho')
        rw [show k + 1 + j = k + (j + 1) by omega]; exact this) t hS' hQ
end
end
end Go.Am
namespace Go.Am
noncomputable section
variable [PI : Inhabited Program]
structure Alike (s t : St) : Prop where
  tm : s.tm = t.tm
  ob : ∀ i, fnd s.ob i = fnd t.ob i
  us : ∀ i, i ∈ s.us ↔ i ∈ t.us
theorem Alike.refl (s : St) : Alike s s := ⟨rfl, fun _ => rfl, fun _ => Iff.rfl⟩
theorem Alike.trans {a b c : St} (h : Alike a b) (k : Alike b c) : Alike a c := ⟨h.tm.trans k.tm, fun i => (h.ob i).trans (k.ob i), fun i => (h.us i).trans (k.us i)⟩
theorem Alike.symm {a b : St} (h : Alike a b) : Alike b a := ⟨h.tm.symm, fun i => (h.ob i).symm, fun i => (h.us i).symm⟩
theorem Alike.cx {s t : St} (h : Alike s t) (mu : Nat → Option Nat) (R : Nat → Prop) (w : World) : cx s.us s.ob mu R w = cx t.us t.ob mu R w := by
  unfold Am.cx
  rw [show fnd s.ob = fnd t.ob from funext h.ob, show (fun i => i ∈ s.us) = (fun i => i ∈ t.us) from funext fun i => propext (h.us i)]
theorem Alike.sim {K : Ctx} {s t : St} (h : Alike s t) {a : Act} {mu : Nat → Option Nat} {R : Nat → Prop} {w : World} (hS : Sim K s a mu R w) : Sim K t a mu R w := by
  refine ⟨h.cx mu R w ▸ hS.mem, h.tm ▸ hS.len, fun i x hx => ?_, hS.df, fun i hi => ⟨(h.us i).1 (hS.pin i hi).1, fun o' ho' => (hS.pin i hi).2 o' ((h.ob i).trans ho')⟩⟩
  rw [← h.cx mu R w]
  exact hS.slots i x (h.tm ▸ hx)
theorem run_congr {γ : Type} {ob ob' : List (Nat × Ob)} : ∀ (g : GTr γ), (∀ i ∈ g.reads ob, fnd ob i = fnd ob' i) → g.run ob = g.run ob' ∧ g.reads ob = g.reads ob'
  | .done t, _ => ⟨rfl, rfl⟩
  | .get id k, h => by
    have h0 : fnd ob id = fnd ob' id := h id (by simp [GTr.reads])
    have := run_congr (ob' := ob') (k (fnd ob id)) fun i hi => h i (by simp [GTr.reads, hi])
    simp only [GTr.run, GTr.reads]
    rw [← h0]
    exact ⟨this.1, by rw [this.2]⟩
  | .ite b t e, h => by
    have h1 := run_congr (ob' := ob') t fun i hi => h i (by simp [GTr.reads, hi])
    have h2 := run_congr (ob' := ob') e fun i hi => h i (by simp [GTr.reads, hi])
    simp only [GTr.run, GTr.reads]
    rw [h1.1, h2.1, h1.2, h2.2]
    exact ⟨rfl, rfl⟩
theorem fnd_upds : ∀ (u : List (Nat × Option Ob)), ∃ F : Nat → Option Ob, ∀ (ob : List (Nat × Ob)) (i : Nat), fnd (upds ob u) i = if i ∈ u.map (·.1) then F i else fnd ob i
  | [] => ⟨fun _ => none, fun ob i => by simp [upds]⟩
  | (id, x) :: r => by
    obtain ⟨F, hF⟩ := fnd_upds r
    refine ⟨fun i => if i ∈ r.map (·.1) then F i else x, fun ob i => ?_⟩
    rw [upds, hF, fnd_upd1]
    by_cases h1 : i ∈ r.map (·.1)
    · rw [if_pos h1, if_pos (by simp only [List.map_cons]; exact List.mem_cons_of_mem _ h1)]
      exact (if_pos h1).symm
    · rw [if_neg h1]
      by_cases h2 : i = id
      · rw [if_pos h2, if_pos (by simp [h2])]
        exact (if_neg h1).symm
      · rw [if_neg h2, if_neg (by simp only [List.map_cons, List.mem_cons]; exact fun h => h.elim h2 h1)]
def Fresh (us : List Nat) : List (Nat × Ob) → Prop
  | [] => True
  | (id, _) :: r => ¬ id ∈ us ∧ Fresh (id :: us) r
theorem Fresh.mono : ∀ (u : List (Nat × Ob)) (us us' : List Nat), (∀ i, i ∈ us' → i ∈ us) → Fresh us u → Fresh us' u
  | [], _, _, _, _ => trivial
  | (id, _) :: r, us, us', h, hf => ⟨fun hi => hf.1 (h _ hi), Fresh.mono r (id :: us) (id :: us') (fun i hi => by
      rcases List.mem_cons.1 hi with e | e
      · exact List.mem_cons.2 (.inl e)
      · exact List.mem_cons.2 (.inr (h i e))) hf.2⟩
theorem Fresh.more : ∀ (u : List (Nat × Ob)) (us us' : List Nat), (∀ i, i ∈ us' → i ∈ us ∨ ¬ i ∈ u.map (·.1)) → Fresh us u → Fresh us' u
  | [], _, _, _, _ => trivial
  | (id, _) :: r, us, us', h, hf => by
    refine ⟨fun hi => (h _ hi).elim hf.1 fun hn => hn (by simp), Fresh.more r (id :: us) (id :: us') (fun i hi => ?_) hf.2⟩
    rcases List.mem_cons.1 hi with e | e
    · exact .inl (List.mem_cons.2 (.inl e))
    · rcases h i e with k | k
      · exact .inl (List.mem_cons.2 (.inr k))
      · exact .inr fun hk => k (by simp only [List.map_cons]; exact List.mem_cons_of_mem _ hk)
theorem Fresh.not : ∀ (u : List (Nat × Ob)) (us : List Nat), Fresh us u → ∀ i ∈ u.map (·.1), ¬ i ∈ us
  | [], _, _, i, hi => by cases hi
  | (id, _) :: r, us, hf, i, hi => by
    rcases List.mem_cons.1 hi with e | e
    · exact e ▸ hf.1
    · exact fun h => Fresh.not r (id :: us) hf.2 i e (List.mem_cons_of_mem _ h)
theorem adds_some : ∀ (u : List (Nat × Ob)), ∃ F : Nat → Option Ob, ∀ (ob : List (Nat × Ob)) (us : List Nat),
    (∀ ob1 us1, adds ob us u = some (ob1, us1) → Fresh us u) ∧
    (Fresh us u → ∃ ob1 us1, adds ob us u = some (ob1, us1) ∧ (∀ i, fnd ob1 i = if i ∈ u.map (·.1) then F i else fnd ob i) ∧ ∀ i, i ∈ us1 ↔ i ∈ us ∨ i ∈ u.map (·.1))
  | [] => ⟨fun _ => none, fun ob us => ⟨fun _ _ _ => trivial, fun _ => ⟨ob, us, rfl, fun i => by simp, fun i => by simp⟩⟩⟩
  | (id, o) :: r => by
    obtain ⟨F, hF⟩ := adds_some r
    refine ⟨fun i => if i ∈ r.map (·.1) then F i else some o, fun ob us => ⟨fun ob1 us1 h => ?_, fun hf => ?_⟩⟩
    · rw [adds] at h
      cases hh : has us id with
      | true => rw [hh] at h; cases h
      | false =>
        rw [hh] at h
        exact ⟨fun hi => (by rw [(has_iff us id).2 hi] at hh; cases hh), (hF _ _).1 _ _ h⟩
    · obtain ⟨ob1, us1, h1, h2, h3⟩ := (hF ((id, o) :: ob) (id :: us)).2 hf.2
      refine ⟨ob1, us1, by rw [adds, has_false hf.1]; exact h1, fun i => ?_, fun i => ?_⟩
      · rw [h2 i, fnd_cons]
        by_cases k1 : i ∈ r.map (·.1)
        · rw [if_pos k1, if_pos (by simp only [List.map_cons]; exact List.mem_cons_of_mem _ k1)]; exact (if_pos k1).symm
        · rw [if_neg k1]
          by_cases k2 : i = id
          · rw [if_pos k2, if_pos (by simp [k2])]; exact (if_neg k1).symm
          · rw [if_neg k2, if_neg (by simp only [List.map_cons, List.mem_cons]; exact fun h => h.elim k2 k1)]
      · rw [h3 i]; simp only [List.mem_cons, List.map_cons]; exact ⟨fun h => h.elim (fun h => h.elim (fun h => .inr (.inl h)) .inl) fun h => .inr (.inr h), fun h => h.elim (fun h => .inl (.inr h)) fun h => h.elim (fun h => .inl (.inl h)) .inr⟩
structure Acts (st : St) (v : TV) (d : Option Tmp) (wr : List Nat) (nw : List (Nat × Ob)) (F : Nat → Option Ob) (st' : St) : Prop where
  tm : st'.tm = putT st.tm d v
  ob : ∀ i, fnd st'.ob i = if i ∈ wr then F i else fnd st.ob i
  us : ∀ i, i ∈ st'.us ↔ i ∈ st.us ∨ i ∈ nw.map (·.1)
  fresh : Fresh st.us nw
theorem eff_acts (e : Eff) : ∃ F : Nat → Option Ob, (∀ i ∈ e.new.map (·.1), i ∈ e.upd.map (·.1) ++ e.new.map (·.1)) ∧ ∀ (st : St) (d : Option Tmp),
    (∀ ob1 us1, adds st.ob st.us e.new = some (ob1, us1) → Acts st e.val d (e.upd.map (·.1) ++ e.new.map (·.1)) e.new F { tm := putT st.tm d e.val, ob := upds ob1 e.upd, us := us1 }) ∧
    (Fresh st.us e.new → ∃ ob1 us1, adds st.ob st.us e.new = some (ob1, us1)) := by
  obtain ⟨F, hF⟩ := fnd_upds e.upd
  obtain ⟨G, hG⟩ := adds_some e.new
  refine ⟨fun i => if i ∈ e.upd.map (·.1) then F i else G i, fun i hi => List.mem_append_right _ hi, fun st d => ⟨fun ob1 us1 h => ?_, fun hf => ?_⟩⟩
  · have hfr := (hG st.ob st.us).1 _ _ h
    obtain ⟨ob2, us2, h1, h2, h3⟩ := (hG st.ob st.us).2 hfr
    rw [h] at h1
    injection h1 with h1
    injection h1 with h1 h1'
    subst h1; subst h1'
    refine ⟨rfl, fun i => ?_, h3, hfr⟩
    simp only
    rw [hF, h2]
    by_cases k1 : i ∈ e.upd.map (·.1)
    · rw [if_pos k1, if_pos (List.mem_append_left _ k1)]; exact (if_pos k1).symm
    · rw [if_neg k1]
      by_cases k2 : i ∈ e.new.map (·.1)
      · rw [if_pos k2, if_pos (List.mem_append_right _ k2)]; exact (if_neg k1).symm
      · rw [if_neg k2, if_neg fun h => (List.mem_append.1 h).elim k1 k2]
  · obtain ⟨ob1, us1, h1, _⟩ := (hG st.ob st.us).2 hf
    exact ⟨ob1, us1, h1⟩
theorem opEv_congr (E : Env) {ρ ρ' : Operand → TV} (o : Oper) (b : Nat) (h : ∀ x ∈ o.op.operands, ρ x = ρ' x) : opEv E ρ o b = opEv E ρ' o b := by
  obtain ⟨dst, op, type, pos, after, guard⟩ := o
  have pairs : ∀ ps : Array (Nat × Operand), (∀ x ∈ ps.map (·.2), ρ x = ρ' x) →
      (ps.toList.map fun (i, x) => (i, ρ x)) = (ps.toList.map fun (i, x) => (i, ρ' x)) := fun ps hp =>
    List.map_congr_left fun p hm => by
      obtain ⟨i, x⟩ := p
      simp only [hp x (Array.mem_map.2 ⟨(i, x), by simpa using hm, rfl⟩)]
  cases op <;> simp only [Op.operands] at h <;> simp only [opEv]
  case build t ps => rw [pairs ps fun x hx => h x (by simpa using hx)]
  case buildSlice t n ps => rw [pairs ps fun x hx => h x (by simpa using hx)]
  case makeMap t r => cases r <;> simp_all
  case makeFunc fn first cap =>
    rw [List.map_congr_left (g := ρ') (l := first.toList) fun x hx => h x (by simp; exact .inl (by simpa using hx)), List.map_congr_left (g := ρ') (l := cap.toList) fun x hx => h x (by simp; exact .inr (by simpa using hx))]
  case call c =>
    have hargs : c.args.toList.map ρ = c.args.toList.map ρ' := List.map_congr_left fun x hx => h x (by simp [Call.operands]; exact .inr (by simpa using hx))
    cases hc : c.callee with
    | value f => have hf : ρ f = ρ' f := h f (by simp [Call.operands, hc]); simp only [hf, hargs]
    | invoke r m => rfl
    | builtin b => simp only [hargs]
  case slice t x lo hi mx => cases lo <;> cases hi <;> cases mx <;> simp_all
  all_goals (first | rfl | (simp_all; done))
theorem putT_get {tm : List TV} {d : Option Tmp} {x : TV} {t : Tmp} (h : d ≠ some t) : (putT tm d x).getD t .dead = tm.getD t .dead := by
  cases d with
  | none => rfl
  | some d =>
    have hne : d ≠ t := fun e => h (by rw [e])
    simp [putT, setT_eq, List.getD, List.getElem?_set_ne hne]
theorem putT_comm (tm : List TV) {d e : Option Tmp} (x y : TV) (h : ∀ t, d = some t → e ≠ some t) : putT (putT tm d x) e y = putT (putT tm e y) d x := by
  cases d with
  | none => rfl
  | some d =>
    cases e with
    | none => rfl
    | some e =>
      have hne : d ≠ e := fun he => h d rfl (he ▸ rfl)
      simp only [putT, setT_eq]
      exact List.set_comm _ _ hne
theorem opEv_put (E : Env) {ops : Array Oper} (o : Oper) (b : Nat) (tm : List TV) (d : Option Tmp) (x : TV) (h : ∀ t, d = some t → t ∉ o.looksAt ops) :
    opEv E (tvE (putT tm d x)) o b = opEv E (tvE tm) o b :=
  opEv_congr E o b fun y hy => by
    cases y with
    | tmp t => exact (getT_eq _ t).trans <| (putT_get fun e => h t e (List.mem_append_left _ (List.mem_filterMap.2 ⟨.tmp t, by simpa using hy, rfl⟩))).trans (getT_eq _ t).symm
    | _ => rfl
theorem Gd_put {all : List Oper} {ops : Array Oper} (hops : ops.toList = all) (o : Oper) (tm : List TV) (d : Option Tmp) (x : TV) (b : Bool) (h : ∀ t, d = some t → t ∉ o.looksAt ops) :
    Gd all (putT tm d x) o b ↔ Gd all tm o b := by
  unfold Gd
  cases hg : o.guard with
  | none => exact Iff.rfl
  | some gw =>
    obtain ⟨g, want⟩ := gw
    simp only
    cases ht : (all[g]?).bind (·.dst) with
    | none => exact Iff.rfl
    | some t =>
      simp only [Option.map_some]
      rw [putT_get fun e => h t e (by
        have : ops[g]? = all[g]? := by rw [← hops]; simp
        simp [Oper.looksAt, hg, this, ht])]
end
end Go.Am
namespace Go.Am
noncomputable section
variable [PI : Inhabited Program]
theorem Acts.alike {s t s' t' : St} {v : TV} {d : Option Tmp} {wr : List Nat} {nw : List (Nat × Ob)} {F : Nat → Option Ob} (h : Acts s v d wr nw F s') (k : Acts t v d wr nw F t') (hA : Alike s t) : Alike s' t' :=
  ⟨by rw [h.tm, k.tm, hA.tm], fun i => by rw [h.ob, k.ob, hA.ob], fun i => by rw [h.us, k.us, hA.us]⟩
theorem step_spec {E : Env} {all : List Oper} {o : Oper} {st st' : St} {l : Lg} (h : StepT E all o st l st') : ∃ v nw F, (∀ i ∈ nw.map (·.1), i ∈ l.2) ∧ Acts st v o.dst l.2 nw F st' ∧
    ∀ t : St, (∀ b, Gd all t.tm o b ↔ Gd all st.tm o b) → opEv E (tvE t.tm) o (baseOf E.base o.dst) = opEv E (tvE st.tm) o (baseOf E.base o.dst) → (∀ i ∈ l.1, fnd t.ob i = fnd st.ob i) → Fresh t.us nw →
      ∃ t', StepT E all o t l t' ∧ Acts t v o.dst l.2 nw F t' := by
  cases h with
  | skip hg =>
    refine ⟨undefT, [], fun _ => none, fun i hi => (by cases hi), ⟨rfl, fun i => by simp, fun i => by simp, trivial⟩, fun t hG _ _ _ => ⟨_, .skip ((hG false).2 hg), ⟨rfl, fun i => by simp, fun i => by simp, trivial⟩⟩⟩
  | go e ob us hg h ha =>
    obtain ⟨F, hn, hF⟩ := eff_acts e
    refine ⟨e.val, e.new, F, hn, (hF st o.dst).1 _ _ ha, fun t hG hE hr hf => ?_⟩
    obtain ⟨ob1, us1, h1⟩ := (hF t o.dst).2 hf
    have hrun := run_congr (opEv E (tvE st.tm) o (baseOf E.base o.dst)) (ob := st.ob) (ob' := t.ob) fun i hi => (hr i hi).symm
    refine ⟨_, ?_, (hF t o.dst).1 _ _ h1⟩
    have := StepT.go (E := E) (all := all) (o := o) (st := t) e ob1 us1 ((hG true).2 hg) (by rw [hE, ← hrun.1]; exact h) h1
    rw [hE, ← hrun.2] at this
    exact this
theorem step_congr {E : Env} {all : List Oper} {o : Oper} {st st' t : St} {l : Lg} (h : StepT E all o st l st') (hA : Alike st t) : ∃ t', StepT E all o t l t' ∧ Alike st' t' := by
  obtain ⟨v, nw, F, _, hact, hp⟩ := step_spec h
  obtain ⟨t', h1, h2⟩ := hp t (fun b => by rw [hA.tm]) (by rw [hA.tm]) (fun i _ => (hA.ob i).symm) (Fresh.mono _ _ _ (fun i hi => (hA.us i).2 hi) hact.fresh)
  exact ⟨t', h1, hact.alike h2 hA⟩
theorem meets_no {a b : List Nat} (h : meets a b = false) : ∀ i, i ∈ a → ¬ i ∈ b := fun i ha hb => by
  have : meets a b = true := by
    unfold meets
    exact List.any_eq_true.2 ⟨i, ha, List.any_eq_true.2 ⟨i, hb, beq_self i⟩⟩
  rw [this] at h; cases h
theorem step_swap {E : Env} {all : List Oper} {ops : Array Oper} (hops : ops.toList = all) {o1 o2 : Oper} {st s1 s2 : St} {l1 l2 : Lg} (hap : o1.apart ops o2 = true) (hw : meets l1.2 (l2.1 ++ l2.2) = false) (hr : meets l1.1 l2.2 = false)
    (h1 : StepT E all o1 st l1 s1) (h2 : StepT E all o2 s1 l2 s2) : ∃ sb s2', StepT E all o2 st l2 sb ∧ StepT E all o1 sb l1 s2' ∧ Alike s2 s2' := by
  obtain ⟨a1, a2, a3⟩ := Oper.apart_spec hap
  obtain ⟨v1, n1, F1, hn1, hA1, hp1⟩ := step_spec h1
  obtain ⟨v2, n2, F2, hn2, hA2, hp2⟩ := step_spec h2
  obtain ⟨sb, hsb, hAb⟩ := hp2 st (fun b => by rw [hA1.tm]; exact (Gd_put hops o2 st.tm o1.dst v1 b a1).symm) (by rw [hA1.tm]; exact (opEv_put E o2 _ st.tm o1.dst v1 a1).symm)
    (fun i hi => by rw [hA1.ob i, if_neg fun hk => meets_no hw i hk (List.mem_append_left _ hi)])
    (Fresh.mono _ _ _ (fun i hi => (hA1.us i).2 (.inl hi)) hA2.fresh)
  obtain ⟨s2', hs2, hAs⟩ := hp1 sb (fun b => by rw [hAb.tm]; exact Gd_put hops o1 st.tm o2.dst v2 b a3) (by rw [hAb.tm]; exact opEv_put E o1 _ st.tm o2.dst v2 a3)
    (fun i hi => by rw [hAb.ob, if_neg fun hk => meets_no hr i hi hk])
    (Fresh.more _ st.us _ (fun i hi => ((hAb.us i).1 hi).imp id fun hk hm => Fresh.not _ _ hA2.fresh i hk ((hA1.us i).2 (.inr hm))) hA1.fresh)
  refine ⟨sb, s2', hsb, hs2, ⟨?_, fun i => ?_, fun i => ?_⟩⟩
  · rw [hA2.tm, hAs.tm, hA1.tm, hAb.tm]
    exact putT_comm _ _ _ a2
  · rw [hA2.ob, hAs.ob, hA1.ob, hAb.ob]
    by_cases k2 : i ∈ l2.2
    · rw [if_pos k2, if_neg (fun hk => meets_no hw i hk (List.mem_append_right _ k2)), if_pos k2]
    · rw [if_neg k2]
      rw [if_neg k2]
  · rw [hA2.us, hAs.us, hA1.us, hAb.us]
    exact ⟨fun h => h.elim (fun h => h.elim (fun h => .inl (.inl h)) .inr) fun h => .inl (.inr h), fun h => h.elim (fun h => h.elim (fun h => .inl (.inl h)) .inr) fun h => .inl (.inr h)⟩
inductive RunI (E : Env) (all : List Oper) (lg : List Lg) : List Nat → St → St → Prop
  | nil (st : St) : RunI E all lg [] st st
  | cons {j : Nat} {o : Oper} {l : Lg} {r : List Nat} {st st1 st2 : St} (ho : all[j]? = some o) (hl : lg[j]? = some l) (h : StepT E all o st l st1) (t : RunI E all lg r st1 st2) : RunI E all lg (j :: r) st st2
theorem RunT.toI {E : Env} {all : List Oper} {lg : List Lg} : ∀ (r : List Oper) (k : Nat) (st st' : St) (ls : List Lg), (∀ j o, r[j]? = some o → all[k + j]? = some o) → (∀ j o, ls[j]? = some o → lg[k + j]? = some o) →
    RunT E all r st ls st' → RunI E all lg (List.range' k r.length) st st' := by
  intro r
  induction r with
  | nil => intro k st st' ls _ _ h; cases h; exact .nil _
  | cons o r ih =>
    intro k st st' ls hj hl h
    cases h with
    | cons h t =>
      rw [List.length_cons, List.range'_succ]
      exact .cons (hj 0 _ rfl) (hl 0 _ rfl) h (ih (k + 1) _ _ _ (fun j o' ho' => by
        have := hj (j + 1) o' (by simpa using ho')
        rw [show k + 1 + j = k + (j + 1) by omega]; exact this) (fun j o' ho' => by
        have := hl (j + 1) o' (by simpa using ho')
        rw [show k + 1 + j = k + (j + 1) by omega]; exact this) t)
theorem RunT.len {E : Env} {all : List Oper} : ∀ {r : List Oper} {st st' : St} {ls : List Lg}, RunT E all r st ls st' → ls.length = r.length
  | _, _, _, _, .nil _ => rfl
  | _, _, _, _, .cons _ t => by simp [t.len]
theorem runI_congr {E : Env} {all : List Oper} {lg : List Lg} {r : List Nat} {st st' : St} (h : RunI E all lg r st st') : ∀ {t : St}, Alike st t → ∃ t', RunI E all lg r t t' ∧ Alike st' t' := by
  induction h with
  | nil st => intro t hA; exact ⟨t, .nil t, hA⟩
  | cons ho hl h _ ih =>
    intro t hA
    obtain ⟨t1, h1, hA1⟩ := step_congr h hA
    obtain ⟨t', h2, hA2⟩ := ih hA1
    exact ⟨t', .cons ho hl h1 h2, hA2⟩
theorem apart2_spec {all : List Oper} {lg : List Lg} {i j : Nat} {a b : Oper} {la lb : Lg} (ha : all[i]? = some a) (hb : all[j]? = some b) (hla : lg[i]? = some la) (hlb : lg[j]? = some lb) (h : apart2 all lg i j = true) :
    a.apart all.toArray b = true ∧ meets la.2 (lb.1 ++ lb.2) = false ∧ meets la.1 lb.2 = false := by
  unfold apart2 at h
  rw [ha, hb, hla, hlb] at h
  simp only [Bool.and_eq_true, Bool.not_eq_true'] at h
  exact ⟨h.1.1, h.1.2, h.2⟩
theorem runI_front {E : Env} {all : List Oper} {lg : List Lg} {j : Nat} {q : List Nat} : ∀ (p : List Nat) (st st' : St), RunI E all lg (p ++ j :: q) st st' → (∀ i ∈ p, apart2 all lg i j = true) →
    ∃ o l s1 s2, all[j]? = some o ∧ lg[j]? = some l ∧ StepT E all o st l s1 ∧ RunI E all lg (p ++ q) s1 s2 ∧ Alike st' s2 := by
  intro p
  induction p with
  | nil =>
    intro st st' h _
    cases h with
    | cons ho hl h t => exact ⟨_, _, _, _, ho, hl, h, t, Alike.refl _⟩
  | cons i p ih =>
    intro st st' h hap
    rw [List.cons_append] at h
    cases h with
    | cons ho hl h t =>
      obtain ⟨o2, l2, s1, s2, ho2, hl2, hs, hr, hA⟩ := ih _ _ t fun k hk => hap k (List.mem_cons_of_mem _ hk)
      obtain ⟨x1, x2, x3⟩ := apart2_spec ho ho2 hl hl2 (hap i (List.mem_cons_self ..))
      obtain ⟨sb, s3, y1, y2, y3⟩ := step_swap (ops := all.toArray) (by simp) x1 x2 x3 h hs
      obtain ⟨s4, z1, z2⟩ := runI_congr hr y3
      exact ⟨o2, l2, sb, s4, ho2, hl2, y1, .cons ho hl y2 z1, hA.trans z2⟩
theorem mem_ins {acc : List Nat} {x y : Nat} (h : y ∈ ins acc x) : y ∈ acc ∨ y = x := by
  unfold ins at h
  cases hh : has acc x with
  | true => rw [hh] at h; exact .inl h
  | false => rw [hh] at h; exact (List.mem_cons.1 h).symm
theorem mem_uni {y : Nat} : ∀ (b a : List Nat), y ∈ uni a b → y ∈ a ∨ y ∈ b
  | [], a, h => .inl h
  | x :: b, a, h => (mem_uni b (ins a x) h).elim (fun h => (mem_ins h).elim .inl fun h => .inr (h ▸ List.mem_cons_self ..)) fun h => .inr (List.mem_cons_of_mem _ h)
theorem mem_fold {acc : List (List Nat)} {x : Nat} : ∀ (ds s : List Nat), x ∈ ds.foldl (fun s d => bif has s d then s else uni (d :: s) (acc.getD d [])) s → x ∈ s ∨ ∃ d ∈ ds, x = d ∨ x ∈ acc.getD d []
  | [], s, h => .inl h
  | d :: ds, s, h => by
    rcases mem_fold ds _ h with h | ⟨e, he, h⟩
    · cases hh : has s d with
      | true => simp only [hh, cond_true] at h; exact .inl h
      | false =>
        simp only [hh, cond_false] at h
        rcases mem_uni _ _ h with h | h
        · rcases List.mem_cons.1 h with h | h
          · exact .inr ⟨d, List.mem_cons_self .., .inl h⟩
          · exact .inl h
        · exact .inr ⟨d, List.mem_cons_self .., .inr h⟩
    · exact .inr ⟨e, List.mem_cons_of_mem _ he, h⟩
theorem depsGo_spec : ∀ (r : List Oper) (acc : List (List Nat)), ∃ tail, depsGo r acc = acc ++ tail ∧ tail.length = r.length ∧ ∀ i o x, r[i]? = some o → x ∈ tail.getD i [] → ∃ d ∈ direct o, x = d ∨ x ∈ (acc ++ tail).getD d []
  | [], acc => ⟨[], by simp [depsGo], rfl, fun i o x h => by simp at h⟩
  | o :: r, acc => by
    obtain ⟨tail, h1, h2, h3⟩ := depsGo_spec r (acc ++ [(direct o).foldl (fun s d => bif has s d then s else uni (d :: s) (acc.getD d [])) []])
    refine ⟨(direct o).foldl (fun s d => bif has s d then s else uni (d :: s) (acc.getD d [])) [] :: tail, by rw [depsGo, h1]; simp, by simp [h2], fun i o' x hi hx => ?_⟩
    cases i with
    | zero =>
      simp only [List.getElem?_cons_zero, Option.some.injEq] at hi
      subst hi
      simp only [List.getD_cons_zero] at hx
      rcases mem_fold _ _ hx with h | ⟨d, hd, h⟩
      · cases h
      · refine ⟨d, hd, h.imp id fun h => ?_⟩
        by_cases hl : d < acc.length
        · simpa [List.getD, List.getElem?_append_left hl] using h
        · simp [List.getD, List.getElem?_eq_none (Nat.le_of_not_lt hl)] at h
    | succ i =>
      obtain ⟨d, hd, h⟩ := h3 i o' x (by simpa using hi) (by simpa using hx)
      exact ⟨d, hd, h.imp id fun h => by simpa using h⟩
theorem deps_spec (ops : List Oper) : (deps ops).length = ops.length ∧ ∀ i o x, ops[i]? = some o → x ∈ (deps ops).getD i [] → ∃ d ∈ direct o, x = d ∨ x ∈ (deps ops).getD d [] := by
  obtain ⟨tail, h1, h2, h3⟩ := depsGo_spec ops []
  rw [List.nil_append] at h1
  unfold deps
  rw [h1]
  exact ⟨h2, fun i o x ho hx => by simpa using h3 i o x ho hx⟩
section
variable {K : Ctx}
theorem wpAny_run {ro : Option Nat} {E : Env} (hE : EnvOK E) {all : List Oper} {ops : Array Oper} (hops : ops.toList = all) {Q : Exit → Act → World → Prop} {lg : List Lg} (hb : backB all = true)
    (hap : ∀ j, j < all.length → ∀ i, i < j → i ∈ (deps all).getD j [] ∨ apart2 all lg i j = true) : ∀ (fuel : Nat) (rem : List Nat) (listed : Array Bool) (st st' se : St) (a : Act) (mu : Nat → Option Nat) (R : Nat → Prop) (w : World),
    rem.length = fuel → rem.Pairwise (· < ·) → (∀ k, k ∈ rem ↔ (k < all.length ∧ listed.getD k true = false)) → (∀ k, ¬ k ∈ rem → ∀ d ∈ (deps all).getD k [], ¬ d ∈ rem) → listed.size = all.length →
    RunI E all lg rem st st' → Alike st' se → Sim K st a mu R w → (∀ a' mu' R' w', Sim K se a' mu' R' w' → Q .normal a' w') → wpAnyIn (fen ro) 0 E.P .any ops Q fuel listed a w := by
  intro fuel
  induction fuel with
  | zero =>
    intro rem listed st st' se a mu R w hlen hpw hmem hcl hsz hrun hA hS hQ
    have : rem = [] := List.length_eq_zero_iff.1 hlen
    subst this
    cases hrun
    refine ⟨List.eq_nil_iff_forall_not_mem.2 fun j hj => ?_, hQ _ _ _ _ (hA.sim hS)⟩
    obtain ⟨h0, o, ho, _⟩ := mem_ready.1 hj
    have := (hmem j).2 ⟨by rw [← hops]; simpa using (Array.getElem?_eq_some_iff.1 ho).1, h0⟩
    cases this
  | succ fuel ih =>
    intro rem listed st st' se a mu R w hlen hpw hmem hcl hsz hrun hA hS hQ
    have hget : ∀ j : Nat, ops[j]? = all[j]? := fun j => by rw [← hops, Array.getElem?_toList]
    refine ⟨fun hnil => ?_, fun j hj => ?_⟩
    · exfalso
      cases rem with
      | nil => cases hlen
      | cons j r =>
        have hj := (hmem j).1 (List.mem_cons_self ..)
        have : j ∈ Region.ready .any ops listed := by
          rw [mem_ready]
          refine ⟨hj.2, all[j], by rw [hget]; simp [hj.1], fun e he hbd => ?_⟩
          have hlt : e.on < j := by
            unfold backB at hb
            have := List.all_eq_true.1 hb j (List.mem_range.2 hj.1)
            rw [List.getElem?_eq_getElem hj.1] at this
            have := List.all_eq_true.1 this e.on (by unfold direct; exact List.mem_map.2 ⟨e, List.mem_filter.2 ⟨by simpa using he, hbd⟩, rfl⟩)
            exact Nat.blt_eq ▸ this
          have hn : ¬ e.on ∈ j :: r := fun hm => by
            rcases List.mem_cons.1 hm with h | h
            · omega
            · have := (List.pairwise_cons.1 hpw).1 _ h
              omega
          have h2 : listed.getD e.on true ≠ false := fun h => hn ((hmem _).2 ⟨by omega, h⟩)
          have hs : e.on < listed.size := by omega
          simp [hs] at h2 ⊢
          exact h2
        rw [hnil] at this
        cases this
    · obtain ⟨h0, o0, ho0, hall⟩ := mem_ready.1 hj
      have hjl : j < all.length := by
        rw [← hops]; simpa using (Array.getElem?_eq_some_iff.1 ho0).1
      have hjm : j ∈ rem := (hmem j).2 ⟨hjl, h0⟩
      have hdep : ∀ d ∈ (deps all).getD j [], ¬ d ∈ rem := fun x hx => by
        obtain ⟨d, hd, h⟩ := (deps_spec all).2 j o0 x (by rw [← hget]; exact ho0) hx
        have hdr : ¬ d ∈ rem := fun hm => by
          unfold direct at hd
          obtain ⟨e, he, hed⟩ := List.mem_map.1 hd
          obtain ⟨he1, he2⟩ := List.mem_filter.1 he
          have := hall e (by simpa using he1) he2
          rw [hed] at this
          have hk := ((hmem d).1 hm)
          have hs : d < listed.size := by omega
          have h3 := hk.2
          simp [hs] at this h3
          rw [h3] at this
          cases this
        rcases h with h | h
        · exact h ▸ hdr
        · exact hcl d hdr x h
      obtain ⟨p, q, hpq⟩ := List.append_of_mem hjm
      subst hpq
      have hpw' := List.pairwise_append.1 hpw
      have hlt : ∀ i ∈ p, i < j := fun i hi => hpw'.2.2 i hi j (List.mem_cons_self ..)
      have hgt : ∀ i ∈ q, j < i := fun i hi => (List.pairwise_cons.1 hpw'.2.1).1 i hi
      obtain ⟨o, l, s1, s2, ho, hl, hs, hr, hA2⟩ := runI_front p _ _ hrun fun i hi => (hap j hjl i (hlt i hi)).resolve_left fun hd => hdep i hd (List.mem_append_left _ hi)
      have hmem' : ∀ k, k ∈ p ++ q ↔ k ∈ p ++ j :: q ∧ k ≠ j := fun k => by
        simp only [List.mem_append, List.mem_cons]
        constructor
        · rintro (h | h)
          · exact ⟨.inl h, by have := hlt k h; omega⟩
          · exact ⟨.inr (.inr h), by have := hgt k h; omega⟩
        · rintro ⟨h | h | h, hne⟩
          · exact .inl h
          · exact absurd h hne
          · exact .inr h
      refine step_wp hE hops hS ho hs fun a' mu' R' w' hS' => ?_
      refine ih (p ++ q) (listed.setIfInBounds j true) s1 s2 se a' mu' R' w' ?_ ?_ ?_ ?_ ?_ hr (hA2.symm.trans hA) hS' hQ
      · simp only [List.length_append, List.length_cons] at hlen ⊢; omega
      · exact hpw.sublist (List.Sublist.append_left (List.sublist_cons_self ..) _)
      · intro k
        rw [hmem' k, hmem k]
        constructor
        · rintro ⟨⟨h1, h2⟩, h3⟩
          exact ⟨h1, by rw [getD_set_ne true (Ne.symm h3)]; exact h2⟩
        · rintro ⟨h1, h2⟩
          have hne : k ≠ j := fun e => by
            subst e
            have hs : k < listed.size := by omega
            simp [hs] at h2
          rw [getD_set_ne true (Ne.symm hne)] at h2
          exact ⟨⟨h1, h2⟩, hne⟩
      · intro k hk d hd
        have hsub : ∀ x, x ∈ p ++ q → x ∈ p ++ j :: q := fun x hx => ((hmem' x).1 hx).1
        by_cases e : k = j
        · subst e
          exact fun hm => hdep d hd (hsub d hm)
        · exact fun hm => hcl k (fun hm' => hk ((hmem' k).2 ⟨hm', e⟩)) d hd (hsub d hm)
      · simpa using hsz
theorem meets_nil (a : List Nat) : meets a [] = false := by
  unfold meets
  induction a with
  | nil => rfl
  | cons x l ih => simp [List.any_cons] at ih ⊢
theorem lgOf_mem : ∀ (lg : List Lg) (n i : Nat) (l : Lg), lg[i]? = some l → lgFull l = true → (n + i, l) ∈ lgOf n lg
  | [], n, i, l, h, _ => by simp at h
  | a :: lg, n, 0, l, h, hf => by
    simp at h
    subst h
    unfold lgOf
    rw [hf]
    exact List.mem_cons_self ..
  | a :: lg, n, i + 1, l, h, hf => by
    simp at h
    have := lgOf_mem lg (n + 1) i l h hf
    rw [show n + 1 + i = n + (i + 1) by omega] at this
    unfold lgOf
    cases hb : lgFull a with
    | true => exact List.mem_cons_of_mem _ this
    | false => exact this
theorem lgOf_ge : ∀ (lg : List Lg) (n : Nat) (q : Nat × Lg), q ∈ lgOf n lg → n ≤ q.1
  | [], n, q, h => by cases h
  | a :: lg, n, q, h => by
    unfold lgOf at h
    cases hb : lgFull a with
    | true =>
      rw [hb] at h
      rcases List.mem_cons.1 h with rfl | h
      · exact Nat.le_refl _
      · have := lgOf_ge lg (n + 1) q h; omega
    | false =>
      rw [hb] at h
      have := lgOf_ge lg (n + 1) q h; omega
theorem apartD_spec {ds : List (List Nat)} : ∀ (lg : List Lg) (n : Nat), apartD ds (lgOf n lg) = true → ∀ i j ra wa rb wb, i < j → (i, ra, wa) ∈ lgOf n lg → (j, rb, wb) ∈ lgOf n lg → has (ds.getD j []) i = true ∨ (meets wa (rb ++ wb) = false ∧ meets ra wb = false)
  | [], n, _, i, j, ra, wa, rb, wb, _, h, _ => by cases h
  | a :: lg, n, hD, i, j, ra, wa, rb, wb, hij, hi, hj => by
    unfold lgOf at hD hi hj
    cases hb : lgFull a with
    | false =>
      rw [hb] at hD hi hj
      exact apartD_spec lg (n + 1) hD i j ra wa rb wb hij hi hj
    | true =>
      rw [hb] at hD hi hj
      simp only [cond_true] at hD hi hj
      obtain ⟨a1, a2⟩ := a
      simp only [apartD, Bool.and_eq_true] at hD
      rcases List.mem_cons.1 hi with e | hi'
      · cases e
        rcases List.mem_cons.1 hj with e | hj'
        · cases e; omega
        · have := List.all_eq_true.1 hD.1 _ hj'
          simp only [Bool.or_eq_true, Bool.and_eq_true, Bool.not_eq_true'] at this
          exact this
      · rcases List.mem_cons.1 hj with e | hj'
        · cases e
          have := lgOf_ge lg _ _ hi'
          simp only at this
          omega
        · exact apartD_spec lg (n + 1) hD.2 i j ra wa rb wb hij hi' hj'
theorem apartB_spec {all : List Oper} {lg : List Lg} (h : apartB all lg = true) : backB all = true ∧ ∀ j, j < all.length → ∀ i, i < j → i ∈ (deps all).getD j [] ∨ apart2 all lg i j = true := by
  unfold apartB at h
  simp only [Bool.and_eq_true] at h
  obtain ⟨⟨hS, hlen⟩, hD⟩ := h
  have hlen := Nat.eq_of_beq_eq_true hlen
  unfold apartS at hS
  simp only [Bool.and_eq_true] at hS
  refine ⟨hS.1, fun j hj i hi => ?_⟩
  have h1 := List.all_eq_true.1 (List.all_eq_true.1 hS.2 j (List.mem_range.2 hj)) i (List.mem_range.2 hi)
  have e1 : all[i]? = some all[i] := List.getElem?_eq_getElem (by omega)
  have e2 : all[j]? = some all[j] := List.getElem?_eq_getElem hj
  have e3 : lg[i]? = some lg[i] := List.getElem?_eq_getElem (by omega)
  have e4 : lg[j]? = some lg[j] := List.getElem?_eq_getElem (by omega)
  rw [e1, e2] at h1
  rcases Bool.or_eq_true _ _ |>.mp h1 with h | h
  · exact .inl ((has_iff _ _).1 h)
  · unfold apart2
    rw [e1, e2, e3, e4]
    generalize hA : lg[i] = A at *
    generalize hB : lg[j] = B at *
    obtain ⟨ra, wa⟩ := A
    obtain ⟨rb, wb⟩ := B
    simp only at h ⊢
    rw [h]
    cases fA : lgFull (ra, wa) with
    | false =>
      have : ra = [] ∧ wa = [] := by
        unfold lgFull at fA
        split at fA
        · rename_i e; cases e; exact ⟨rfl, rfl⟩
        · cases fA
      obtain ⟨rfl, rfl⟩ := this
      exact .inr rfl
    | true =>
      cases fB : lgFull (rb, wb) with
      | false =>
        have : rb = [] ∧ wb = [] := by
          unfold lgFull at fB
          split at fB
          · rename_i e; cases e; exact ⟨rfl, rfl⟩
          · cases fB
        obtain ⟨rfl, rfl⟩ := this
        right
        rw [List.append_nil, meets_nil, meets_nil]
        rfl
      | true =>
        have m1 := lgOf_mem lg 0 i _ e3 fA
        have m2 := lgOf_mem lg 0 j _ e4 fB
        rw [Nat.zero_add] at m1 m2
        rcases apartD_spec lg 0 hD i j ra wa rb wb hi m1 m2 with h | ⟨h2, h3⟩
        · exact .inl ((has_iff _ _).1 h)
        · right
          rw [h2, h3]
          rfl
theorem region_wp {ro : Option Nat} {E : Env} (hE : EnvOK E) {id : Nat} {ops : Array Oper} {draw : Bool} {st st' : St} {a : Act} {mu : Nat → Option Nat} {R : Nat → Prop} {w : World} (hS : Sim K st a mu R w) (h : (regionEv E ops.toList draw st).to st') {Q : Exit → Act → World → Prop}
    (hQ : ∀ a' mu' R' w', Sim K st' a' mu' R' w' → Q .normal a' w') : (Code.region id ops draw).wpIn (fen ro) 0 E.P Q a w := by
  unfold regionEv at h
  rw [fSt_eq] at h
  have hE0 := hE
  generalize hEE : ({ E with base := 1000000 * st.us.length } : Env) = F at h
  have hP : F.P = E.P := by rw [← hEE]
  have hE : EnvOK F := by rw [← hEE]; exact ⟨hE.prog, hE.ne, hE.str, hE.call, hE.rnd, hE.mixed⟩
  rw [← hP]
  obtain ⟨s, ls, hrun, h⟩ := opsEv_to F _ _ _ _ _ _ h
  rw [List.nil_append] at h
  cases draw with
  | false =>
    have := Tr.to_ret h
    subst this
    refine wpIn_region ?_
    rw [List.range_eq_range']
    have := wpOps_run (ro := ro) hE (K := K) (ops := ops) rfl (Q := Q) ops.toList 0 st s ls a mu R w (fun j o h => by simpa using h) hrun hS hQ
    simpa using this
  | true =>
    simp only [if_true] at h
    cases hb : apartB ops.toList ls with
    | false => rw [hb] at h; exact (Tr.to_fail h).elim
    | true =>
      rw [hb] at h
      have := Tr.to_ret h
      subst this
      obtain ⟨hback, hap⟩ := apartB_spec hb
      refine wpIn_region_any hE.mixed ?_
      have hI := hrun.toI (lg := ls) ops.toList 0 st s ls (fun j o h => by simpa using h) (fun j o h => by simpa using h)
      refine wpAny_run hE rfl hback hap ops.size (List.range' 0 ops.toList.length) _ st s s a mu R { w with drawn := w.drawn + 1 } (by simp) (List.pairwise_lt_range' ..) (fun k => ?_) (fun k hk d hd => ?_) (by simp) hI (Alike.refl _) ?_ hQ
      · simp
        intro hk
        simp [hk]
      · have hl : ¬ k < ops.toList.length := fun hlt => hk (by simpa using hlt)
        have hd' := (deps_spec ops.toList).1
        simp [List.getD, List.getElem?_eq_none (show (deps ops.toList).length ≤ k by omega)] at hd
      · exact hS.put none (x := undefT) (v := undef) (Ext.grow hS.mem.rlt (Grow.drew w)) (hS.mem.grow (Grow.drew w)) rfl
end
end
end Go.Am
namespace Go.Am
noncomputable section
variable [PI : Inhabited Program]
def exK : Ex → Exit
  | .normal => .normal
  | .exit i => .exit i
  | .ret => .ret
def Post (K : Ctx) (Q : Exit → Act → World → Prop) (ex : Ex) (st : St) : Prop := ∀ a mu R w, Sim K st a mu R w → Q (exK ex) a w
def CutOK (P : Program) (ro : Option Nat) (n : Nat) (pins : List Nat) (c : Code) (C : Cut) : Prop :=
  ∀ pk ex pk', (C.orc pk).to (ex, pk') → ∀ (K : Ctx) a mu R w Q, K.pins = pins → Sim K (inSt n C.live pk) a mu R w → Post K Q ex (inSt n (C.out ex) pk') → c.wpIn (fen ro) 0 P Q a w
def codeOf (root : Code) : Nat → Nat → Option Code
  | 0, _ => none
  | n + 1, q => bif Nat.beq q 1 then some root else match codeOf root n (q / 2) with
    | some (.seq a b) => some (bif Nat.beq (q % 2) 0 then a else b)
    | some (.cond _ a b) => some (bif Nat.beq (q % 2) 0 then a else b)
    | some (.block _ c) => bif Nat.beq (q % 2) 0 then some c else none
    | some (.loop c) => bif Nat.beq (q % 2) 0 then some c else none
    | some (.scope c) => bif Nat.beq (q % 2) 0 then some c else none
    | some (.rangeFunc _ _ a b) => some (bif Nat.beq (q % 2) 0 then a else b)
    | _ => none
theorem At.pos {root : Code} {q : Nat} {c : Code} (h : At root q c) : 0 < q := by
  induction h <;> omega
theorem At.codeOf {root : Code} {q : Nat} {c : Code} (h : At root q c) : ∀ n, q < 2 ^ n → codeOf root n q = some c := by
  have key0 : ∀ p : Nat, (2 * p) / 2 = p := fun p => by omega
  have key1 : ∀ p : Nat, (2 * p + 1) / 2 = p := fun p => by omega
  have m0 : ∀ p : Nat, Nat.beq ((2 * p) % 2) 0 = true := fun p => by rw [Nat.mul_mod_right]; rfl
  have m1 : ∀ p : Nat, Nat.beq ((2 * p + 1) % 2) 0 = false := fun p => by rw [show (2 * p + 1) % 2 = 1 by omega]; rfl
  have one : ∀ q : Nat, q ≠ 1 → Nat.beq q 1 = false := fun q h => beq_ne h
  induction h with
  | root => intro n hn; cases n with
    | zero => exact absurd hn (by decide)
    | succ n => rfl
  | seqL h ih | condT h ih | block h ih | loop h ih | scope h ih | rfA h ih =>
    intro n hn
    cases n with
    | zero => have := h.pos; simp at hn; omega
    | succ n =>
      rw [Am.codeOf, one _ (by omega), cond_false, key0, ih n (by rw [Nat.pow_succ] at hn; omega)]
      simp only [m0, cond_true]
  | seqR h ih | condE h ih | rfB h ih =>
    intro n hn
    cases n with
    | zero => simp at hn
    | succ n =>
      have := h.pos
      rw [Am.codeOf, one _ (by omega), cond_false, key1, ih n (by rw [Nat.pow_succ] at hn; omega)]
      simp only [m1, cond_false]
def CutsOK (E : Env) (ro : Option Nat) (n : Nat) (pins : List Nat) (root : Code) : Prop := ∀ q c C, At root q c → E.cut q = some C → CutOK E.P ro n pins c C
theorem putT_len (tm : List TV) (d : Option Tmp) (x : TV) : (putT tm d x).length = tm.length := by
  cases d <;> simp [putT, setT_eq]
theorem runT_len {E : Env} {all : List Oper} : ∀ {r : List Oper} {st st' : St} {ls : List Lg}, RunT E all r st ls st' → st'.tm.length = st.tm.length
  | _, _, _, _, .nil _ => rfl
  | _, _, _, _, .cons h t => by
    rw [runT_len t]
    cases h <;> exact putT_len ..
theorem sets_len : ∀ (l : List (Nat × TV)) (tm : List TV), (l.foldl (fun l (t, x) => l.set t x) tm).length = tm.length
  | [], _ => rfl
  | (t, x) :: r, tm => by rw [List.foldl_cons, sets_len r]; simp
theorem inSt_tm (n : Nat) (live : List Nat) (pk : Pk) : (inSt n live pk).tm = (live.zip pk.roots).foldl (fun l (t, x) => l.set t x) (List.replicate n .dead) := by
  unfold inSt
  simp only [setT_eq]
theorem inSt_len (n : Nat) (live : List Nat) (pk : Pk) : (inSt n live pk).tm.length = n := by
  rw [inSt_tm, sets_len]
  simp
theorem sets_get : ∀ (l : List (Nat × TV)) (tm : List TV) (i : Nat) (x : TV), (l.foldl (fun l (t, x) => l.set t x) tm)[i]? = some x → tm[i]? = some x ∨ (i, x) ∈ l
  | [], _, _, _, h => .inl h
  | (t, y) :: r, tm, i, x, h => by
    rw [List.foldl_cons] at h
    rcases sets_get r _ i x h with h | h
    · simp only [List.getElem?_set] at h
      by_cases e : t = i
      · subst e
        by_cases hl : t < tm.length
        · simp [hl] at h
          subst h
          exact .inr (List.mem_cons_self ..)
        · simp [hl] at h
      · simp [e] at h
        exact .inl h
    · exact .inr (List.mem_cons_of_mem _ h)
theorem fnd_obsL (pk : Pk) (i : Nat) : fnd (obsL pk) i = pk.fd i := by
  unfold obsL Pk.fd
  have key : ∀ (l : List (Option Ob)) (k i : Nat), fnd ((l.zipIdx k).filterMap fun (o, i) => o.map fun ob => (i, ob)) (k + i) = (l[i]?).bind id := by
    intro l
    induction l with
    | nil => intro k i; simp [fnd]
    | cons o l ih =>
      intro k i
      have hge : ∀ (l : List (Option Ob)) (k j : Nat), j < k → fnd ((l.zipIdx k).filterMap fun (o, i) => o.map fun ob => (i, ob)) j = none := by
        intro l
        induction l with
        | nil => intro k j _; simp [fnd]
        | cons o l ih =>
          intro k j hj
          simp only [List.zipIdx_cons, List.filterMap_cons]
          cases o with
          | none => exact ih (k + 1) j (by omega)
          | some o =>
            simp only [Option.map_some]
            rw [fnd_cons, if_neg (by omega)]
            exact ih (k + 1) j (by omega)
      simp only [List.zipIdx_cons, List.filterMap_cons]
      cases i with
      | zero =>
        cases o with
        | none => simpa using hge l (k + 1) k (by omega)
        | some o => simp [fnd_cons]
      | succ i =>
        have := ih (k + 1) i
        rw [show k + 1 + i = k + (i + 1) by omega] at this
        cases o with
        | none => simpa using this
        | some o =>
          simp only [Option.map_some]
          rw [fnd_cons, if_neg (by omega)]
          simpa using this
  simpa using key pk.obs 0 i
theorem fixed_spec {ren pins : List Nat} (h : fixed ren pins = true) : ∀ i ∈ pins, idx ren i = i := fun i hi => by
  have := List.all_eq_true.1 h i hi
  exact Nat.eq_of_beq_eq_true this
section
variable {K : Ctx}
theorem pack_sim {st : St} {a : Act} {mu : Nat → Option Nat} {R : Nat → Prop} {w : World} (hS : Sim K st a mu R w) {args : List TV} (hp : K.pins = idsL args) {live : List Nat} {ren : List Nat} {pk : Pk}
    (hP : Packed st.ob args (live.map fun t => st.tm.getD t .dead) ren pk) (hf : fixed ren (idsL args) = true) : Sim K (inSt st.tm.length live pk) a (fun i => mu (ren.getD i 0)) R w := by
  have hM := hS.mem
  have hren := hP.ren st.us mu R R w (fun _ h => h)
  have hcx : cx (inSt st.tm.length live pk).us (inSt st.tm.length live pk).ob (fun i => mu (ren.getD i 0)) R w = pkCx pk (fun i => mu (ren.getD i 0)) R w := by
    unfold cx pkCx
    have h1 : fnd (inSt st.tm.length live pk).ob = pk.fd := funext fun i => fnd_obsL pk i
    have h2 : (fun i => i ∈ (inSt st.tm.length live pk).us) = fun i => i < pk.obs.length := funext fun i => propext (by simp [inSt])
    rw [h1, h2]
  have orig : ∀ i, (pk.fd i).isSome = true → ∃ j, j ∈ ren ∧ ren.getD i 0 = j ∧ idx ren j = i ∧ (fnd st.ob j).isSome = true := by
    intro i hi
    have hlt : i < pk.obs.length := by
      unfold Pk.fd at hi
      cases h : pk.obs[i]? with
      | none => rw [h] at hi; cases hi
      | some o => exact (List.getElem?_eq_some_iff.1 h).1
    obtain ⟨j, h1, h2, h3, _⟩ := hP.back hlt
    refine ⟨j, h1, h2, h3, ?_⟩
    have := hP.fd h1
    rw [h3] at this
    rw [this, Option.isSome_map] at hi
    exact hi
  refine ⟨?_, ?_, ?_, hS.df, ?_⟩
  · rw [hcx]
    refine ⟨fun i hi => ?_, hM.fr, fun i o ho => ?_, fun i j b hi hj h1 h2 => ?_, fun i b hi h1 => ?_, fun i b hi h1 => ?_, fun i b hi h1 => ?_, hM.ro, hM.ro0, hM.rlt⟩
    · show i < pk.obs.length
      have hi : (pk.fd i).isSome = true := hi
      unfold Pk.fd at hi
      cases h : pk.obs[i]? with
      | none => rw [h] at hi; cases hi
      | some o => exact (List.getElem?_eq_some_iff.1 h).1
    · obtain ⟨j, h1, h2, h3, h4⟩ := orig i (Option.isSome_iff_exists.2 ⟨o, ho⟩)
      obtain ⟨o1, ho1⟩ := Option.isSome_iff_exists.1 h4
      have hfd := hP.fd h1
      rw [h3, ho1] at hfd
      have ho : pk.fd i = some o := ho
      rw [hfd] at ho
      cases ho
      rw [← h3]
      exact repO_ren hren h1 ho1 (fun k hk => hP.closed j h1 o1 ho1 k hk) (fun _ _ => rfl) (hM.obs j o1 ho1)
    · obtain ⟨i', a1, a2, a3, a4⟩ := orig i hi
      obtain ⟨j', b1, b2, b3, b4⟩ := orig j hj
      have h1 : mu (ren.getD i 0) = some b := h1
      have h2 : mu (ren.getD j 0) = some b := h2
      rw [a2] at h1
      rw [b2] at h2
      have := hM.inj i' j' b a4 b4 h1 h2
      rw [← a3, ← b3, this]
    · obtain ⟨j, a1, a2, a3, a4⟩ := orig i hi
      have h1 : mu (ren.getD i 0) = some b := h1
      rw [a2] at h1
      exact hM.notR j b a4 h1
    · obtain ⟨j, a1, a2, a3, a4⟩ := orig i hi
      have h1 : mu (ren.getD i 0) = some b := h1
      rw [a2] at h1
      exact hM.own j b a4 h1
    · obtain ⟨j, a1, a2, a3, a4⟩ := orig i hi
      have h1 : mu (ren.getD i 0) = some b := h1
      rw [a2] at h1
      exact hM.lt j b a4 h1
  · rw [inSt_len]; exact hS.len
  · intro i x hx
    rw [hcx]
    rw [inSt_tm] at hx
    rcases sets_get _ _ i x hx with h | h
    · obtain ⟨h1, h2⟩ := List.getElem?_eq_some_iff.1 h
      simp at h2
      subst h2
      exact trivial
    · rw [hP.roots] at h
      have key : ∀ (live : List Nat) (i : Nat) (x : TV), (i, x) ∈ live.zip (renL (idx ren) (live.map fun t => st.tm.getD t .dead)) → i ∈ live ∧ x = (st.tm.getD i .dead).ren (idx ren) := by
        intro live
        induction live with
        | nil => intro i x h; simp at h
        | cons t live ih =>
          intro i x h
          simp only [List.map_cons, renL, List.zip_cons_cons, List.mem_cons, Prod.mk.injEq] at h
          rcases h with ⟨rfl, rfl⟩ | h
          · exact ⟨List.mem_cons_self .., rfl⟩
          · exact ⟨List.mem_cons_of_mem _ (ih i x h).1, (ih i x h).2⟩
      obtain ⟨hl, rfl⟩ := key live i x h
      have hids : subL (st.tm.getD i .dead).ids (· ∈ ren) := fun j hj => hP.ids j (by
        have : ∀ (l : List TV) (y : TV), y ∈ l → ∀ j ∈ y.ids, j ∈ idsL l := by
          intro l
          induction l with
          | nil => intro y hy; cases hy
          | cons z l ih =>
            intro y hy j hj
            simp only [idsL, List.mem_append]
            rcases List.mem_cons.1 hy with rfl | hy
            · exact .inl hj
            · exact .inr (ih y hy j hj)
        exact this _ _ (List.mem_map.2 ⟨i, hl, rfl⟩) j hj)
      exact repV_ren hren _ _ hids (by have := hS.eval (.tmp i); rw [show tvE st.tm (.tmp i) = st.tm.getD i .dead from getT_eq _ _] at this; exact this)
  · intro i hi
    rw [hp] at hi
    have hir := hP.pins i hi
    have hfx := fixed_spec hf i hi
    have hlt : i < pk.obs.length := by
      rw [hP.len]
      have := List.idxOf_lt_length_iff.2 hir
      unfold idx at hfx
      omega
    refine ⟨by simp [inSt, hlt], fun o' ho' => ?_⟩
    have ho' : fnd (obsL pk) i = some o' := ho'
    rw [fnd_obsL] at ho'
    have hfd := hP.fd hir
    rw [hfx, ho'] at hfd
    cases ho : fnd st.ob i with
    | none => rw [ho] at hfd; cases hfd
    | some o1 =>
      rw [ho] at hfd
      simp only [Option.map_some, Option.some.injEq] at hfd
      obtain ⟨o, h1, h2, h3, h4⟩ := (hS.pin i (hp ▸ hi)).2 o1 ho
      refine ⟨o, h1, ?_, hfd ▸ Ob.like.trans h3 (like_symm (ren_like _ o1)), h4⟩
      show mu (ren.getD i 0) = _
      have : ren.getD i 0 = i := by
        obtain ⟨j, k1, k2, k3, _⟩ := hP.back hlt
        rw [k2]
        unfold idx at hfx k3
        have g1 := get_idxOf hir
        have g2 := get_idxOf k1
        rw [hfx] at g1
        rw [k3] at g2
        rw [g1] at g2
        exact (Option.some.inj g2).symm
      rw [this]
      exact h2
theorem outK_sim {γ : Type} {st : St} {a : Act} {mu : Nat → Option Nat} {R : Nat → Prop} {w : World} (hS : Sim K st a mu R w) {args : List TV} (hp : K.pins = idsL args) {live : List Nat} {k : Pk → Tr γ} {r : γ}
    (h : (outK args live st k).to r) : ∃ pk mu', (k pk).to r ∧ Sim K (inSt st.tm.length live pk) a mu' R w := by
  unfold outK at h
  simp only [getT_eq] at h
  obtain ⟨ren, pk, h1, h2⟩ := packG_to h
  rw [GTr.run_done] at h1
  cases hf : fixed ren (idsL args) with
  | false => rw [hf] at h1; exact (Tr.to_fail h1).elim
  | true =>
    rw [hf] at h1
    exact ⟨pk, _, h1, pack_sim hS hp h2 hf⟩
end
end
end Go.Am
namespace Go.Am
noncomputable section
variable [PI : Inhabited Program]
theorem outK_to {γ : Type} {args : List TV} {live : List Nat} {st : St} {k : Pk → Tr γ} {r : γ} (h : (outK args live st k).to r) : ∃ pk, (k pk).to r := by
  unfold outK at h
  obtain ⟨ren, pk, h1, h2⟩ := packG_to h
  rw [GTr.run_done] at h1
  cases hf : fixed ren (idsL args) with
  | false => rw [hf] at h1; exact (Tr.to_fail h1).elim
  | true => rw [hf] at h1; exact ⟨pk, h1⟩
theorem cutEvC_to {C : Cut} {args : List TV} {st st' : St} {ex : Ex} (h : (cutEvC C args st).to (ex, st')) : st'.tm.length = st.tm.length := by
  unfold cutEvC at h
  obtain ⟨pk, h⟩ := outK_to h
  obtain ⟨⟨ex', pk'⟩, h1, h2⟩ := Tr.to_bind h
  have := Tr.to_ret h2
  cases this
  exact inSt_len ..
theorem regionEv_len {E : Env} {ops : List Oper} {draw : Bool} {st st' : St} (h : (regionEv E ops draw st).to st') : st'.tm.length = st.tm.length := by
  unfold regionEv at h
  rw [fSt_eq] at h
  obtain ⟨s, ls, hrun, h⟩ := opsEv_to _ _ _ _ _ _ _ h
  have : s = st' := by
    cases draw with
    | false => exact Tr.to_ret h
    | true =>
      simp only [if_true] at h
      cases hb : apartB ops ([] ++ ls) with
      | false => rw [hb] at h; exact (Tr.to_fail h).elim
      | true => rw [hb] at h; exact Tr.to_ret h
  subst this
  exact runT_len hrun
theorem know_len (st : St) (c : Operand) (b : Bool) : (knowT st c b).tm.length = st.tm.length := by
  unfold knowT
  split <;> simp [setT_eq]
theorem know_same {st : St} {c : Operand} {q b : Bool} (h : tvE st.tm c = .v (.bool q)) (e : q = b) : knowT st c b = st := by
  unfold knowT
  split
  · rename_i t
    rw [setT_eq, set_same (show st.tm.getD t .dead = .v (.bool b) by rw [← e, ← getT_eq]; exact h) (by intro e; cases e)]
  · rfl
theorem codeEv_len (E : Env) (args : List TV) : ∀ (c : Code) (p : Nat) (st : St) (ex : Ex) (st' : St), (codeEv E args c p st).to (ex, st') → st'.tm.length = st.tm.length := by
  intro c
  induction c with
  | skip => intro p st ex st' h; cases Tr.to_ret h; rfl
  | label l => intro p st ex st' h; cases Tr.to_ret h; rfl
  | exit i => intro p st ex st' h; cases Tr.to_ret h; rfl
  | ret => intro p st ex st' h; cases Tr.to_ret h; rfl
  | region id ops draw =>
    intro p st ex st' h
    simp only [codeEv] at h
    obtain ⟨s, h1, h2⟩ := Tr.to_bind h
    cases Tr.to_ret h2
    exact regionEv_len h1
  | seq a b iha ihb =>
    intro p st ex st' h
    simp only [codeEv] at h
    obtain ⟨⟨ex1, s⟩, h1, h2⟩ := Tr.to_bind h
    have l1 := iha _ _ _ _ h1
    cases ex1 with
    | normal =>
      simp only at h2
      split at h2
      · rw [cutEvC_to h2, l1]
      · rw [ihb _ _ _ _ h2, l1]
    | exit i => cases Tr.to_ret h2; exact l1
    | ret => cases Tr.to_ret h2; exact l1
  | cond c a b iha ihb =>
    intro p st ex st' h
    simp only [codeEv] at h
    split at h
    · rcases Tr.to_ite h with ⟨_, h⟩ | ⟨_, h⟩
      · rw [iha _ _ _ _ h]; exact know_len ..
      · rw [ihb _ _ _ _ h]; exact know_len ..
    · exact (Tr.to_fail h).elim
  | block id c ih =>
    intro p st ex st' h
    simp only [codeEv] at h
    obtain ⟨⟨ex1, s⟩, h1, h2⟩ := Tr.to_bind h
    have l1 := ih _ _ _ _ h1
    cases ex1 with
    | normal => cases Tr.to_ret h2; exact l1
    | ret => cases Tr.to_ret h2; exact l1
    | exit i =>
      simp only at h2
      cases hb : Nat.beq i id <;> rw [hb] at h2 <;> cases Tr.to_ret h2 <;> exact l1
  | scope c ih =>
    intro p st ex st' h
    simp only [codeEv] at h
    exact ih _ _ _ _ h
  | loop c ih =>
    intro p st ex st' h
    simp only [codeEv] at h
    split at h
    · exact cutEvC_to h
    · exact (Tr.to_fail h).elim
  | rangeFunc g ps x y _ _ =>
    intro p st ex st' h
    simp only [codeEv] at h
    split at h
    · exact cutEvC_to h
    · exact (Tr.to_fail h).elim
  | _ => intro p st ex st' h; exact (Tr.to_fail h).elim
section
variable {K : Ctx}
theorem cut_wp {ro : Option Nat} {P : Program} {C : Cut} {c : Code} {args : List TV} {n : Nat} (hC : CutOK P ro n (idsL args) c C) {st st' : St} {ex : Ex} {a : Act} {mu : Nat → Option Nat} {R : Nat → Prop} {w : World} {Q : Exit → Act → World → Prop}
    (hn : st.tm.length = n) (hp : K.pins = idsL args) (hS : Sim K st a mu R w) (h : (cutEvC C args st).to (ex, st')) (hQ : Post K Q ex st') : c.wpIn (fen ro) 0 P Q a w := by
  unfold cutEvC at h
  obtain ⟨pk, mu', h1, h2⟩ := outK_sim hS hp h
  obtain ⟨⟨ex', pk'⟩, h3, h4⟩ := Tr.to_bind h1
  have := Tr.to_ret h4
  cases this
  rw [hn] at h2 hQ
  exact hC pk ex pk' h3 K a mu' R w Q hp h2 hQ
theorem stepR_scope {P : Program} {b : Frame} {a : Act} {k : List Item} {cs : List Frame} {w : World} {c : Code} : step P (lone (b.atR a (.code (.scope c) :: k)) cs w) = .next (lone (b.atR a (.code c :: .inScope c :: k)) cs w) :=
  step_lone_go (by simp [stepG, stepG.exec, Frame.atR])
theorem stepR_inScope {P : Program} {b : Frame} {a : Act} {k : List Item} {cs : List Frame} {w : World} {c : Code} : step P (lone (b.atR a (.inScope c :: k)) cs w) = .next (lone (b.atR a k) cs w) :=
  step_lone_go (by simp [stepG, stepG.exec, Frame.atR])
theorem wpIn_scope {F : Fence} {n : Nat} {P : Program} {Q : Exit → Act → World → Prop} {a : Act} {w : World} {c : Code} (h : c.wpIn F n P (Exit.noGoto Q) a w) : (Code.scope c).wpIn F n P Q a w := by
  intro b k cs hro hb hr
  have h0 : (lone (b.atR a (.code (.scope c) :: k)) cs w).fenced P F := fenced_calm hb hr rfl
  obtain ⟨e, a₁, w₁, hq, harr⟩ := h b (.inScope c :: k) cs hro hb hr
  cases e with
  | normal => exact ⟨.normal, a₁, w₁, hq, .head h0 stepR_scope (StepsIn.trans harr (.one (fenced_calm hb hr rfl) stepR_inScope))⟩
  | exit id' =>
    have hx : exitTo id' (.inScope c :: k) = exitTo id' k := by simp [exitTo]
    exact ⟨.exit id', a₁, w₁, hq, fun k' hk => .head h0 stepR_scope (harr.1 k' (by rw [hx]; exact hk)),
      fun hr' hk => let ⟨k₁, h1, h2⟩ := harr.2 hr' (by rw [hx]; exact hk); ⟨k₁, h1, .head h0 stepR_scope h2⟩⟩
  | goto l => exact hq.elim
  | ret => exact ⟨_, a₁, w₁, hq, .of_steps (.one h0 stepR_scope) harr⟩
  | panic ch => exact ⟨_, a₁, w₁, hq, .of_steps (.one h0 stepR_scope) harr⟩
  | outgrown => exact ⟨_, a₁, w₁, hq, .of_steps (.one h0 stepR_scope) harr⟩
theorem codeEv_wp {ro : Option Nat} {E : Env} (hE : EnvOK E) {root : Code} {n : Nat} {args : List TV} (hC : CutsOK E ro n (idsL args) root) : ∀ (c : Code) (p : Nat) (st : St) (ex : Ex) (st' : St) (a : Act) (mu : Nat → Option Nat) (R : Nat → Prop) (w : World) (Q : Exit → Act → World → Prop),
    At root p c → (codeEv E args c p st).to (ex, st') → st.tm.length = n → K.pins = idsL args → Sim K st a mu R w → Post K Q ex st' → c.wpIn (fen ro) 0 E.P Q a w := by
  intro c
  induction c with
  | skip => intro p st ex st' a mu R w Q _ h _ _ hS hQ; cases Tr.to_ret h; exact wpIn_skip (hQ _ _ _ _ hS)
  | label l => intro p st ex st' a mu R w Q _ h _ _ hS hQ; cases Tr.to_ret h; exact wpIn_label (hQ _ _ _ _ hS)
  | exit i => intro p st ex st' a mu R w Q _ h _ _ hS hQ; cases Tr.to_ret h; exact wpIn_exit (hQ _ _ _ _ hS)
  | ret => intro p st ex st' a mu R w Q _ h _ _ hS hQ; cases Tr.to_ret h; exact wpIn_ret (hQ _ _ _ _ hS)
  | region id ops draw =>
    intro p st ex st' a mu R w Q _ h _ _ hS hQ
    simp only [codeEv] at h
    obtain ⟨s, h1, h2⟩ := Tr.to_bind h
    cases Tr.to_ret h2
    exact region_wp hE hS h1 hQ
  | seq x y iha ihb =>
    intro p st ex st' a mu R w Q hat h hn hp hS hQ
    simp only [codeEv] at h
    obtain ⟨⟨ex1, s⟩, h1, h2⟩ := Tr.to_bind h
    have l1 := codeEv_len E args _ _ _ _ _ h1
    refine wpIn_seq (iha _ _ _ _ a mu R w _ hat.seqL h1 hn hp hS fun a1 mu1 R1 w1 hS1 => ?_)
    cases ex1 with
    | normal =>
      simp only at h2
      split at h2
      · rename_i C hcut
        exact cut_wp (hC _ _ _ hat.seqR hcut) (l1.trans hn) hp hS1 h2 hQ
      · exact ihb _ _ _ _ _ _ _ _ _ hat.seqR h2 (l1.trans hn) hp hS1 hQ
    | exit i => cases Tr.to_ret h2; exact hQ _ _ _ _ hS1
    | ret => cases Tr.to_ret h2; exact hQ _ _ _ _ hS1
  | cond c x y iha ihb =>
    intro p st ex st' a mu R w Q hat h hn hp hS hQ
    simp only [codeEv] at h
    split at h
    · rename_i q hq
      have hv := hS.eval c
      rw [hq] at hv
      have hv : a.eval c = .bool q := hv
      rcases Tr.to_ite h with ⟨hb, h⟩ | ⟨hb, h⟩
      · have e := know_same hq hb
        subst hb
        exact wpIn_cond_true hv (iha _ (knowT st c true) _ _ _ _ _ _ _ hat.condT h (by rw [e]; exact hn) hp (by rw [e]; exact hS) hQ)
      · have e := know_same hq hb
        subst hb
        exact wpIn_cond_false hv (ihb _ (knowT st c false) _ _ _ _ _ _ _ hat.condE h (by rw [e]; exact hn) hp (by rw [e]; exact hS) hQ)
    · exact (Tr.to_fail h).elim
  | block id c ih =>
    intro p st ex st' a mu R w Q hat h hn hp hS hQ
    simp only [codeEv] at h
    obtain ⟨⟨ex1, s⟩, h1, h2⟩ := Tr.to_bind h
    refine wpIn_block (ih _ _ _ _ a mu R w _ hat.block h1 hn hp hS fun a1 mu1 R1 w1 hS1 => ?_)
    cases ex1 with
    | normal => cases Tr.to_ret h2; exact hQ _ _ _ _ hS1
    | ret => cases Tr.to_ret h2; exact hQ _ _ _ _ hS1
    | exit i =>
      simp only at h2
      show (if i = id then Q .normal a1 w1 else Q (.exit i) a1 w1)
      by_cases e : i = id
      · subst e
        rw [beq_self] at h2
        cases Tr.to_ret h2
        rw [if_pos rfl]
        exact hQ _ _ _ _ hS1
      · rw [beq_ne e] at h2
        cases Tr.to_ret h2
        rw [if_neg e]
        exact hQ _ _ _ _ hS1
  | scope c ih =>
    intro p st ex st' a mu R w Q hat h hn hp hS hQ
    simp only [codeEv] at h
    refine wpIn_scope (ih _ _ _ _ a mu R w _ hat.scope h hn hp hS fun a1 mu1 R1 w1 hS1 => ?_)
    cases ex <;> exact hQ _ _ _ _ hS1
  | loop c ih =>
    intro p st ex st' a mu R w Q hat h hn hp hS hQ
    simp only [codeEv] at h
    split at h
    · rename_i C hcut
      exact cut_wp (hC _ _ _ hat hcut) hn hp hS h hQ
    · exact (Tr.to_fail h).elim
  | rangeFunc g ps x y _ _ =>
    intro p st ex st' a mu R w Q hat h hn hp hS hQ
    simp only [codeEv] at h
    split at h
    · rename_i C hcut
      exact cut_wp (hC _ _ _ hat hcut) hn hp hS h hQ
    · exact (Tr.to_fail h).elim
  | _ => intro p st ex st' a mu R w Q _ h; exact (Tr.to_fail h).elim
end
theorem pieceOK {ro : Option Nat} {E : Env} (hE : EnvOK E) {root c : Code} {n p : Nat} {args : List TV} (hC : CutsOK E ro n (idsL args) root) (hat : At root p c) {C : Cut} (h : ∀ pk r, (C.orc pk).to r → (pieceEv E n args c p C pk).to r) : CutOK E.P ro n (idsL args) c C := by
  intro pk ex pk' ho K a mu R w Q hp hS hQ
  have h := h _ _ ho
  unfold pieceEv at h
  obtain ⟨⟨ex1, s⟩, h1, h2⟩ := Tr.to_bind h
  refine codeEv_wp hE hC c p _ _ _ a mu R w Q hat h1 (inSt_len ..) hp hS fun a1 mu1 R1 w1 hS1 => ?_
  obtain ⟨pk1, mu2, h3, h4⟩ := outK_sim hS1 hp h2
  cases Tr.to_ret h3
  rw [codeEv_len E args _ _ _ _ _ h1, inSt_len] at h4
  exact hQ _ _ _ _ h4
theorem least {p : Nat → Prop} (h : ∃ k, p k) : ∃ k, p k ∧ ∀ j, p j → k ≤ j := by
  obtain ⟨k, hk⟩ := h
  induction k using Nat.strongRecOn with
  | _ k ih =>
    by_cases h : ∃ j, j < k ∧ p j
    · obtain ⟨j, h1, h2⟩ := h
      exact ih j h1 h2
    · exact ⟨k, hk, fun j hj => Nat.le_of_not_lt fun hl => h ⟨j, hl, hj⟩⟩
def rounds (ro : Option Nat) (P : Program) (c : Code) (Q : Exit → Act → World → Prop) : Nat → Act → World → Prop
  | 0, _, _ => False
  | k + 1, a, w => c.wpIn (fen ro) 0 P (Exit.then (rounds ro P c Q k) Q) a w
open Classical in
theorem wp_rounds {ro : Option Nat} {P : Program} {c : Code} {Q : Exit → Act → World → Prop} {k : Nat} {a : Act} {w : World} (h : rounds ro P c Q k a w) : (Code.loop c).wpIn (fen ro) 0 P Q a w := by
  refine wpIn_loop (fun a w => ∃ k, rounds ro P c Q k a w) (fun a w => if h : ∃ k, rounds ro P c Q k a w then (least h).choose else 0) ⟨k, h⟩ fun a w hI => ?_
  simp only [hI, dif_pos]
  generalize hm : (least hI).choose = m
  have hs := (least hI).choose_spec
  rw [hm] at hs
  cases m with
  | zero => exact hs.1.elim
  | succ m =>
    refine wpIn_mono hs.1 fun e a' w' he => ?_
    cases e with
    | normal =>
      have he : rounds ro P c Q m a' w' := he
      have hex : ∃ k, rounds ro P c Q k a' w' := ⟨m, he⟩
      refine ⟨hex, ?_⟩
      simp only [hex, dif_pos]
      have := (least hex).choose_spec.2 m he
      omega
    | _ => exact he
theorem loopOK {ro : Option Nat} {E : Env} (hE : EnvOK E) {root c : Code} {n p : Nat} {args : List TV} (hC : CutsOK E ro n (idsL args) root) (hat : At root p (.loop c)) {C : Cut} (orc : Nat → Pk → Tr (Ex × Pk)) (h0 : ∀ pk r, ¬ (orc 0 pk).to r)
    (h : ∀ k pk r, (orc (k + 1) pk).to r → (roundEv E n args c p { C with orc := orc k } pk).to r) (k : Nat) : CutOK E.P ro n (idsL args) (.loop c) { C with orc := orc k } := by
  have key : ∀ k pk ex pk', (orc k pk).to (ex, pk') → ∀ (K : Ctx) a mu R w Q, K.pins = idsL args → Sim K (inSt n C.live pk) a mu R w → Post K Q ex (inSt n (C.out ex) pk') → rounds ro E.P c Q k a w := by
    intro k
    induction k with
    | zero => intro pk ex pk' ho; exact (h0 _ _ ho).elim
    | succ k ih =>
      intro pk ex pk' ho K a mu R w Q hp hS hQ
      have h := h k _ _ ho
      unfold roundEv at h
      obtain ⟨⟨ex1, s⟩, h1, h2⟩ := Tr.to_bind h
      refine codeEv_wp hE hC c (2 * p) _ _ _ a mu R w _ hat.loop h1 (inSt_len ..) hp hS fun a1 mu1 R1 w1 hS1 => ?_
      have hl : s.tm.length = n := by rw [codeEv_len E args _ _ _ _ _ h1, inSt_len]
      cases ex1 with
      | normal =>
        obtain ⟨pk1, mu2, h3, h4⟩ := outK_sim hS1 hp h2
        rw [hl] at h4
        exact ih _ _ _ h3 K a1 mu2 R1 w1 Q hp h4 hQ
      | exit i =>
        obtain ⟨pk1, mu2, h3, h4⟩ := outK_sim hS1 hp h2
        cases Tr.to_ret h3
        rw [hl] at h4
        exact hQ _ _ _ _ h4
      | ret =>
        obtain ⟨pk1, mu2, h3, h4⟩ := outK_sim hS1 hp h2
        cases Tr.to_ret h3
        rw [hl] at h4
        exact hQ _ _ _ _ h4
  intro pk ex pk' ho K a mu R w Q hp hS hQ
  exact wp_rounds (key k pk ex pk' ho K a mu R w Q hp hS hQ)
end
end Go.Am
namespace Go.Am
noncomputable section
variable [PI : Inhabited Program]
theorem repVL_len {C : Cx} : ∀ (l : List TV) (vs : List Value), repVL C l vs → vs.length = l.length
  | [], _, h => by rw [h]; rfl
  | x :: l, _, ⟨v, r, e, _, h⟩ => by rw [e, List.length_cons, List.length_cons, repVL_len l r h]
theorem repVL_append {C : Cx} : ∀ (l m : List TV) (vs ws : List Value), repVL C l vs → repVL C m ws → repVL C (l ++ m) (vs ++ ws)
  | [], m, _, ws, h, k => by rw [h]; exact k
  | x :: l, m, _, ws, ⟨v, r, e, h1, h2⟩, k => ⟨v, r ++ ws, by rw [e]; rfl, h1, repVL_append l m r ws h2 k⟩
theorem res1_ok {P : Program} {K : Ctx} {st : St} {a : Act} {mu : Nat → Option Nat} {R : Nat → Prop} {w : World} (hS : Sim K st a mu R w) {f : ResultVar → Sem Value} (hf1 : ∀ t, f (.tmp t) = pure (a.tmps.getD t undef)) (hf2 : ∀ t T, f (.cell t T) = do loadVar T (← asAddr (a.tmps.getD t undef)))
    {r : ResultVar} {x : TV} (h : (resTr P st r).to x) : ∃ v, (f r).run P w = .ok v w ∧ repV (cx st.us st.ob mu R w) x v := by
  cases r with
  | tmp t =>
    cases Tr.to_ret h
    exact ⟨_, by rw [hf1]; exact Sem.run_pure .., hS.eval (.tmp t)⟩
  | cell t T =>
    obtain ⟨e, h1, h2⟩ := Tr.to_bind h
    cases Tr.to_ret h2
    obtain ⟨_, _, v, k1, k2⟩ := loadEv_sound (P := P) (C := cx st.us st.ob mu R w) st.ob rfl hS.mem T _ _ e h1 (hS.eval (.tmp t))
    refine ⟨v, ?_, k2⟩
    rw [hf2]
    have hx := hS.eval (.tmp t)
    have k1 : (Instr.loadAt T (a.tmps.getD t undef)).run P w = .ok v w := k1
    have hx : repV (cx st.us st.ob mu R w) (getT st.tm t) (a.tmps.getD t undef) := hx
    generalize a.tmps.getD t undef = vx at *
    generalize getT st.tm t = y at *
    have hp : ∃ ad, vx = .pointer (some ad) := by
      unfold loadEv at h1
      simp only at h1
      split at h1
      · obtain ⟨ad, ev, _⟩ := hx
        simp only [List.cons.injEq, and_true] at ev
        exact ⟨ad, ev⟩
      · obtain ⟨b, off, cs, ev, _⟩ := hx
        simp only [List.cons.injEq, and_true] at ev
        exact ⟨_, ev⟩
      · exact (Tr.to_fail h1).elim
    obtain ⟨ad, rfl⟩ := hp
    exact k1
theorem resL_ok {P : Program} {C : Cx} {st : St} {w : World} {f : ResultVar → Sem Value} (hf : ∀ r x, (resTr P st r).to x → ∃ v, (f r).run P w = .ok v w ∧ repV C x v) : ∀ (l : List ResultVar) (xs : List TV), (resL P st l).to xs → ∃ vs, (l.mapM f).run P w = .ok vs w ∧ repVL C xs vs
  | [], xs, h => by
    cases Tr.to_ret h
    exact ⟨[], Sem.run_pure .., rfl⟩
  | r :: l, xs, h => by
    obtain ⟨x, h1, h2⟩ := Tr.to_bind h
    obtain ⟨ys, h3, h4⟩ := Tr.to_bind h2
    cases Tr.to_ret h4
    obtain ⟨v, k1, k2⟩ := hf r x h1
    obtain ⟨vs, g1, g2⟩ := resL_ok hf l ys h3
    refine ⟨v :: vs, ?_, v, vs, rfl, k2, g2⟩
    rw [List.mapM_cons, Sem.run_bind, k1, Result.andThen_ok, Sem.run_bind, g1, Result.andThen_ok]
    exact Sem.run_pure ..
def resF (tmps : Array Value) : ResultVar → Sem Value
  | .tmp t => pure (tmps.getD t undef)
  | .cell a t => do loadVar t (← asAddr (tmps.getD a undef))
theorem results_ok {P : Program} {K : Ctx} {st : St} {a : Act} {mu : Nat → Option Nat} {R : Nat → Prop} {w : World} (hS : Sim K st a mu R w) {fn : Func} {x : TV} (h : (resultEv P fn st).to x) : ∃ v, (results fn a.tmps).run P w = .ok v w ∧ repV (cx st.us st.ob mu R w) x v := by
  unfold resultEv at h
  obtain ⟨xs, h1, h2⟩ := Tr.to_bind h
  cases Tr.to_ret h2
  rw [show results fn a.tmps = (do let vs ← fn.results.mapM (resF a.tmps); pure (if h : vs.size = 1 then vs[0] else .tuple vs)) from rfl]
  rw [Sem.run_bind, Array.mapM_eq_mapM_toList, map_eq_pure_bind, Sem.run_bind]
  obtain ⟨vs, k1, k2⟩ := resL_ok (f := resF a.tmps) (fun r x hr => res1_ok hS (fun t => rfl) (fun t T => rfl) hr) fn.results.toList xs h1
  rw [k1, Result.andThen_ok]
  have e : (Pure.pure vs.toArray : Sem (Array Value)).run P w = .ok vs.toArray w := Sem.run_pure ..
  have hlen := repVL_len _ _ k2
  refine ⟨if h : vs.toArray.size = 1 then vs.toArray[0] else .tuple vs.toArray, ?_, ?_⟩
  · show ((Pure.pure vs.toArray : Sem (Array Value)).run P w).andThen _ = _
    rw [e, Result.andThen_ok]
    exact Sem.run_pure ..
  · match xs, k2 with
    | [y], k2 =>
      obtain ⟨v, r, e, g1, g2⟩ := k2
      have hr : r = [] := g2
      subst hr
      subst e
      exact g1
    | [], k2 =>
      have : vs = [] := k2
      subst this
      exact ⟨[], rfl, rfl⟩
    | y :: z :: l, k2 =>
      have hsz : ¬ vs.toArray.size = 1 := by
        have := hlen
        simp only [List.length_cons] at this
        show ¬ vs.length = 1
        omega
      rw [dif_neg hsz]
      exact ⟨vs, rfl, k2⟩
theorem Fr.shut {O : Nat → Prop} {w0 w : World} (h : Fr O w0 w) {r : Nat} (hr : w.heap[r]? = some (.deferred (some []))) (hb : w0.heap.size ≤ r) : Fr O w0 (w.putObj r (.deferred none)) :=
  ⟨h.os, h.tape, h.output, by rw [World.putObj_size]; exact h.size, fun k hk ho => (World.putObj_heap_other (by omega)).trans (h.block k hk ho)⟩
theorem leaves_marks {P : Program} {fn : Func} {tmps : Array Value} {Rq : Ending → World → Prop} {K : Ctx} {R : Nat → Prop} (I : World → Prop)
    (hI : ∀ w r, I w → w.heap[r]? = some (.deferred (some [])) → K.b0 ≤ r → R r → I (w.putObj r (.deferred none)))
    (hfin : ∀ w, I w → ∃ v, (results fn tmps).run P w = .ok v w ∧ Rq (.returned v) w) : ∀ (ms : List Nat) (w : World), ms.Nodup → (∀ r ∈ ms, R r ∧ K.b0 ≤ r ∧ w.heap[r]? = some (.deferred (some []))) → I w → LeavesInM Fence.wide 0 P fn tmps Rq (ms.map markOf) .returning w
  | [], w, _, _, hw => hfin w hw
  | r :: ms, w, hn, hm, hw => by
    obtain ⟨h1, h2, h3⟩ := hm r (List.mem_cons_self ..)
    rw [List.nodup_cons] at hn
    refine ⟨by simp, .inl ⟨r, _, rfl, run_takeDeferred h3, leaves_marks (K := K) (R := R) I hI hfin ms _ hn.2 (fun q hq => ?_) (hI w r hw h3 h2 h1)⟩⟩
    obtain ⟨k1, k2, k3⟩ := hm q (List.mem_cons_of_mem _ hq)
    exact ⟨k1, k2, (World.putObj_heap_other (by intro e; exact hn.1 (e ▸ hq))).trans k3⟩
theorem fnOK {E : Env} (hE : EnvOK E) {f : FuncId} {fn : Func} {c : Code} (hf : E.P.funcs[f]? = some fn) (hb : fn.body = some c) (hname : (fn.name == "runtime.NumGoroutine") = false) {pk r : Pk} (hC : CutsOK E none fn.ntmps (idsL pk.pins) c) (hlt : pk.roots.length ≤ fn.ntmps)
    (h : (fnEv E fn pk).to r) : CallOK E.P f pk r := by
  refine ⟨⟨fn, hf, by rw [hb]; rfl, hname⟩, fun w mu R vs hM hv => ?_⟩
  refine callsIn_wide.1 (callsIn_of_wp_marks (F := Fence.wide) (n := 0) hf hb trivial ?_)
  unfold fnEv at h
  rw [hb] at h
  simp only at h
  cases hok : pkOk pk.roots pk with
  | false => rw [hok] at h; exact (Tr.to_fail h).elim
  | true =>
    rw [hok] at h
    simp only [Bool.not_true, cond_false] at h
    obtain ⟨⟨ex, s⟩, h1, h2⟩ := Tr.to_bind h
    have hvl := repVL_len _ _ hv
    let K : Ctx := ⟨ownB pk mu, R, w, idsL pk.pins, pk.fd, mu, w.heap.size, w⟩
    have hcx : cx (List.range pk.obs.length) (obsL pk) mu R w = pkCx pk mu R w := by
      unfold cx pkCx
      rw [show fnd (obsL pk) = pk.fd from funext fun i => fnd_obsL pk i, show (fun i => i ∈ List.range pk.obs.length) = (fun i => i < pk.obs.length) from funext fun i => propext (by simp)]
    have hS : Sim K ⟨pk.roots ++ List.replicate (fn.ntmps - pk.roots.length) undefT, obsL pk, List.range pk.obs.length⟩ { tmps := vs.toArray ++ Array.replicate (fn.ntmps - vs.toArray.size) undef, defers := [] } mu R w := by
      refine ⟨by rw [hcx]; exact hM, by simp [hvl], fun i x hx => ?_, Marks.nil (Nat.le_refl _), fun i hi => ?_⟩
      · rw [hcx]
        have hall : repVL (pkCx pk mu R w) (pk.roots ++ List.replicate (fn.ntmps - pk.roots.length) undefT) (vs ++ List.replicate (fn.ntmps - pk.roots.length) undef) := by
          refine repVL_append _ _ _ _ hv ?_
          generalize fn.ntmps - pk.roots.length = m
          induction m with
          | zero => rfl
          | succ m ih => exact ⟨undef, _, rfl, rfl, ih⟩
        obtain ⟨v, g1, g2⟩ := repVL_get _ _ i x hall hx
        have : (vs.toArray ++ Array.replicate (fn.ntmps - vs.toArray.size) undef).getD i undef = v := by
          have hsz : (vs.toArray ++ Array.replicate (fn.ntmps - vs.toArray.size) undef) = (vs ++ List.replicate (fn.ntmps - pk.roots.length) undef).toArray := by
            apply Array.ext'
            simp [hvl]
          rw [hsz]
          simp only [Array.getD_eq_getD_getElem?, List.getElem?_toArray, g1, Option.getD_some]
        show repV _ x ((vs.toArray ++ Array.replicate (fn.ntmps - vs.toArray.size) undef).getD i undef)
        rw [this]
        exact g2
      · have hu : i < pk.obs.length := pins_lt hM hv hi
        exact ⟨List.mem_range.2 hu, fun o' ho' => ⟨o', (fnd_obsL pk i).symm.trans ho', rfl, Ob.like.refl _, fun b _ => keeps.refl _ b⟩⟩
    refine codeEv_wp (ro := none) hE (args := pk.pins) hC c 1 _ ex s _ mu R w _ .root h1 (by simp; omega) rfl hS fun a2 mu' R' w2 hS2' => ?_
    have shutS : ∀ (w1 : World) (q : Nat), Sim K s { tmps := a2.tmps, defers := [] } mu' R' w1 → w1.heap[q]? = some (.deferred (some [])) → K.b0 ≤ q → (h0 : R' q) → Sim K s { tmps := a2.tmps, defers := [] } mu' R' (w1.putObj q (.deferred none)) := fun w1 q h1 h2 h3 h0 =>
      ⟨h1.mem.sh (shut h2) (fun i hi e => h1.mem.notR i q hi e h0) (h1.mem.fr.shut h2 h3), h1.len, fun i x hx => repV_sh (C := cx s.us s.ob mu' R' w1) (shut h2) (fun i hi e => h1.mem.notR i q hi e h0) x _ (h1.slots i x hx), Marks.nil (by rw [World.putObj_size]; exact h1.df.1), fun i hi => ⟨(h1.pin i hi).1, fun o' ho' => by
        obtain ⟨o, p1, p2, p3, p4⟩ := (h1.pin i hi).2 o' ho'
        exact ⟨o, p1, p2, p3, fun b hb => (p4 b hb).trans ((shut h2).keeps (fun e => h1.mem.notR i b (Option.isSome_iff_exists.2 ⟨o', ho'⟩) (p2.trans hb) (e ▸ h0)))⟩⟩⟩
    obtain ⟨hb0, ms, hd, hnd, hms⟩ := hS2'.df
    have hS0 : Sim K s { tmps := a2.tmps, defers := [] } mu' R' w2 := ⟨hS2'.mem, hS2'.len, hS2'.slots, Marks.nil hb0, hS2'.pin⟩
    suffices hfin : ∀ w', Sim K s { tmps := a2.tmps, defers := [] } mu' R' w' → ∃ v, (results fn a2.tmps).run E.P w' = .ok v w' ∧ ∃ v' mu' R', Ending.returned v = .returned v' ∧ Mem (ownB pk mu) R w (pkCx r mu' R' w') ∧ repV (pkCx r mu' R' w') (r.roots.headD .dead) v' ∧
      ∀ i ∈ idsL pk.pins, ∀ o', r.fd i = some o' → ∃ o, pk.fd i = some o ∧ mu' i = mu i ∧ o.like o' ∧ ∀ b, mu i = some b → keeps w w' b by
      have hleave : ∀ e, LeavesInM Fence.wide 0 E.P fn a2.tmps e (ms.map markOf) .returning w2 → LeavesInM Fence.wide 0 E.P fn a2.tmps e a2.defers .returning w2 := fun e h => hd ▸ h
      have hex : ex = .normal ∨ ex = .ret := by
        cases ex with
        | exit i => exact (Tr.to_fail h2).elim
        | normal => exact .inl rfl
        | ret => exact .inr rfl
      rcases hex with rfl | rfl <;> exact hleave _ (leaves_marks (K := K) (R := R') (fun w1 => Sim K s { tmps := a2.tmps, defers := [] } mu' R' w1) (fun w1 q h1 h2 h3 h0 => shutS w1 q h1 h2 h3 h0) hfin ms w2 hnd hms hS0)
    intro w' hS'
    obtain ⟨a', ha'⟩ : ∃ a' : Act, a' = { tmps := a2.tmps, defers := [] } := ⟨_, rfl⟩
    rw [← ha'] at hS'
    rw [show a2.tmps = a'.tmps by rw [ha']]
    have fin : ∀ x, (resultEv E.P fn s).to x → ((packG pk.pins [x] fun ren pk' => .done (bif fixed ren (idsL pk.pins) then .ret pk' else .fail)).run s.ob).to r →
        ∃ v, (results fn a'.tmps).run E.P w' = .ok v w' ∧ ∃ v' mu' R', Ending.returned v = .returned v' ∧ Mem (ownB pk mu) R w (pkCx r mu' R' w') ∧ repV (pkCx r mu' R' w') (r.roots.headD .dead) v' ∧
      ∀ i ∈ idsL pk.pins, ∀ o', r.fd i = some o' → ∃ o, pk.fd i = some o ∧ mu' i = mu i ∧ o.like o' ∧ ∀ b, mu i = some b → keeps w w' b := by
      intro x hx hr
      obtain ⟨v, hv1, hv2⟩ := results_ok (P := E.P) hS' hx
      refine ⟨v, hv1, ?_⟩
      -- the result stands in a slot of its own
      have hS2 : Sim K ⟨s.tm ++ [x], s.ob, s.us⟩ { tmps := a'.tmps.push v, defers := [] } mu' R' w' := by
        refine ⟨hS'.mem, by simp [hS'.len], fun i y hy => ?_, Marks.nil hS'.df.1, hS'.pin⟩
        have hl := hS'.len
        by_cases hi : i < s.tm.length
        · rw [List.getElem?_append_left hi] at hy
          have := hS'.slots i y hy
          show repV _ y ((a'.tmps.push v).getD i undef)
          have e : (a'.tmps.push v).getD i undef = a'.tmps.getD i undef := by
            simp [Array.getD_eq_getD_getElem?, Array.getElem?_push, show ¬ i = a'.tmps.size by omega]
          rw [e]; exact this
        · have hi2 : i = s.tm.length := by
            have := (List.getElem?_eq_some_iff.1 hy).1
            simp at this; omega
          subst hi2
          simp at hy
          subst hy
          show repV _ x ((a'.tmps.push v).getD s.tm.length undef)
          have e : (a'.tmps.push v).getD s.tm.length undef = v := by
            rw [← hl]; simp [Array.getD_eq_getD_getElem?]
          rw [e]; exact hv2
      have hout : (outK pk.pins [s.tm.length] ⟨s.tm ++ [x], s.ob, s.us⟩ fun pk' => .ret pk').to r := by
        unfold outK
        simp only [List.map_cons, List.map_nil]
        rw [getT_eq, show (s.tm ++ [x]).getD s.tm.length .dead = x by simp [List.getD]]
        exact hr
      obtain ⟨pk', mu2, k1, k2⟩ := outK_sim hS2 rfl hout
      cases Tr.to_ret k1
      have hcx2 : cx (List.range r.obs.length) (obsL r) mu2 R' w' = pkCx r mu2 R' w' := by
        unfold cx pkCx
        rw [show fnd (obsL r) = r.fd from funext fun i => fnd_obsL r i, show (fun i => i ∈ List.range r.obs.length) = (fun i => i < r.obs.length) from funext fun i => propext (by simp)]
      refine ⟨v, mu2, R', rfl, ?_, ?_, fun i hi o' ho' => ?_⟩
      · rw [← hcx2]; exact k2.mem
      · have hs := k2.slots s.tm.length (r.roots.headD .dead) (by
          rw [inSt_tm]
          simp only [List.length_append, List.length_cons, List.length_nil]
          cases r.roots with
          | nil => simp
          | cons y l => simp)
        have hs : repV (cx (List.range r.obs.length) (obsL r) mu2 R' w') (r.roots.headD .dead) ((a'.tmps.push v).getD s.tm.length undef) := hs
        rw [hcx2] at hs
        rw [show (a'.tmps.push v).getD s.tm.length undef = v by rw [← hS'.len]; simp [Array.getD_eq_getD_getElem?]] at hs
        exact hs
      · obtain ⟨o, g1, g2, g3⟩ := (k2.pin i hi).2 o' (by show fnd (obsL r) i = some o'; rw [fnd_obsL]; exact ho')
        exact ⟨o, g1, g2, g3⟩
    cases ex with
    | exit i => exact (Tr.to_fail h2).elim
    | normal =>
      obtain ⟨x, hx, h3⟩ := Tr.to_bind h2
      exact fin x hx h3
    | ret =>
      obtain ⟨x, hx, h3⟩ := Tr.to_bind h2
      exact fin x hx h3
end
end Go.Am
namespace Go.Am
noncomputable section
variable [PI : Inhabited Program]
def FOK (P : Program) (f : FuncId) (T : Pk → Tr Pk) : Prop := ∀ pk r, (T pk).to r → (f < bigK → CallOK P f pk r) ∧ (bigK ≤ f → RndOK P f pk r)
def NeOK (P : Program) (own : FuncId → List Nat) : Prop := ∀ g, is77 (own g) = true → ∀ x w, (callFunc g #[x]).run P w = .ok (.value x) w
def StrsOK (P : Program) (own : FuncId → List Nat) : Prop := ∀ g e, is78 (own g) = some e → StrOK P g e ∧ ∃ fn, P.funcs[g]? = some fn ∧ fn.body.isNone = false ∧ (fn.name == "runtime.NumGoroutine") = false
def MixP (P : Program) (own : FuncId → List Nat) : Prop := PI.default = P ∧ P.follows .mixedOrders = true ∧ NeOK P own ∧ StrsOK P own
theorem FOK.of {P : Program} {f : FuncId} {T : Pk → Tr Pk} (hf : Nat.ble bigK f = false) (h : ∀ pk r, (T pk).to r → CallOK P f pk r) : FOK P f T := fun pk r hr =>
  ⟨fun _ => h pk r hr, fun hb => by rw [Nat.ble_eq_true_of_le hb] at hf; cases hf⟩
theorem FOK.call {P : Program} {f : FuncId} {T : Pk → Tr Pk} (h : FOK P f T) (hf : Nat.ble bigK f = false) {pk r : Pk} (hr : (T pk).to r) : CallOK P f pk r := (h pk r hr).1 (by
  rcases Nat.lt_or_ge f bigK with h | h
  · exact h
  · rw [Nat.ble_eq_true_of_le h] at hf; cases hf)
def tell {α β : Type} (I : Pk → Option α) (F : α → Option β) (O : β → Tr Pk) (pk : Pk) : Tr Pk :=
  match I pk with
  | some x => .ask β (F x) O
  | none => .fail
def tellX {α β : Type} (I : Pk → Option α) (F : α → Option β) (O : β → Tr (Ex × Pk)) (pk : Pk) : Tr (Ex × Pk) :=
  match I pk with
  | some x => .ask β (F x) O
  | none => .fail
def ownL : List (Nat × List Nat) → FuncId → List Nat
  | [], _ => []
  | (j, x) :: r, f => bif Nat.beq j f then x else ownL r f
def orT {α : Type} (I : Pk → Option α) (T U : Pk → Tr Pk) (pk : Pk) : Tr Pk :=
  match I pk with
  | some _ => T pk
  | none => U pk
def nsEq : List Nat → List Nat → Bool
  | [], [] => true
  | a :: l, b :: m => Nat.beq a b && nsEq l m
  | _, _ => false
theorem nsEq_eq : ∀ {a b : List Nat}, nsEq a b = true → a = b
  | [], [], _ => rfl
  | a :: l, b :: m, h => by
    have h : (Nat.beq a b && nsEq l m) = true := h
    rw [Bool.and_eq_true] at h
    rw [Nat.eq_of_beq_eq_true h.1, nsEq_eq h.2]
def is78b (l : List Nat) : Bool := match is78 l with
  | some _ => true
  | none => false
theorem str_some {P : Program} {l : List (Nat × List Nat)} (ks : List (Nat × Nat)) (h : l.all (fun q => ks.any (fun k => Nat.beq q.1 k.1 && nsEq q.2 [78, k.2]) || !(is78b q.2)) = true)
    (hk : ∀ k ∈ ks, StrOK P k.1 k.2 ∧ ∃ fn, P.funcs[k.1]? = some fn ∧ fn.body.isNone = false ∧ (fn.name == "runtime.NumGoroutine") = false) : StrsOK P (ownL l) := by
  intro g e1 hg
  have : (g, e1) ∈ ks := by
    induction l with
    | nil => cases hg
    | cons q l ih =>
      obtain ⟨j, y⟩ := q
      rw [List.all_cons, Bool.and_eq_true] at h
      unfold ownL at hg
      cases hjb : Nat.beq j g with
      | true =>
        rw [hjb] at hg
        simp only [cond_true] at hg
        have h1 := h.1
        have h2 : is78b y = true := by unfold is78b; rw [hg]
        simp only [h2, Bool.not_true, Bool.or_false] at h1
        obtain ⟨k, hkm, hkk⟩ := List.any_eq_true.1 h1
        rw [Bool.and_eq_true] at hkk
        have h3 := nsEq_eq hkk.2
        rw [h3] at hg
        cases hg
        have e1 : g = k.1 := by rw [← Nat.eq_of_beq_eq_true hjb, Nat.eq_of_beq_eq_true hkk.1]
        rw [e1]
        exact hkm
      | false => rw [hjb] at hg; exact ih h.2 hg
  exact hk _ this
theorem ne_one {P : Program} {l : List (Nat × List Nat)} (k : Nat) (h : l.all (fun q => Nat.beq q.1 k || !(is77 q.2)) = true) {fn : Func} (hf : P.funcs[k]? = some fn) (hname : (fn.name == "runtime.NumGoroutine") = false)
    (hb : fn.body.isNone = true) (hn : Extern.findNext fn = none) (he : Extern.find fn = some Extern.AbiNoEscape.same) : NeOK P (ownL l) := by
  intro g hg x w
  have : g = k := by
    induction l with
    | nil => cases hg
    | cons q l ih =>
      obtain ⟨j, y⟩ := q
      rw [List.all_cons, Bool.and_eq_true] at h
      unfold ownL at hg
      cases hb : Nat.beq j g with
      | true =>
        rw [hb] at hg
        simp only [cond_true] at hg
        have h1 := h.1
        simp only [hg, Bool.not_true, Bool.or_false] at h1
        rw [← Nat.eq_of_beq_eq_true hb, Nat.eq_of_beq_eq_true h1]
      | false => rw [hb] at hg; exact ih h.2 hg
  subst this
  rw [run_callFunc_extern hf hname hb hn he]
  rfl
theorem orT_ok {P : Program} {f : FuncId} {α : Type} {I : Pk → Option α} {T U : Pk → Tr Pk} (h1 : FOK P f T) (h2 : FOK P f U) : FOK P f (orT I T U) := by
  intro pk r h
  unfold orT at h
  split at h
  · exact h1 pk r h
  · exact h2 pk r h
def look {γ : Type 1} : List (Nat × γ) → Nat → Option γ
  | [], _ => none
  | (j, x) :: r, i => bif Nat.beq j i then some x else look r i
def callIn (tab : List (Nat × (Pk → Tr Pk))) (f : FuncId) (pk : Pk) : Tr Pk :=
  match look tab f with
  | some T => T pk
  | none => .fail
def mkE (P : Program) (own : FuncId → List Nat) (tab : List (Nat × (Pk → Tr Pk))) (cuts : List (Nat × Cut)) : Env :=
  { P := P, call := callIn tab, own := own, cut := look cuts }
def TabOK (P : Program) : List (Nat × (Pk → Tr Pk)) → Prop
  | [] => True
  | (f, T) :: r => FOK P f T ∧ TabOK P r
theorem tab_ok {P : Program} {f : FuncId} {pk r : Pk} : ∀ (tab : List (Nat × (Pk → Tr Pk))), TabOK P tab → (callIn tab f pk).to r → (f < bigK → CallOK P f pk r) ∧ (bigK ≤ f → RndOK P f pk r)
  | [], _, hr => (Tr.to_fail hr).elim
  | (j, T) :: l, h, hr => by
    unfold callIn at hr
    by_cases e : j = f
    · subst e
      simp only [look, beq_self, cond_true] at hr
      exact h.1 pk r hr
    · simp only [look, beq_ne e, cond_false] at hr
      exact tab_ok l h.2 hr
theorem mkE_ok {P : Program} {own : FuncId → List Nat} {tab : List (Nat × (Pk → Tr Pk))} {cuts : List (Nat × Cut)} (hm : MixP P own) (h : TabOK P tab) : EnvOK (mkE P own tab cuts) :=
  ⟨hm.1, hm.2.2.1, hm.2.2.2, fun f pk r hf hr => (tab_ok tab h hr).1 hf, fun f pk r hf hr => (tab_ok tab h hr).2 hf, hm.2.1⟩
def CutOKb (P : Program) (b : Bool) (n : Nat) (pins : List Nat) (c : Code) (C : Cut) : Prop := ∀ ro : Option Nat, ro.isSome = b → CutOK P ro n pins c C
def CutsIn (P : Program) (b : Bool) (n : Nat) (pins : List Nat) (root : Code) : List (Nat × Cut) → Prop
  | [] => True
  | (q, C) :: r => (∀ c, At root q c → CutOKb P b n pins c C) ∧ CutsIn P b n pins root r
theorem cuts_look {P : Program} {b : Bool} {n : Nat} {pins : List Nat} {root : Code} {q : Nat} {c : Code} {C : Cut} : ∀ (cuts : List (Nat × Cut)), CutsIn P b n pins root cuts → At root q c → look cuts q = some C → CutOKb P b n pins c C
  | [], _, _, hC => by cases hC
  | (j, D) :: l, h, hat, hC => by
    by_cases e : j = q
    · subst e
      simp only [look, beq_self, cond_true, Option.some.injEq] at hC
      subst hC
      exact h.1 c hat
    · simp only [look, beq_ne e, cond_false] at hC
      exact cuts_look l h.2 hat hC
theorem cutsIn_ok {P : Program} {b : Bool} {ro : Option Nat} (hb : ro.isSome = b) {own : FuncId → List Nat} {tab : List (Nat × (Pk → Tr Pk))} {n : Nat} {pins : List Nat} {root : Code} {cuts : List (Nat × Cut)} (h : CutsIn P b n pins root cuts) : CutsOK (mkE P own tab cuts) ro n pins root :=
  fun _ _ _ hat hC => cuts_look cuts h hat hC ro hb
theorem tell_ok {E : Env} (hE : EnvOK E) {f : FuncId} {fn : Func} {c : Code} (hsm : Nat.ble bigK f = false) (hf : E.P.funcs[f]? = some fn) (hb : fn.body = some c) (hname : (fn.name == "runtime.NumGoroutine") = false) {α β : Type} {I : Pk → Option α} {J : α → Pk} {F : α → Option β} {D : Pk → Option β} {O : β → Tr Pk}
    (hI : ∀ pk x, I pk = some x → pk = J x) (hD : ∀ y r, D y = some r → ∀ z, (O r).to z → y = z) {args : List TV} (hids : ∀ x, idsL (J x).pins = idsL args) (hlt : ∀ x, (J x).roots.length ≤ fn.ntmps) (hC : CutsOK E none fn.ntmps (idsL args) c)
    (heq : ∀ x, (fnEv E fn (J x)).run D = F x) : FOK E.P f (tell I F O) := by
  refine FOK.of hsm fun pk r h => ?_
  unfold tell at h
  split at h
  · rename_i x hx
    obtain ⟨y, h1, h2⟩ := Tr.to_ask h
    rw [← heq x] at h1
    obtain ⟨z, h3, h4⟩ := Tr.to_run h1
    have := hD _ _ h4 _ h2
    subst this
    have := hI _ _ hx
    subst this
    exact fnOK hE hf hb hname (by rw [hids]; exact hC) (hlt x) h3
  · exact (Tr.to_fail h).elim
theorem loop_ok {b : Bool} {E : Env} (hE : EnvOK E) {root c : Code} {n p : Nat} {args : List TV} (hC : ∀ ro : Option Nat, ro.isSome = b → CutsOK E ro n (idsL args) root) {fuel : Nat} (hp : Nat.blt p (2 ^ fuel) = true) (hc : codeOf root fuel p = some (.loop c)) {α β : Type} {I : Pk → Option α} {J : α → Pk} {D : Ex × Pk → Option β} {O : β → Tr (Ex × Pk)}
    (hI : ∀ pk x, I pk = some x → pk = J x) (hD : ∀ y r, D y = some r → ∀ z, (O r).to z → y = z) {live : List Nat} {out : Ex → List Nat} (B : (α → Option β) → α → Option β) (F : Nat → α → Option β) (h0 : ∀ x, F 0 x = none) (h1 : ∀ k x, F (k + 1) x = B (F k) x)
    (heq : ∀ f x, (roundEv E n args c p { live := live, out := out, orc := tellX I f O } (J x)).run D = B f x) (k : Nat) :
    ∀ c', At root p c' → CutOKb E.P b n (idsL args) c' { live := live, out := out, orc := tellX I (F k) O } := by
  intro c' hat ro hb
  have hC := hC ro hb
  have hlt : p < 2 ^ fuel := Nat.blt_eq ▸ hp
  have hcc := hat.codeOf fuel hlt
  rw [hc] at hcc
  cases hcc
  refine loopOK hE hC hat (C := { live := live, out := out, orc := tellX I (F k) O }) (fun k => tellX I (F k) O) (fun pk r h => ?_) (fun k pk r h => ?_) k
  · unfold tellX at h
    split at h
    · obtain ⟨y, g1, g2⟩ := Tr.to_ask h
      rw [h0] at g1; cases g1
    · exact Tr.to_fail h
  · unfold tellX at h
    split at h
    · rename_i x hx
      obtain ⟨y, g1, g2⟩ := Tr.to_ask h
      rw [h1, ← heq] at g1
      obtain ⟨z, g3, g4⟩ := Tr.to_run g1
      have := hD _ _ g4 _ g2
      subst this
      have := hI _ _ hx
      subst this
      exact g3
    · exact (Tr.to_fail h).elim
def orc2 {α γ : Type} (I : Pk → Option α) (g : α → Tr γ) (t : Pk → Tr γ) (pk : Pk) : Tr γ :=
  match I pk with
  | some x => g x
  | none => t pk
def first2 {α β : Type} (G : Nat → α → Option β) (O : β → Tr (Ex × Pk)) : Nat → α → Tr (Ex × Pk)
  | 0, _ => .fail
  | k + 1, x => .ask β (G k x) O
theorem loop_ok2 {b : Bool} {E : Env} (hE : EnvOK E) {root c : Code} {n p : Nat} {args : List TV} (hC : ∀ ro : Option Nat, ro.isSome = b → CutsOK E ro n (idsL args) root) {fuel : Nat} (hp : Nat.blt p (2 ^ fuel) = true) (hc : codeOf root fuel p = some (.loop c)) {α α' β : Type} {I : Pk → Option α} {J : α → Pk} {I' : Pk → Option α'} {J' : α' → Pk}
    {D : Ex × Pk → Option β} {O : β → Tr (Ex × Pk)} (hI : ∀ pk x, I pk = some x → pk = J x) (hI' : ∀ pk x, I' pk = some x → pk = J' x) (hD : ∀ y r, D y = some r → ∀ z, (O r).to z → y = z) {live : List Nat} {out : Ex → List Nat}
    (B : (α' → Option β) → α → Option β) (B' : (α' → Option β) → α' → Option β) (F' : Nat → α' → Option β) (h0 : ∀ x, F' 0 x = none) (h1 : ∀ k x, F' (k + 1) x = B' (F' k) x)
    (heq : ∀ f g x, (roundEv E n args c p { live := live, out := out, orc := orc2 I g (tellX I' f O) } (J x)).run D = B f x)
    (heq' : ∀ f g x, (roundEv E n args c p { live := live, out := out, orc := orc2 I g (tellX I' f O) } (J' x)).run D = B' f x) (k : Nat) :
    ∀ c', At root p c' → CutOKb E.P b n (idsL args) c' { live := live, out := out, orc := tellX I (B (F' k)) O } := by
  intro c' hat ro hb
  have hC := hC ro hb
  have hlt : p < 2 ^ fuel := Nat.blt_eq ▸ hp
  have hcc := hat.codeOf fuel hlt
  rw [hc] at hcc
  cases hcc
  have key := loopOK hE hC hat (C := { live := live, out := out, orc := tellX I (B (F' k)) O }) (fun k => orc2 I (first2 (fun k => B (F' k)) O k) (tellX I' (F' k) O)) (fun pk r h => ?_) (fun k pk r h => ?_) (k + 1)
  · intro pk ex pk' h
    refine key pk ex pk' ?_
    unfold tellX at h
    simp only at h
    unfold orc2
    simp only
    cases hx : I pk with
    | none => rw [hx] at h; exact (Tr.to_fail h).elim
    | some x => rw [hx] at h; exact h
  · unfold orc2 at h
    split at h
    · exact Tr.to_fail h
    · unfold tellX at h
      split at h
      · obtain ⟨y, g1, g2⟩ := Tr.to_ask h
        rw [h0] at g1; cases g1
      · exact Tr.to_fail h
  · unfold orc2 at h
    split at h
    · rename_i x hx
      obtain ⟨y, g1, g2⟩ := Tr.to_ask h
      simp only at g1
      rw [← heq _ (first2 (fun k => B (F' k)) O k)] at g1
      obtain ⟨z, g3, g4⟩ := Tr.to_run g1
      have := hD _ _ g4 _ g2
      subst this
      have := hI _ _ hx
      subst this
      exact g3
    · unfold tellX at h
      split at h
      · rename_i x hx
        obtain ⟨y, g1, g2⟩ := Tr.to_ask h
        rw [h1, ← heq' _ (first2 (fun k => B (F' k)) O k)] at g1
        obtain ⟨z, g3, g4⟩ := Tr.to_run g1
        have := hD _ _ g4 _ g2
        subst this
        have := hI' _ _ hx
        subst this
        exact g3
      · exact (Tr.to_fail h).elim
theorem loop_ok3 {b : Bool} {E : Env} (hE : EnvOK E) {root c : Code} {n p : Nat} {args : List TV} (hC : ∀ ro : Option Nat, ro.isSome = b → CutsOK E ro n (idsL args) root) {fuel : Nat} (hp : Nat.blt p (2 ^ fuel) = true) (hc : codeOf root fuel p = some (.loop c)) {α α' β : Type} {I : Pk → Option α} {J : α → Pk} {I' : Pk → Option α'} {J' : α' → Pk}
    {D : Ex × Pk → Option β} {O : β → Tr (Ex × Pk)} (hI : ∀ pk x, I pk = some x → pk = J x) (hI' : ∀ pk x, I' pk = some x → pk = J' x) (hD : ∀ y r, D y = some r → ∀ z, (O r).to z → y = z) {live : List Nat} {out : Ex → List Nat}
    (B : (α → Option β) → (α' → Option β) → α → Option β) (F : Nat → α → Option β) (B' : (α' → Option β) → α' → Option β) (F' : Nat → α' → Option β) (g0 : ∀ x, F 0 x = none) (g1 : ∀ k x, F (k + 1) x = B (F k) (F' k) x) (h0 : ∀ x, F' 0 x = none) (h1 : ∀ k x, F' (k + 1) x = B' (F' k) x)
    (heq : ∀ f g x, (roundEv E n args c p { live := live, out := out, orc := orc2 I (fun x => .ask β (f x) O) (tellX I' g O) } (J x)).run D = B f g x)
    (heq' : ∀ f g x, (roundEv E n args c p { live := live, out := out, orc := orc2 I g (tellX I' f O) } (J' x)).run D = B' f x) (k : Nat) :
    ∀ c', At root p c' → CutOKb E.P b n (idsL args) c' { live := live, out := out, orc := tellX I (F k) O } := by
  intro c' hat ro hb
  have hC := hC ro hb
  have hlt : p < 2 ^ fuel := Nat.blt_eq ▸ hp
  have hcc := hat.codeOf fuel hlt
  rw [hc] at hcc
  cases hcc
  have key := loopOK hE hC hat (C := { live := live, out := out, orc := tellX I (F k) O }) (fun k => orc2 I (fun x => .ask β (F k x) O) (tellX I' (F' k) O)) (fun pk r h => ?_) (fun k pk r h => ?_) k
  · intro pk ex pk' h
    refine key pk ex pk' ?_
    unfold tellX at h
    simp only at h
    unfold orc2
    simp only
    cases hx : I pk with
    | none => rw [hx] at h; exact (Tr.to_fail h).elim
    | some x => rw [hx] at h; exact h
  · unfold orc2 at h
    split at h
    · obtain ⟨y, q1, q2⟩ := Tr.to_ask h
      rw [g0] at q1; cases q1
    · unfold tellX at h
      split at h
      · obtain ⟨y, q1, q2⟩ := Tr.to_ask h
        rw [h0] at q1; cases q1
      · exact Tr.to_fail h
  · unfold orc2 at h
    split at h
    · rename_i x hx
      obtain ⟨y, q1, q2⟩ := Tr.to_ask h
      rw [g1, ← heq] at q1
      obtain ⟨z, q3, q4⟩ := Tr.to_run q1
      have := hD _ _ q4 _ q2
      subst this
      have := hI _ _ hx
      subst this
      exact q3
    · unfold tellX at h
      split at h
      · rename_i x hx
        obtain ⟨y, q1, q2⟩ := Tr.to_ask h
        rw [h1, ← heq' _ (fun x => .ask β (F k x) O)] at q1
        obtain ⟨z, q3, q4⟩ := Tr.to_run q1
        have := hD _ _ q4 _ q2
        subst this
        have := hI' _ _ hx
        subst this
        exact q3
      · exact (Tr.to_fail h).elim
def orC {α : Type} (I : Pk → Option α) (C D : Cut) : Cut :=
  ⟨C.live, C.out, fun pk => match I pk with
    | some _ => C.orc pk
    | none => D.orc pk⟩
theorem orC_ok {P : Program} {b : Bool} {n : Nat} {pins : List Nat} {c : Code} {α : Type} {I : Pk → Option α} {C D : Cut} (h1 : CutOKb P b n pins c C) (h2 : CutOKb P b n pins c D) (hl : C.live = D.live) (ho : C.out = D.out) : CutOKb P b n pins c (orC I C D) := by
  obtain ⟨l, o, f⟩ := C
  obtain ⟨l2, o2, g⟩ := D
  simp only at hl ho
  subst hl; subst ho
  intro ro hb pk ex pk' h
  unfold orC at h
  simp only at h
  split at h
  · exact h1 ro hb pk ex pk' h
  · exact h2 ro hb pk ex pk' h
def loopAt (root : Code) (p : Nat) : Code := match codeOf root 200 p with
  | some (.loop c) => c
  | _ => .skip
theorem tell_to {α β : Type} {I : Pk → Option α} {F : α → Option β} {O : β → Tr Pk} {pk r : Pk} {x : α} {y : β} (hI : I pk = some x) (hF : F x = some y) (hO : (O y).to r) : (tell I F O pk).to r := by
  unfold tell
  rw [hI]
  show (F x).bind (fun y => (O y).run some) = some r
  rw [hF]
  exact hO
theorem CallOK.law {P : Program} {f : FuncId} {roots : List TV} {r : Pk} (h : CallOK P f ⟨roots, []⟩ r) (hr : r.roots.headD .dead = .v (.bool true)) {w : World} {R : Nat → Prop} (hR : ∀ b, R b → b < w.heap.size) {vs : List Value}
    (hv : repVL ⟨fun _ => False, fun _ => none, fun _ => none, R, w⟩ roots vs) : Calls P f vs.toArray w fun e w' => e = .returned (.bool true) ∧ RowKit.Below w.heap.size w w' := by
  have hcx : pkCx ⟨roots, []⟩ (fun _ => none) R w = ⟨fun _ => False, fun _ => none, fun _ => none, R, w⟩ := by
    unfold pkCx
    rw [show (fun i => i < (⟨roots, []⟩ : Pk).obs.length) = fun _ => False from funext fun i => propext (by simp)]
    rfl
  have hM : Mem (ownB ⟨roots, []⟩ fun _ => none) R w (pkCx ⟨roots, []⟩ (fun _ => none) R w) := by
    rw [hcx]
    exact ⟨fun _ h => (by cases h), Fr.refl _ _, fun _ _ h => (by cases h), fun _ _ _ h => (by cases h), fun _ _ h => (by cases h), fun _ _ h => (by cases h), fun _ _ h => (by cases h), fun b hb => .inl hb, fun b hb => hb, hR⟩
  refine (h.runs w (fun _ => none) R vs hM (by rw [hcx]; exact hv)).mono fun e w' ⟨v, mu', R', he, hM', hv', _⟩ => ?_
  rw [hr] at hv'
  have hv' : v = .bool true := hv'
  subst hv'
  have hfr := hM'.fr
  exact ⟨he, hfr.os, hfr.tape, hfr.output, hfr.size, fun k hk => hfr.block k hk fun ⟨i, h1, h2⟩ => by cases h2⟩
end
end Go.Am
namespace Go.Am
noncomputable section
variable [PI : Inhabited Program]
end
end Go.Am
namespace Go.Am
noncomputable section
variable [PI : Inhabited Program]
inductive LT where
  | one (t : Ty) | row (t : Ty) | nat | mp (k v : Ty)
@[reducible] def LT.den : LT → Type
  | .one t => t.den
  | .row t => List t.den
  | .nat => Nat
  | .mp k v => List (k.den × v.den)
@[reducible] def HL : List LT → Type
  | [] => Unit
  | a :: l => a.den × HL l
@[reducible] def HT : List LT → Type
  | [] => Unit
  | [a] => a.den
  | a :: b :: l => a.den × HT (b :: l)
def toT : (l : List LT) → HL l → HT l
  | [], _ => ()
  | [_], x => x.1
  | _ :: b :: l, x => (x.1, toT (b :: l) x.2)
def ofT : (l : List LT) → HT l → HL l
  | [], _ => ()
  | [_], x => (x, ())
  | _ :: b :: l, x => (x.1, ofT (b :: l) x.2)
theorem ofT_toT : ∀ (l : List LT) (x : HL l), ofT l (toT l x) = x
  | [], _ => rfl
  | [_], _ => rfl
  | _ :: b :: l, x => by
    show (x.1, ofT (b :: l) (toT (b :: l) x.2)) = x
    rw [ofT_toT]
inductive NH where
  | c (n : Nat) | h
inductive SV where
  | int (k : IntKind) | bool | str | ro (t : Ty) | adr (i : Nat) (p : List Step) | sl (i : Nat) | slp (i : Nat) (a b : NH) | radr (t : Ty) (p : List Step) | radrl (t : Ty) (p : List Step)
  | agg (l : List SV) | tup (l : List SV) | arr (t : Ty) (n : Nat) | clo (g : Nat) (l : List SV) | mp (i : Nat) | dead | nilsl | nilp | fn (g : Nat)
  | yv (i : Nat) | fv | nilf | nili | nilm | bc (b : Bool)
inductive SO where
  | row (t : Ty) (e : TypeId) | var (T : TypeId) (s : SV) | map (k v : Ty) | non | lp (k : Nat) (lv : List Nat) (l : List SV) (j : Nat)
structure SP where
  roots : List SV
  obs : List SO
@[reducible] def NH.lv : NH → List LT → List LT
  | .c _, r => r
  | .h, r => .nat :: r
mutual
@[reducible] def SV.lv : SV → List LT → List LT
  | .int k, r => .one (.int k) :: r
  | .bool, r => .one .bool :: r
  | .str, r => .one .str :: r
  | .ro t, r => .row t :: r
  | .slp _ a b, r => a.lv (b.lv r)
  | .radr t _, r => .one t :: r
  | .radrl t _, r => .row t :: r
  | .agg l, r => lvL l r
  | .tup l, r => lvL l r
  | .arr t _, r => .row t :: r
  | .clo _ l, r => lvL l r
  | .adr _ _, r => r
  | .sl _, r => r
  | .mp _, r => r
  | .dead, r => r
  | .nilsl, r => r
  | .nilp, r => r
  | .fn _, r => r
  | .yv _, r => r
  | .fv, r => .nat :: r
  | .nilf, r => r
  | .nili, r => r
  | .nilm, r => r
  | .bc _, r => r
@[reducible] def lvL : List SV → List LT → List LT
  | [], r => r
  | s :: l, r => s.lv (lvL l r)
end
@[reducible] def SO.lv : SO → List LT → List LT
  | .row t _, r => .row t :: r
  | .var _ s, r => s.lv r
  | .map k v, r => .mp k v :: r
  | .non, r => r
  | .lp _ _ l _, r => lvL l r
@[reducible] def lvO : List SO → List LT → List LT
  | [], r => r
  | s :: l, r => s.lv (lvO l r)
@[reducible] def SP.lv (S : SP) : List LT := lvL S.roots (lvO S.obs [])
def NH.enc : (s : NH) → (r : List LT) → HL (s.lv r) → Nat × HL r
  | .c n, _, x => (n, x)
  | .h, _, x => (x.1, x.2)
mutual
def SV.enc : (s : SV) → (r : List LT) → HL (s.lv r) → TV × HL r
  | .int k, _, x => (.v (.int k x.1), x.2)
  | .bool, _, x => (.v (.bool x.1), x.2)
  | .str, _, x => (.v (.string x.1), x.2)
  | .ro t, _, x => (.ro t x.1, x.2)
  | .slp i a b, r, x => (.sl i (some ((a.enc (b.lv r) x).1, (b.enc r (a.enc (b.lv r) x).2).1)), (b.enc r (a.enc (b.lv r) x).2).2)
  | .radr t p, _, x => (.radr t [x.1] p, x.2)
  | .radrl t p, _, x => (.radr t x.1 p, x.2)
  | .agg l, r, x => (.agg (encL l r x).1, (encL l r x).2)
  | .tup l, r, x => (.tup (encL l r x).1, (encL l r x).2)
  | .arr t n, _, x => (.arr t n x.1, x.2)
  | .clo g l, r, x => (.clo g (encL l r x).1, (encL l r x).2)
  | .adr i p, _, x => (.adr i p, x)
  | .sl i, _, x => (.sl i none, x)
  | .mp i, _, x => (.mp i, x)
  | .dead, _, x => (.dead, x)
  | .nilsl, _, x => (.v (.slice none 0 0), x)
  | .nilp, _, x => (.v (.pointer none), x)
  | .fn g, _, x => (.v (.func (.func g) ⟨[]⟩ ⟨[]⟩), x)
  | .yv i, _, x => (.yv i, x)
  | .fv, _, x => (.fv x.1, x.2)
  | .nilf, _, x => (.v .nilFunc, x)
  | .nili, _, x => (.v .nilIface, x)
  | .nilm, _, x => (.v (.map none), x)
  | .bc b, _, x => (.v (.bool b), x)
def encL : (l : List SV) → (r : List LT) → HL (lvL l r) → List TV × HL r
  | [], _, x => ([], x)
  | s :: l, r, x => ((s.enc (lvL l r) x).1 :: (encL l r (s.enc (lvL l r) x).2).1, (encL l r (s.enc (lvL l r) x).2).2)
end
def SO.enc : (s : SO) → (r : List LT) → HL (s.lv r) → Option Ob × HL r
  | .row t e, _, x => (some (.row t e x.1), x.2)
  | .var T s, r, x => (some (.var T (s.enc r x).1), (s.enc r x).2)
  | .map k v, _, x => (some (.map k v x.1), x.2)
  | .non, _, x => (none, x)
  | .lp k lv l j, r, x => (some (.lp k lv (encL l r x).1 j), (encL l r x).2)
def encO : (l : List SO) → (r : List LT) → HL (lvO l r) → List (Option Ob) × HL r
  | [], _, x => ([], x)
  | s :: l, r, x => ((s.enc (lvO l r) x).1 :: (encO l r (s.enc (lvO l r) x).2).1, (encO l r (s.enc (lvO l r) x).2).2)
def SP.encH (S : SP) (x : HL S.lv) : Pk := ⟨(encL S.roots (lvO S.obs []) x).1, (encO S.obs [] (encL S.roots (lvO S.obs []) x).2).1⟩
def SP.J (S : SP) (x : HT S.lv) : Pk := S.encH (ofT S.lv x)
def NH.dec : (s : NH) → (r : List LT) → Nat → HL r → Option (HL (s.lv r))
  | .c n, _, m, x => bif Nat.beq n m then some x else none
  | .h, _, m, x => some (m, x)
def kB : IntKind → IntKind → Bool
  | .i8, .i8 => true
  | .i16, .i16 => true
  | .i32, .i32 => true
  | .i64, .i64 => true
  | .u8, .u8 => true
  | .u16, .u16 => true
  | .u32, .u32 => true
  | .u64, .u64 => true
  | _, _ => false
theorem kB_eq : ∀ {a b : IntKind}, kB a b = true → a = b := by
  intro a b h
  cases a <;> cases b <;> first | rfl | cases h
def tyB : Ty → Ty → Bool
  | .int a, .int b => kB a b
  | .bool, .bool => true
  | .str, .str => true
  | .sl a, .sl b => tyB a b
  | .unit, .unit => true
  | .cons a b, .cons c d => tyB a c && tyB b d
  | _, _ => false
theorem tyB_eq : ∀ {a b : Ty}, tyB a b = true → a = b
  | .int _, .int _, h => by rw [kB_eq h]
  | .bool, .bool, _ => rfl
  | .str, .str, _ => rfl
  | .sl a, .sl b, h => by rw [tyB_eq (a := a) (b := b) h]
  | .unit, .unit, _ => rfl
  | .cons a b, .cons c d, h => by
    have h : (tyB a c && tyB b d) = true := h
    rw [Bool.and_eq_true] at h
    rw [tyB_eq h.1, tyB_eq h.2]
def onB {α : Type} (b : Bool) (f : b = true → Option α) : Option α := @Bool.rec (fun c => b = c → Option α) (fun _ => none) (fun h => f h) b rfl
theorem onB_some {α : Type} {b : Bool} {f : b = true → Option α} {y : α} (h : onB b f = some y) : ∃ e, f e = some y := by
  cases b with
  | true => exact ⟨rfl, h⟩
  | false => cases h
def dInt (k : IntKind) {ρ : Type} (v : TV) (y : ρ) : Option (Int × ρ) := match v with
  | .v (.int k' x) => bif kB k k' then some (x, y) else none
  | _ => none
def dBool {ρ : Type} (v : TV) (y : ρ) : Option (Bool × ρ) := match v with
  | .v (.bool x) => some (x, y)
  | _ => none
def dStr {ρ : Type} (v : TV) (y : ρ) : Option (ByteArray × ρ) := match v with
  | .v (.string x) => some (x, y)
  | _ => none
def dRo (t : Ty) {ρ : Type} (v : TV) (y : ρ) : Option (List t.den × ρ) := match v with
  | .ro u xs => onB (tyB u t) fun h => some (castL (tyB_eq h) xs, y)
  | _ => none
def dSlp {ρ σ : Type} (i : Nat) (f : Nat → Nat → ρ → Option σ) (v : TV) (y : ρ) : Option σ := match v with
  | .sl j (some (o, n)) => bif Nat.beq i j then f o n y else none
  | _ => none
def castD {t u : Ty} (h : t = u) (x : t.den) : u.den := h ▸ x
def dRadr (t : Ty) (p : List Step) {ρ : Type} (v : TV) (y : ρ) : Option (t.den × ρ) := match v with
  | .radr u [x] q => bif stsB p q then onB (tyB u t) fun h => some (castD (tyB_eq h) x, y) else none
  | _ => none
def dRadrl (t : Ty) (p : List Step) {ρ : Type} (v : TV) (y : ρ) : Option (List t.den × ρ) := match v with
  | .radr u xs q => bif stsB p q then onB (tyB u t) fun h => some (castL (tyB_eq h) xs, y) else none
  | _ => none
def dAgg {ρ σ : Type} (f : List TV → ρ → Option σ) (v : TV) (y : ρ) : Option σ := match v with
  | .agg l => f l y
  | _ => none
def dTup {ρ σ : Type} (f : List TV → ρ → Option σ) (v : TV) (y : ρ) : Option σ := match v with
  | .tup l => f l y
  | _ => none
def dArr (t : Ty) (n : Nat) {ρ : Type} (v : TV) (y : ρ) : Option (List t.den × ρ) := match v with
  | .arr u m xs => bif Nat.beq n m then onB (tyB u t) fun h => some (castL (tyB_eq h) xs, y) else none
  | _ => none
def dClo (g : Nat) {ρ σ : Type} (f : List TV → ρ → Option σ) (v : TV) (y : ρ) : Option σ := match v with
  | .clo g' l => bif Nat.beq g g' then f l y else none
  | _ => none
def dAdr (i : Nat) (p : List Step) {ρ : Type} (v : TV) (y : ρ) : Option ρ := match v with
  | .adr j q => bif Nat.beq i j then (bif stsB p q then some y else none) else none
  | _ => none
def dSl (i : Nat) {ρ : Type} (v : TV) (y : ρ) : Option ρ := match v with
  | .sl j none => bif Nat.beq i j then some y else none
  | _ => none
def dMp (i : Nat) {ρ : Type} (v : TV) (y : ρ) : Option ρ := match v with
  | .mp j => bif Nat.beq i j then some y else none
  | _ => none
def dDead {ρ : Type} (v : TV) (y : ρ) : Option ρ := match v with
  | .dead => some y
  | _ => none
def dNilsl {ρ : Type} (v : TV) (y : ρ) : Option ρ := match v with
  | .v (.slice none 0 0) => some y
  | _ => none
def dNilp {ρ : Type} (v : TV) (y : ρ) : Option ρ := match v with
  | .v (.pointer none) => some y
  | _ => none
def dFn (g : Nat) {ρ : Type} (v : TV) (y : ρ) : Option ρ := match v with
  | .v (.func (.func f) ⟨[]⟩ ⟨[]⟩) => bif Nat.beq g f then some y else none
  | _ => none
def dYv (i : Nat) {ρ : Type} (v : TV) (y : ρ) : Option ρ := match v with
  | .yv j => bif Nat.beq i j then some y else none
  | _ => none
def dFv {ρ : Type} (v : TV) (y : ρ) : Option (Nat × ρ) := match v with
  | .fv n => some (n, y)
  | _ => none
def dNilf {ρ : Type} (v : TV) (y : ρ) : Option ρ := match v with
  | .v .nilFunc => some y
  | _ => none
def dNili {ρ : Type} (v : TV) (y : ρ) : Option ρ := match v with
  | .v .nilIface => some y
  | _ => none
def dNilm {ρ : Type} (v : TV) (y : ρ) : Option ρ := match v with
  | .v (.map none) => some y
  | _ => none
def bB : Bool → Bool → Bool
  | true, true => true
  | false, false => true
  | _, _ => false
def dBc (b : Bool) {ρ : Type} (v : TV) (y : ρ) : Option ρ := match v with
  | .v (.bool c) => bif bB b c then some y else none
  | _ => none
mutual
def SV.dec : (s : SV) → (r : List LT) → TV → HL r → Option (HL (s.lv r))
  | .int k, _, v, y => dInt k v y
  | .bool, _, v, y => dBool v y
  | .str, _, v, y => dStr v y
  | .ro t, _, v, y => dRo t v y
  | .slp i a b, r, v, y => dSlp i (fun o n y => match b.dec r n y with
      | some z => a.dec (b.lv r) o z
      | none => none) v y
  | .radr t p, _, v, y => dRadr t p v y
  | .radrl t p, _, v, y => dRadrl t p v y
  | .agg l, r, v, y => dAgg (decL l r) v y
  | .tup l, r, v, y => dTup (decL l r) v y
  | .arr t n, _, v, y => dArr t n v y
  | .clo g l, r, v, y => dClo g (decL l r) v y
  | .adr i p, _, v, y => dAdr i p v y
  | .sl i, _, v, y => dSl i v y
  | .mp i, _, v, y => dMp i v y
  | .dead, _, v, y => dDead v y
  | .nilsl, _, v, y => dNilsl v y
  | .nilp, _, v, y => dNilp v y
  | .fn g, _, v, y => dFn g v y
  | .yv i, _, v, y => dYv i v y
  | .fv, _, v, y => dFv v y
  | .nilf, _, v, y => dNilf v y
  | .nili, _, v, y => dNili v y
  | .nilm, _, v, y => dNilm v y
  | .bc b, _, v, y => dBc b v y
def decL : (l : List SV) → (r : List LT) → List TV → HL r → Option (HL (lvL l r))
  | [], _, [], y => some y
  | s :: l, r, v :: vs, y => match decL l r vs y with
    | some z => s.dec (lvL l r) v z
    | none => none
  | _, _, _, _ => none
end
def dRow (t : Ty) (e : TypeId) {ρ : Type} (v : Option Ob) (y : ρ) : Option (List t.den × ρ) := match v with
  | some (.row u e' xs) => bif Nat.beq e e' then onB (tyB u t) fun h => some (castL (tyB_eq h) xs, y) else none
  | _ => none
def dVar (T : TypeId) {ρ σ : Type} (f : TV → ρ → Option σ) (v : Option Ob) (y : ρ) : Option σ := match v with
  | some (.var U x) => bif Nat.beq T U then f x y else none
  | _ => none
def castM2 {k v k' v' : Ty} (h : k' = k) (g : v' = v) (xs : List (k'.den × v'.den)) : List (k.den × v.den) := h ▸ g ▸ xs
def dMap (k w : Ty) {ρ : Type} (v : Option Ob) (y : ρ) : Option (List (k.den × w.den) × ρ) := match v with
  | some (.map k' w' xs) => onB (tyB k' k) fun h => onB (tyB w' w) fun g => some (castM2 (tyB_eq h) (tyB_eq g) xs, y)
  | _ => none
def dNon {ρ : Type} (v : Option Ob) (y : ρ) : Option ρ := match v with
  | none => some y
  | _ => none
def dLp (k : Nat) (lv : List Nat) (j : Nat) {ρ σ : Type} (f : List TV → ρ → Option σ) (v : Option Ob) (y : ρ) : Option σ := match v with
  | some (.lp k' lv' cap j') => bif Nat.beq k k' && (nsEq lv lv' && Nat.beq j j') then f cap y else none
  | _ => none
def SO.dec : (s : SO) → (r : List LT) → Option Ob → HL r → Option (HL (s.lv r))
  | .row t e, _, v, y => dRow t e v y
  | .var T s, r, v, y => dVar T (s.dec r) v y
  | .map k w, _, v, y => dMap k w v y
  | .non, _, v, y => dNon v y
  | .lp k lv l j, r, v, y => dLp k lv j (decL l r) v y
def decO : (l : List SO) → (r : List LT) → List (Option Ob) → HL r → Option (HL (lvO l r))
  | [], _, [], y => some y
  | s :: l, r, v :: vs, y => match decO l r vs y with
    | some z => s.dec (lvO l r) v z
    | none => none
  | _, _, _, _ => none
def SP.decH (S : SP) (pk : Pk) : Option (HL S.lv) := match decO S.obs [] pk.obs () with
  | some y => decL S.roots (lvO S.obs []) pk.roots y
  | none => none
def SV.fit : SV → TV → Bool
  | .sl i, .sl j none => Nat.beq i j
  | .slp i _ _, .sl j (some _) => Nat.beq i j
  | .ro _, .ro _ _ => true
  | .adr i _, .adr j _ => Nat.beq i j
  | .int _, .v (.int _ _) => true
  | .bool, .v (.bool _) => true
  | .str, .v (.string _) => true
  | .nilsl, .v (.slice _ _ _) => true
  | .nilp, .v (.pointer _) => true
  | .fn _, .v (.func _ _ _) => true
  | .radr _ _, .radr _ _ _ => true
  | .radrl _ _, .radr _ _ _ => true
  | .agg _, .agg _ => true
  | .tup _, .tup _ => true
  | .arr _ _, .arr _ _ _ => true
  | .clo g _, .clo g' _ => Nat.beq g g'
  | .mp i, .mp j => Nat.beq i j
  | .dead, .dead => true
  | .yv i, .yv j => Nat.beq i j
  | .fv, .fv _ => true
  | .nilf, .v .nilFunc => true
  | .nili, .v .nilIface => true
  | .nilm, .v (.map _) => true
  | .bc b, .v (.bool c) => bB b c
  | _, _ => false
def fitL : List SV → List TV → Bool
  | [], [] => true
  | s :: l, v :: m => bif s.fit v then fitL l m else false
  | _, _ => false
def SP.I (S : SP) (pk : Pk) : Option (HT S.lv) := bif fitL S.roots pk.roots then (match S.decH pk with
  | some y => some (toT S.lv y)
  | none => none) else none
theorem NH.dec_enc (s : NH) (r : List LT) (m : Nat) (x : HL r) (y : HL (s.lv r)) (h : s.dec r m x = some y) : s.enc r y = (m, x) := by
  cases s with
  | c n =>
    simp only [NH.dec] at h
    cases hb : Nat.beq n m with
    | false => rw [hb] at h; cases h
    | true =>
      rw [hb] at h
      cases h
      rw [Nat.eq_of_beq_eq_true hb]
      rfl
  | h => cases h; rfl
mutual
theorem SV.dec_enc : ∀ (s : SV) (r : List LT) (v : TV) (x : HL r) (y : HL (s.lv r)), s.dec r v x = some y → s.enc r y = (v, x)
  | .int k, r, v, x, y, h => by
    simp only [SV.dec] at h
    unfold dInt at h
    split at h
    · rename_i k' n
      cases hb : kB k k' with
      | false => rw [hb] at h; cases h
      | true => rw [hb] at h; cases h; rw [← kB_eq hb]; rfl
    · cases h
  | .bool, r, v, x, y, h => by
    simp only [SV.dec] at h
    unfold dBool at h
    split at h <;> first | (cases h; rfl) | cases h
  | .str, r, v, x, y, h => by
    simp only [SV.dec] at h
    unfold dStr at h
    split at h <;> first | (cases h; rfl) | cases h
  | .ro t, r, v, x, y, h => by
    simp only [SV.dec] at h
    unfold dRo at h
    split at h
    · obtain ⟨e, h⟩ := onB_some h
      have := tyB_eq e
      subst this
      cases h; rfl
    · cases h
  | .slp i a b, r, v, x, y, h => by
    simp only [SV.dec] at h
    unfold dSlp at h
    split at h
    · rename_i j o n
      cases hb : Nat.beq i j with
      | false => rw [hb] at h; cases h
      | true =>
        rw [hb] at h
        simp only [cond_true] at h
        cases hz : b.dec r n x with
        | none => rw [hz] at h; cases h
        | some z =>
          rw [hz] at h
          have h1 := NH.dec_enc a (b.lv r) o z y h
          have h2 := NH.dec_enc b r n x z hz
          rw [← Nat.eq_of_beq_eq_true hb]
          simp only [SV.enc, h1, h2]
    · cases h
  | .radr t p, r, v, x, y, h => by
    simp only [SV.dec] at h
    unfold dRadr at h
    split at h
    · rename_i u z q
      cases hb : stsB p q with
      | false => rw [hb] at h; cases h
      | true =>
        rw [hb] at h
        simp only [cond_true] at h
        obtain ⟨e, h⟩ := onB_some h
        have := tyB_eq e
        subst this
        have := stsB_eq hb
        subst this
        cases h; rfl
    · cases h
  | .radrl t p, r, v, x, y, h => by
    simp only [SV.dec] at h
    unfold dRadrl at h
    split at h
    · rename_i u z q
      cases hb : stsB p q with
      | false => rw [hb] at h; cases h
      | true =>
        rw [hb] at h
        simp only [cond_true] at h
        obtain ⟨e, h⟩ := onB_some h
        have := tyB_eq e
        subst this
        have := stsB_eq hb
        subst this
        cases h; rfl
    · cases h
  | .agg l, r, v, x, y, h => by
    simp only [SV.dec] at h
    unfold dAgg at h
    split at h
    · have h1 := decL_enc l r _ x y h
      simp only [SV.enc, h1]
    · cases h
  | .tup l, r, v, x, y, h => by
    simp only [SV.dec] at h
    unfold dTup at h
    split at h
    · have h1 := decL_enc l r _ x y h
      simp only [SV.enc, h1]
    · cases h
  | .arr t n, r, v, x, y, h => by
    simp only [SV.dec] at h
    unfold dArr at h
    split at h
    · rename_i u m xs
      cases hb : Nat.beq n m with
      | false => rw [hb] at h; cases h
      | true =>
        rw [hb] at h
        simp only [cond_true] at h
        obtain ⟨e, h⟩ := onB_some h
        have := tyB_eq e
        subst this
        have := Nat.eq_of_beq_eq_true hb
        subst this
        cases h; rfl
    · cases h
  | .clo g l, r, v, x, y, h => by
    simp only [SV.dec] at h
    unfold dClo at h
    split at h
    · rename_i g' vs
      cases hb : Nat.beq g g' with
      | false => rw [hb] at h; cases h
      | true =>
        rw [hb] at h
        have h1 := decL_enc l r _ x y h
        have := Nat.eq_of_beq_eq_true hb
        subst this
        simp only [SV.enc, h1]
    · cases h
  | .adr i p, r, v, x, y, h => by
    simp only [SV.dec] at h
    unfold dAdr at h
    split at h
    · rename_i j q
      cases hb : Nat.beq i j with
      | false => rw [hb] at h; cases h
      | true =>
        rw [hb] at h
        cases hc : stsB p q with
        | false => rw [hc] at h; cases h
        | true =>
          rw [hc] at h
          have := Nat.eq_of_beq_eq_true hb
          subst this
          have := stsB_eq hc
          subst this
          cases h; rfl
    · cases h
  | .sl i, r, v, x, y, h => by
    simp only [SV.dec] at h
    unfold dSl at h
    split at h
    · rename_i j
      cases hb : Nat.beq i j with
      | false => rw [hb] at h; cases h
      | true =>
        rw [hb] at h
        have := Nat.eq_of_beq_eq_true hb
        subst this
        cases h; rfl
    · cases h
  | .mp i, r, v, x, y, h => by
    simp only [SV.dec] at h
    unfold dMp at h
    split at h
    · rename_i j
      cases hb : Nat.beq i j with
      | false => rw [hb] at h; cases h
      | true =>
        rw [hb] at h
        have := Nat.eq_of_beq_eq_true hb
        subst this
        cases h; rfl
    · cases h
  | .dead, r, v, x, y, h => by
    simp only [SV.dec] at h
    unfold dDead at h
    split at h <;> first | (cases h; rfl) | cases h
  | .nilsl, r, v, x, y, h => by
    simp only [SV.dec] at h
    unfold dNilsl at h
    split at h <;> first | (cases h; rfl) | cases h
  | .nilp, r, v, x, y, h => by
    simp only [SV.dec] at h
    unfold dNilp at h
    split at h <;> first | (cases h; rfl) | cases h
  | .fn g, r, v, x, y, h => by
    simp only [SV.dec] at h
    unfold dFn at h
    split at h
    · rename_i f
      cases hb : Nat.beq g f with
      | false => rw [hb] at h; cases h
      | true =>
        rw [hb] at h
        have := Nat.eq_of_beq_eq_true hb
        subst this
        cases h; rfl
    · cases h
  | .yv i, r, v, x, y, h => by
    simp only [SV.dec] at h
    unfold dYv at h
    split at h
    · rename_i j
      cases hb : Nat.beq i j with
      | false => rw [hb] at h; cases h
      | true =>
        rw [hb] at h
        have := Nat.eq_of_beq_eq_true hb
        subst this
        cases h; rfl
    · cases h
  | .fv, r, v, x, y, h => by
    simp only [SV.dec] at h
    unfold dFv at h
    split at h <;> first | (cases h; rfl) | cases h
  | .nilf, r, v, x, y, h => by
    simp only [SV.dec] at h
    unfold dNilf at h
    split at h <;> first | (cases h; rfl) | cases h
  | .nili, r, v, x, y, h => by
    simp only [SV.dec] at h
    unfold dNili at h
    split at h <;> first | (cases h; rfl) | cases h
  | .nilm, r, v, x, y, h => by
    simp only [SV.dec] at h
    unfold dNilm at h
    split at h <;> first | (cases h; rfl) | cases h
  | .bc b, r, v, x, y, h => by
    simp only [SV.dec] at h
    unfold dBc at h
    split at h
    · rename_i c
      cases b <;> cases c <;> first | (cases h; rfl) | cases h
    · cases h
theorem decL_enc : ∀ (l : List SV) (r : List LT) (vs : List TV) (x : HL r) (y : HL (lvL l r)), decL l r vs x = some y → encL l r y = (vs, x)
  | [], r, [], x, y, h => by cases h; rfl
  | [], r, _ :: _, x, y, h => by cases h
  | _ :: _, r, [], x, y, h => by cases h
  | s :: l, r, v :: vs, x, y, h => by
    simp only [decL] at h
    cases hz : decL l r vs x with
    | none => rw [hz] at h; cases h
    | some z =>
      rw [hz] at h
      have h1 := SV.dec_enc s (lvL l r) v z y h
      have h2 := decL_enc l r vs x z hz
      simp only [encL, h1, h2]
end
theorem SO.dec_enc (s : SO) (r : List LT) (v : Option Ob) (x : HL r) (y : HL (s.lv r)) (h : s.dec r v x = some y) : s.enc r y = (v, x) := by
  cases s with
  | row t e =>
    simp only [SO.dec] at h
    unfold dRow at h
    split at h
    · rename_i u e' xs
      cases hb : Nat.beq e e' with
      | false => rw [hb] at h; cases h
      | true =>
        rw [hb] at h
        simp only [cond_true] at h
        obtain ⟨g, h⟩ := onB_some h
        have := tyB_eq g
        subst this
        have := Nat.eq_of_beq_eq_true hb
        subst this
        cases h; rfl
    · cases h
  | var T s =>
    simp only [SO.dec] at h
    unfold dVar at h
    split at h
    · rename_i U z
      cases hb : Nat.beq T U with
      | false => rw [hb] at h; cases h
      | true =>
        rw [hb] at h
        have h1 := SV.dec_enc s r _ x y h
        have := Nat.eq_of_beq_eq_true hb
        subst this
        simp only [SO.enc, h1]
    · cases h
  | map k w =>
    simp only [SO.dec] at h
    unfold dMap at h
    split at h
    · obtain ⟨e, h⟩ := onB_some h
      obtain ⟨g, h⟩ := onB_some h
      have := tyB_eq e
      subst this
      have := tyB_eq g
      subst this
      cases h; rfl
    · cases h
  | lp k lv l j =>
    simp only [SO.dec] at h
    unfold dLp at h
    split at h
    · rename_i k' lv' cap j'
      cases hb : Nat.beq k k' && (nsEq lv lv' && Nat.beq j j') with
      | false => rw [hb] at h; cases h
      | true =>
        rw [hb] at h
        rw [Bool.and_eq_true, Bool.and_eq_true] at hb
        have h1 := decL_enc l r _ x y h
        have := Nat.eq_of_beq_eq_true hb.1
        subst this
        have := nsEq_eq hb.2.1
        subst this
        have := Nat.eq_of_beq_eq_true hb.2.2
        subst this
        simp only [SO.enc, h1]
    · cases h
  | non =>
    simp only [SO.dec] at h
    unfold dNon at h
    split at h <;> first | (cases h; rfl) | cases h
theorem decO_enc : ∀ (l : List SO) (r : List LT) (vs : List (Option Ob)) (x : HL r) (y : HL (lvO l r)), decO l r vs x = some y → encO l r y = (vs, x)
  | [], r, [], x, y, h => by cases h; rfl
  | [], r, _ :: _, x, y, h => by cases h
  | _ :: _, r, [], x, y, h => by cases h
  | s :: l, r, v :: vs, x, y, h => by
    simp only [decO] at h
    cases hz : decO l r vs x with
    | none => rw [hz] at h; cases h
    | some z =>
      rw [hz] at h
      have h1 := SO.dec_enc s (lvO l r) v z y h
      have h2 := decO_enc l r vs x z hz
      simp only [encO, h1, h2]
theorem SP.I_J (S : SP) (pk : Pk) (x : HT S.lv) (h : S.I pk = some x) : pk = S.J x := by
  unfold SP.I at h
  cases hf : fitL S.roots pk.roots with
  | false => rw [hf] at h; cases h
  | true =>
  rw [hf] at h
  simp only [cond_true] at h
  cases hy : S.decH pk with
  | none => rw [hy] at h; cases h
  | some y =>
    rw [hy] at h
    cases h
    unfold SP.J
    rw [ofT_toT]
    unfold SP.decH at hy
    cases hz : decO S.obs [] pk.obs () with
    | none => rw [hz] at hy; cases hy
    | some z =>
      rw [hz] at hy
      have h1 := decL_enc _ _ _ _ _ hy
      have h2 := decO_enc _ _ _ _ _ hz
      obtain ⟨roots, obs⟩ := pk
      unfold SP.encH
      rw [h1]
      show (⟨roots, obs⟩ : Pk) = ⟨roots, (encO S.obs [] z).1⟩
      rw [h2]
@[reducible] def WT : List SP → Type
  | [] => Unit
  | [s] => HT s.lv
  | s :: t :: l => HT s.lv ⊕ WT (t :: l)
def pO : (l : List SP) → WT l → Tr Pk
  | [], _ => .fail
  | [s], x => .ret (s.J x)
  | s :: t :: l, x => .sum _ _ x (fun u => .ret (s.J u)) (fun v => pO (t :: l) v)
def pD : (l : List SP) → Pk → Option (WT l)
  | [], _ => none
  | [s], pk => s.I pk
  | s :: t :: l, pk => match s.I pk with
    | some x => some (.inl x)
    | none => match pD (t :: l) pk with
      | some x => some (.inr x)
      | none => none
theorem pD_O : ∀ (l : List SP) (y : Pk) (r : WT l), pD l y = some r → ∀ z, (pO l r).to z → y = z
  | [], _, _, h, _, _ => by cases h
  | [s], y, r, h, z, hz => by
    rw [s.I_J y r h]
    exact Tr.to_ret hz
  | s :: t :: l, y, r, h, z, hz => by
    simp only [pD] at h
    cases hx : s.I y with
    | some x =>
      rw [hx] at h
      cases h
      rw [s.I_J y x hx]
      exact Option.some.inj hz
    | none =>
      rw [hx] at h
      cases hy : pD (t :: l) y with
      | none => rw [hy] at h; cases h
      | some x =>
        rw [hy] at h
        cases h
        exact pD_O (t :: l) y x hy z hz
def exB : Ex → Ex → Bool
  | .normal, .normal => true
  | .ret, .ret => true
  | .exit a, .exit b => Nat.beq a b
  | _, _ => false
theorem exB_eq : ∀ {a b : Ex}, exB a b = true → a = b
  | .normal, .normal, _ => rfl
  | .ret, .ret, _ => rfl
  | .exit a, .exit b, h => by rw [Nat.eq_of_beq_eq_true (show Nat.beq a b = true from h)]
@[reducible] def XT : List (Ex × SP) → Type
  | [] => Unit
  | [s] => HT s.2.lv
  | s :: t :: l => HT s.2.lv ⊕ XT (t :: l)
def xO : (l : List (Ex × SP)) → XT l → Tr (Ex × Pk)
  | [], _ => .fail
  | [s], x => .ret (s.1, s.2.J x)
  | s :: t :: l, x => .sum _ _ x (fun u => .ret (s.1, s.2.J u)) (fun v => xO (t :: l) v)
def xI (s : Ex × SP) (y : Ex × Pk) : Option (HT s.2.lv) := bif exB s.1 y.1 then s.2.I y.2 else none
theorem xI_J (s : Ex × SP) (y : Ex × Pk) (x : HT s.2.lv) (h : xI s y = some x) : y = (s.1, s.2.J x) := by
  unfold xI at h
  cases hb : exB s.1 y.1 with
  | false => rw [hb] at h; cases h
  | true =>
    rw [hb] at h
    obtain ⟨e, pk⟩ := y
    rw [exB_eq hb, ← s.2.I_J pk x h]
def xD : (l : List (Ex × SP)) → Ex × Pk → Option (XT l)
  | [], _ => none
  | [s], y => xI s y
  | s :: t :: l, y => match xI s y with
    | some x => some (.inl x)
    | none => match xD (t :: l) y with
      | some x => some (.inr x)
      | none => none
theorem xD_O : ∀ (l : List (Ex × SP)) (y : Ex × Pk) (r : XT l), xD l y = some r → ∀ z, (xO l r).to z → y = z
  | [], _, _, h, _, _ => by cases h
  | [s], y, r, h, z, hz => by
    rw [xI_J s y r h]
    exact Tr.to_ret hz
  | s :: t :: l, y, r, h, z, hz => by
    simp only [xD] at h
    cases hx : xI s y with
    | some x =>
      rw [hx] at h
      cases h
      rw [xI_J s y x hx]
      exact Option.some.inj hz
    | none =>
      rw [hx] at h
      cases hy : xD (t :: l) y with
      | none => rw [hy] at h; cases h
      | some x =>
        rw [hy] at h
        cases h
        exact xD_O (t :: l) y x hy z hz
def outL : List (Ex × List Nat) → Ex → List Nat
  | [], _ => []
  | x :: l, e => bif exB x.1 e then x.2 else outL l e
structure LD where
  p : Nat
  live : List Nat
  out : List (Ex × List Nat)
  s : SP
  w : List (Ex × SP)
@[reducible] def LD.X (L : LD) : Type := HT L.s.lv
@[reducible] def LD.R (L : LD) : Type := XT L.w
def LD.cut (L : LD) (F : L.X → Option L.R) : Cut := ⟨L.live, outL L.out, tellX L.s.I F (xO L.w)⟩
def CutAt (P : Program) (b : Bool) (fn : Func) (A : List Nat) (p : Nat) (C : Cut) : Prop := ∀ c', At (bod fn) p c' → CutOKb P b fn.ntmps (idsL (A.map fun i => .adr i [])) c' C
def argA (A : List Nat) : List TV := A.map fun i => .adr i []
def LD.rnd (L : LD) (E : Env) (fn : Func) (A : List Nat) (f : L.X → Option L.R) (x : L.X) : Option L.R :=
  (roundEv E fn.ntmps (argA A) (loopAt (bod fn) L.p) L.p (L.cut f) (L.s.J x)).run (xD L.w)
theorem LD.loop (L : LD) {b : Bool} {E : Env} (hE : EnvOK E) {fn : Func} {A : List Nat} (hC : ∀ ro : Option Nat, ro.isSome = b → CutsOK E ro fn.ntmps (idsL (argA A)) (bod fn)) (hp : Nat.blt L.p (2 ^ 200) = true) (hc : codeOf (bod fn) 200 L.p = some (.loop (loopAt (bod fn) L.p)))
    (B : (L.X → Option L.R) → L.X → Option L.R) (F : Nat → L.X → Option L.R) (h0 : ∀ x, F 0 x = none) (h1 : ∀ k x, F (k + 1) x = B (F k) x) (heq : ∀ f x, L.rnd E fn A f x = B f x) (k : Nat) : CutAt E.P b fn A L.p (L.cut (F k)) :=
  loop_ok hE hC hp hc (L.s.I_J) (xD_O L.w) B F h0 h1 heq k
def codeAt_ (fn : Func) (p : Nat) : Code := match codeOf (bod fn) 200 p with
  | some c => c
  | none => .skip
def LD.pce (L : LD) (E : Env) (fn : Func) (A : List Nat) (x : L.X) : Option L.R :=
  (pieceEv E fn.ntmps (argA A) (codeAt_ fn L.p) L.p (L.cut fun _ => none) (L.s.J x)).run (xD L.w)
theorem LD.piece (L : LD) {b : Bool} {E : Env} (hE : EnvOK E) {fn : Func} {A : List Nat} (hC : ∀ ro : Option Nat, ro.isSome = b → CutsOK E ro fn.ntmps (idsL (argA A)) (bod fn)) (hp : Nat.blt L.p (2 ^ 200) = true) (hc : codeOf (bod fn) 200 L.p = some (codeAt_ fn L.p))
    (F : L.X → Option L.R) (heq : ∀ x, L.pce E fn A x = F x) : CutAt E.P b fn A L.p (L.cut F) := by
  intro c' hat ro hb
  have hcc := hat.codeOf 200 (Nat.blt_eq ▸ hp)
  rw [hc] at hcc
  cases hcc
  refine pieceOK hE (hC ro hb) hat (C := L.cut F) fun pk r h => ?_
  unfold LD.cut tellX at h
  simp only at h
  split at h
  · rename_i x hx
    obtain ⟨y, g1, g2⟩ := Tr.to_ask h
    rw [← heq] at g1
    obtain ⟨z, g3, g4⟩ := Tr.to_run g1
    have := xD_O L.w _ _ g4 _ g2
    subst this
    have := L.s.I_J _ _ hx
    subst this
    exact g3
  · exact (Tr.to_fail h).elim
def fnR (E : Env) (fn : Func) (s : SP) (w : List SP) (x : HT s.lv) : Option (WT w) := (fnEv E fn (s.J x)).run (pD w)
def tellS (s : SP) (w : List SP) (F : HT s.lv → Option (WT w)) : Pk → Tr Pk := tell s.I F (pO w)
theorem LD.loopT {P : Program} {b : Bool} {tab : List (Nat × (Pk → Tr Pk))} (L : LD) (own : FuncId → List Nat) (hm : MixP P own) (ht : TabOK P tab) (fn : Func) (A : List Nat) {cuts : List (Nat × Cut)} (hC : CutsIn P b fn.ntmps (idsL (argA A)) (bod fn) cuts) (hp : Nat.blt L.p (2 ^ 200) = true)
    (hc : codeOf (bod fn) 200 L.p = some (.loop (loopAt (bod fn) L.p))) (B : (L.X → Option L.R) → L.X → Option L.R) (F : Nat → L.X → Option L.R) (h0 : ∀ x, F 0 x = none) (h1 : ∀ k x, F (k + 1) x = B (F k) x) (heq : ∀ f x, L.rnd (mkE P own tab cuts) fn A f x = B f x) (k : Nat) : CutAt P b fn A L.p (L.cut (F k)) :=
  L.loop (E := mkE P own tab cuts) (mkE_ok hm ht) (fun _ hb => cutsIn_ok hb hC) hp hc B F h0 h1 heq k
theorem LD.pieceT {P : Program} {b : Bool} {tab : List (Nat × (Pk → Tr Pk))} (L : LD) (own : FuncId → List Nat) (hm : MixP P own) (ht : TabOK P tab) (fn : Func) (A : List Nat) {cuts : List (Nat × Cut)} (hC : CutsIn P b fn.ntmps (idsL (argA A)) (bod fn) cuts) (hp : Nat.blt L.p (2 ^ 200) = true)
    (hc : codeOf (bod fn) 200 L.p = some (codeAt_ fn L.p)) (F : L.X → Option L.R) (heq : ∀ x, L.pce (mkE P own tab cuts) fn A x = F x) : CutAt P b fn A L.p (L.cut F) :=
  L.piece (E := mkE P own tab cuts) (mkE_ok hm ht) (fun _ hb => cutsIn_ok hb hC) hp hc F heq
def LD.rnd2 (L : LD) (s : SP) (E : Env) (fn : Func) (A : List Nat) (f : HT s.lv → Option L.R) (g : L.X → Tr (Ex × Pk)) (pk : Pk) : Option L.R :=
  (roundEv E fn.ntmps (argA A) (loopAt (bod fn) L.p) L.p ⟨L.live, outL L.out, orc2 L.s.I g (tellX s.I f (xO L.w))⟩ pk).run (xD L.w)
theorem LD.loop2T {P : Program} {b : Bool} {tab : List (Nat × (Pk → Tr Pk))} (L : LD) (own : FuncId → List Nat) (hm : MixP P own) (ht : TabOK P tab) (s : SP) (fn : Func) (A : List Nat) {cuts : List (Nat × Cut)} (hC : CutsIn P b fn.ntmps (idsL (argA A)) (bod fn) cuts) (hp : Nat.blt L.p (2 ^ 200) = true)
    (hc : codeOf (bod fn) 200 L.p = some (.loop (loopAt (bod fn) L.p))) (B : (HT s.lv → Option L.R) → L.X → Option L.R) (B' : (HT s.lv → Option L.R) → HT s.lv → Option L.R) (F' : Nat → HT s.lv → Option L.R) (h0 : ∀ x, F' 0 x = none) (h1 : ∀ k x, F' (k + 1) x = B' (F' k) x)
    (heq : ∀ f g x, L.rnd2 s (mkE P own tab cuts) fn A f g (L.s.J x) = B f x) (heq' : ∀ f g x, L.rnd2 s (mkE P own tab cuts) fn A f g (s.J x) = B' f x) (k : Nat) : CutAt P b fn A L.p (L.cut (B (F' k))) :=
  loop_ok2 (E := mkE P own tab cuts) (mkE_ok hm ht) (fun _ hb => cutsIn_ok hb hC) hp hc L.s.I_J s.I_J (xD_O L.w) B B' F' h0 h1 heq heq' k
def LD.rnd3 (L : LD) (s : SP) (E : Env) (fn : Func) (A : List Nat) (f : L.X → Option L.R) (g : HT s.lv → Option L.R) (pk : Pk) : Option L.R :=
  (roundEv E fn.ntmps (argA A) (loopAt (bod fn) L.p) L.p ⟨L.live, outL L.out, orc2 L.s.I (fun x => .ask _ (f x) (xO L.w)) (tellX s.I g (xO L.w))⟩ pk).run (xD L.w)
theorem LD.loop3T {P : Program} {b : Bool} {tab : List (Nat × (Pk → Tr Pk))} (L : LD) (own : FuncId → List Nat) (hm : MixP P own) (ht : TabOK P tab) (s : SP) (fn : Func) (A : List Nat) {cuts : List (Nat × Cut)} (hC : CutsIn P b fn.ntmps (idsL (argA A)) (bod fn) cuts) (hp : Nat.blt L.p (2 ^ 200) = true)
    (hc : codeOf (bod fn) 200 L.p = some (.loop (loopAt (bod fn) L.p))) (B : (L.X → Option L.R) → (HT s.lv → Option L.R) → L.X → Option L.R) (F : Nat → L.X → Option L.R) (B' : (HT s.lv → Option L.R) → HT s.lv → Option L.R) (F' : Nat → HT s.lv → Option L.R) (g0 : ∀ x, F 0 x = none) (g1 : ∀ k x, F (k + 1) x = B (F k) (F' k) x) (h0 : ∀ x, F' 0 x = none) (h1 : ∀ k x, F' (k + 1) x = B' (F' k) x)
    (heq : ∀ f g x, L.rnd3 s (mkE P own tab cuts) fn A f g (L.s.J x) = B f g x) (heq' : ∀ f g x, L.rnd2 s (mkE P own tab cuts) fn A f g (s.J x) = B' f x) (k : Nat) : CutAt P b fn A L.p (L.cut (F k)) :=
  loop_ok3 (E := mkE P own tab cuts) (mkE_ok hm ht) (fun _ hb => cutsIn_ok hb hC) hp hc L.s.I_J s.I_J (xD_O L.w) B F B' F' g0 g1 h0 h1 heq heq' k
theorem fn_ok {P : Program} {tab : List (Nat × (Pk → Tr Pk))} (own : FuncId → List Nat) (hm : MixP P own) (ht : TabOK P tab) {f : FuncId} {fn : Func} (hf : P.funcs[f]? = some fn) (hb : fn.body = some (bod fn)) (hname : (fn.name == "runtime.NumGoroutine") = false) (s : SP) (w : List SP) (A : List Nat) {cuts : List (Nat × Cut)}
    (hC : CutsIn P false fn.ntmps (idsL (argA A)) (bod fn) cuts) (hids : ∀ x, idsL (s.J x).pins = idsL (argA A)) (hlt : (!(Nat.ble bigK f) && Nat.ble s.roots.length fn.ntmps) = true) (F : HT s.lv → Option (WT w)) (heq : ∀ x, fnR (mkE P own tab cuts) fn s w x = F x) : FOK P f (tellS s w F) :=
  tell_ok (E := mkE P own tab cuts) (mkE_ok hm ht) (by rw [Bool.and_eq_true, Bool.not_eq_true'] at hlt; exact hlt.1) hf hb hname s.I_J (pD_O w) (args := argA A) hids (fun x => by
    have : ∀ (l : List SV) (r : List LT) (y : HL (lvL l r)), (encL l r y).1.length = l.length := by
      intro l
      induction l with
      | nil => intro r y; rfl
      | cons s l ih => intro r y; simp [encL, ih]
    show (encL s.roots _ _).1.length ≤ fn.ntmps
    rw [this]
    rw [Bool.and_eq_true] at hlt
    exact Nat.le_of_ble_eq_true hlt.2) (cutsIn_ok rfl hC) heq
def chkFn (f : FuncId) (fn : Func) (s : SP) : Bool := fn.body.isSome && (!(fn.name == "runtime.NumGoroutine") && (!(Nat.ble bigK f) && Nat.ble s.roots.length fn.ntmps))
theorem fn_ok2 {P : Program} {tab : List (Nat × (Pk → Tr Pk))} (own : FuncId → List Nat) (hm : MixP P own) (ht : TabOK P tab) {f : FuncId} {fn : Func} (hf : P.funcs[f]? = some fn) (s : SP) (w : List SP) (A : List Nat) {cuts : List (Nat × Cut)}
    (hC : CutsIn P false fn.ntmps (idsL (argA A)) (bod fn) cuts) (hids : ∀ x, idsL (s.J x).pins = idsL (argA A)) (hc : chkFn f fn s = true) (F : HT s.lv → Option (WT w)) (heq : ∀ x, fnR (mkE P own tab cuts) fn s w x = F x) : FOK P f (tellS s w F) := by
  unfold chkFn at hc
  rw [Bool.and_eq_true, Bool.and_eq_true] at hc
  obtain ⟨h1, h2, h3⟩ := hc
  refine fn_ok own hm ht hf ?_ ?_ s w A hC hids h3 F heq
  · unfold bod
    cases hb : fn.body with
    | none => rw [hb] at h1; cases h1
    | some c => rfl
  · cases hn : fn.name == "runtime.NumGoroutine" with
    | false => rfl
    | true => rw [hn] at h2; cases h2
end
end Go.Am
namespace Go.Am
noncomputable section
variable [PI : Inhabited Program]
def exJ : Ex → Nat
  | .normal => 0
  | .ret => 1
  | .exit i => i + 2
def exN : Ex → Bool
  | .normal => true
  | _ => false
def setsT (tm : List TV) (ts : List Nat) (xs : List TV) : List TV := (ts.zip xs).foldl (fun l (t, x) => setT l t x) tm
def rndSt (n : Nat) (ps : List Nat) (i : Nat) (lv : List Nat) (cap rest : List TV) (pk : Pk) : St :=
  { tm := setsT (setsT (List.replicate n .dead) lv cap) ps (rest.take ps.length), ob := del1 (obsL pk) i, us := List.range pk.obs.length }
def rndChk (k k' : Nat) (ps : List Nat) (i : Nat) (lv : List Nat) (cap rest : List TV) (pins : List Nat) : Bool :=
  Nat.beq k k' && (Nat.beq rest.length (ps.length + cap.length) && (Nat.beq lv.length cap.length && (idsL cap).all fun j => has pins j && !(Nat.beq j i)))
def putLp (i : Nat) (o : Ob) (pk : Pk) : Tr Pk :=
  bif (pk.obs.all fun q => match q with | some ob => !(has ob.ids i) | none => true) && (match pk.obs[i]? with | some none => true | _ => false) then .ret ⟨pk.roots, pk.obs.set i (some o)⟩ else .fail
def rndEv (E : Env) (n : Nat) (k : Nat) (ps : List Nat) (a b : Code) (p : Nat) (pk : Pk) : Tr Pk :=
  match pk.roots with
  | .yv i :: rest => match pk.fd i with
    | some (.lp k' lv cap 0) => bif rndChk k k' ps i lv cap rest (idsL pk.pins) then
        (codeEv E pk.pins a (2 * p) (rndSt n ps i lv cap rest pk)).bind fun (ex, st) => match ex with
          | .normal => (codeEv E pk.pins b (2 * p + 1) st).bind fun (ex2, st2) =>
              (packG pk.pins [.v (.bool (exN ex2))] fun ren pk' => .done (bif fixed ren (idsL pk.pins) then putLp i (.lp k' lv cap (exJ ex2)) pk' else .fail)).run st2.ob
          | _ => .fail
        else .fail
    | _ => .fail
  | _ => .fail
mutual
theorem ren_id : ∀ x : TV, x.ren (fun i => i) = x
  | .v _ => rfl
  | .adr _ _ => rfl
  | .sl _ _ => rfl
  | .ro _ _ => rfl
  | .radr _ _ _ => rfl
  | .agg l => by rw [TV.ren, renL_id l]
  | .arr _ _ _ => rfl
  | .tup l => by rw [TV.ren, renL_id l]
  | .clo g l => by rw [TV.ren, renL_id l]
  | .mp _ => rfl
  | .yv _ => rfl
  | .fv _ => rfl
  | .dead => rfl
theorem renL_id : ∀ l : List TV, renL (fun i => i) l = l
  | [] => rfl
  | x :: l => by rw [renL, ren_id x, renL_id l]
end
theorem obren_id : ∀ o : Ob, o.ren (fun i => i) = o
  | .row .. => rfl
  | .map .. => rfl
  | .var _ x => by rw [Ob.ren, ren_id]
  | .lp k lv cap j => by rw [Ob.ren, renL_id]
theorem setsT_len (ts : List Nat) (xs : List TV) (tm : List TV) : (setsT tm ts xs).length = tm.length := by
  unfold setsT
  simp only [setT_eq]
  exact sets_len _ tm
theorem sets_rep {C : Cx} : ∀ (ts : List Nat) (xs : List TV) (vs : List Value) (tm : List TV) (tmps : Array Value), tmps.size = tm.length → (∀ i x, tm[i]? = some x → repV C x (tmps.getD i undef)) → repVL C xs vs →
    (∀ i x, (setsT tm ts xs)[i]? = some x → repV C x (((ts.zip vs).foldl (fun (l : Array Value) (q : Nat × Value) => l.setIfInBounds q.1 q.2) tmps).getD i undef)) ∧ ((ts.zip vs).foldl (fun (l : Array Value) (q : Nat × Value) => l.setIfInBounds q.1 q.2) tmps).size = tm.length
  | [], xs, vs, tm, tmps, hl, h, _ => ⟨h, hl⟩
  | _ :: _, [], vs, tm, tmps, hl, h, hv => by
    rw [show vs = [] from hv]
    exact ⟨h, hl⟩
  | t :: ts, x :: xs, _, tm, tmps, hl, h, ⟨v, r, e, h1, h2⟩ => by
    subst e
    have key := sets_rep ts xs r (tm.set t x) (tmps.setIfInBounds t v) (by simp [hl]) (fun i y hy => by
      rw [getD_set]
      simp only [List.getElem?_set] at hy
      by_cases e : t = i
      · subst e
        by_cases hlt : t < tm.length
        · simp [hlt] at hy
          subst hy
          rw [if_pos ⟨rfl, by omega⟩]
          exact h1
        · simp [hlt] at hy
      · simp [e] at hy
        rw [if_neg (fun hh => e hh.1.symm)]
        exact h i y hy) h2
    have e1 : setsT tm (t :: ts) (x :: xs) = setsT (tm.set t x) ts xs := by
      unfold setsT
      rw [List.zip_cons_cons, List.foldl_cons]
      show List.foldl _ (setT tm t x) _ = _
      rw [setT_eq]
    rw [e1, List.zip_cons_cons, List.foldl_cons]
    exact ⟨key.1, by rw [key.2]; simp⟩
theorem zip_fold (ps : Array Tmp) (xs : List Value) (tmps : Array Value) : (ps.zip xs.toArray).foldl (fun tmps (t, a) => tmps.setIfInBounds t a) tmps = (ps.toList.zip xs).foldl (fun (l : Array Value) (q : Nat × Value) => l.setIfInBounds q.1 q.2) tmps := by
  rw [← Array.foldl_toList]
  simp
theorem At.uniq {root : Code} {p : Nat} {c d : Code} (h : At root p c) (k : At root p d) : c = d := by
  have hp : p < 2 ^ p := Nat.lt_two_pow_self
  have h1 := h.codeOf p hp
  have h2 := k.codeOf p hp
  rw [h1] at h2
  exact Option.some.inj h2
theorem loopAt_uniq {P : Program} (hP : PI.default = P) {f p : Nat} {fn : Func} (hf : P.funcs[f]? = some fn) (hp : p < bigK) {g : Operand} {ps : Array Tmp} {a b : Code} (hat : At (bod fn) p (.rangeFunc g ps a b)) {rec : Loop} (h : LoopAt (f * bigK + p) rec) :
    rec.params = ps ∧ rec.assign = a ∧ rec.body = b ∧ rec.tmps.size = fn.ntmps := by
  obtain ⟨fn', g', h1, h3, h4⟩ := h
  have hm : (f * bigK + p) % bigK = p := by rw [Nat.mul_add_mod_self_right, Nat.mod_eq_of_lt hp]
  have hd : (f * bigK + p) / bigK = f := by
    rw [Nat.mul_comm, Nat.mul_add_div (by decide : bigK > 0), Nat.div_eq_of_lt hp, Nat.add_zero]
  rw [hm] at h3
  rw [hd] at h1
  rw [hP, hf] at h1
  cases h1
  have := h3.uniq hat
  cases this
  exact ⟨rfl, rfl, rfl, h4⟩
theorem Mem.anew {O R0 : Nat → Prop} {w0 : World} {C : Cx} (hM : Mem O R0 w0 C) {w' : World} {l : Nat} (h : Sh C.w w' l) (hne : ∀ i, (C.fd i).isSome = true → C.mu i ≠ some l) :
    Mem (fun b => ∃ i, (C.fd i).isSome = true ∧ C.mu i = some b) C.R w' (C.at w') :=
  ⟨hM.us, Fr.refl _ _, fun id ob ho => repO_sh h hne (hne id (Option.isSome_iff_exists.2 ⟨ob, ho⟩)) ob (hM.obs id ob ho), hM.inj, hM.notR, fun i b h1 h2 => .inl ⟨i, h1, h2⟩, fun i b h1 h2 => by show b < w'.heap.size; rw [h.size]; exact hM.lt i b h1 h2, fun b hb => .inl hb, fun b hb => hb, fun b hb => by show b < w'.heap.size; rw [h.size]; exact hM.rlt b hb⟩
theorem repCap_to {C D : Cx} {f : Nat → Nat} {S : Nat → Prop} {tmps : Array Value} (hr : ∀ x v, subL x.ids S → repV C x v → repV D x v) : ∀ (lv : List Nat) (cap : List TV), subL (idsL cap) S → repCap C tmps lv cap → repCap D tmps lv cap
  | [], [], _, h => h
  | _ :: lv, x :: cap, hs, ⟨h1, h2⟩ => ⟨hr x _ (fun i hi => hs i (by simp [idsL, hi])) h1, repCap_to (f := f) hr lv cap (fun i hi => hs i (by simp [idsL, hi])) h2⟩
  | [], _ :: _, _, h => h.elim
  | _ :: _, [], _, h => h.elim
theorem repV_only {C : Cx} {S : Nat → Prop} [DecidablePred S] (hU : ∀ i, S i → C.U i) (x : TV) (v : Value) (hs : subL x.ids S) (h : repV C x v) : repV ⟨S, fun i => if S i then C.fd i else none, C.mu, C.R, C.w⟩ x v := by
  have hR : Ren C ⟨S, fun i => if S i then C.fd i else none, C.mu, C.R, C.w⟩ (fun i => i) S := by
    refine ⟨fun i hi => hi, fun i hi => ?_, fun i hi _ => rfl, fun _ h => h, Nat.le_refl _, fun _ _ => rfl, fun _ _ _ h => h⟩
    show (if S i then C.fd i else none) = _
    rw [if_pos hi]
    cases C.fd i with
    | none => rfl
    | some o => rw [Option.map_some, obren_id]
  have := repV_ren hR x v hs h
  rwa [ren_id] at this
theorem repVL_take {C : Cx} : ∀ (n : Nat) (l : List TV) (xs ys : List Value), xs.length = n → n ≤ l.length → repVL C l (xs ++ ys) → repVL C (l.take n) xs
  | 0, l, xs, ys, hx, _, _ => by
    rw [List.length_eq_zero_iff] at hx
    subst hx
    rfl
  | n + 1, [], xs, ys, hx, hl, _ => by simp at hl
  | n + 1, x :: l, [], ys, hx, hl, _ => by simp at hx
  | n + 1, x :: l, v :: xs, ys, hx, hl, ⟨v', r, e, h1, h2⟩ => by
    rw [List.cons_append] at e
    cases e
    exact ⟨v, xs, rfl, h1, repVL_take n l xs ys (by simpa using hx) (by simpa using hl) h2⟩
theorem fd_del (pk : Pk) (i j : Nat) : fnd (del1 (obsL pk) i) j = if j = i then none else pk.fd j := by rw [fnd_del1, fnd_obsL]
theorem loop_sh {w : World} {l : Nat} {x y : Loop} (h : w.heap[l]? = some (.loop x)) : Sh w (w.putObj l (.loop y)) l := putSh h (fun _ _ _ e => by cases e) (fun _ _ _ e => by cases e)
theorem putLp_to {i : Nat} {o : Ob} {pk r : Pk} (h : (putLp i o pk).to r) : r = ⟨pk.roots, pk.obs.set i (some o)⟩ ∧ i < pk.obs.length ∧ pk.fd i = none ∧ ∀ j q, pk.fd j = some q → ¬ i ∈ q.ids := by
  unfold putLp at h
  cases hb : (pk.obs.all fun q => match q with | some ob => !(has ob.ids i) | none => true) with
  | false => rw [hb] at h; exact (Tr.to_fail h).elim
  | true =>
    rw [hb] at h
    cases hi : pk.obs[i]? with
    | none => rw [hi] at h; exact (Tr.to_fail h).elim
    | some q =>
      rw [hi] at h
      cases q with
      | some _ => exact (Tr.to_fail h).elim
      | none =>
        refine ⟨(Tr.to_ret h).symm, (List.getElem?_eq_some_iff.1 hi).1, by unfold Pk.fd; rw [hi]; rfl, fun j q hq hm => ?_⟩
        have hj : some q ∈ pk.obs := by
          unfold Pk.fd at hq
          cases hh : pk.obs[j]? with
          | none => rw [hh] at hq; cases hq
          | some z => rw [hh] at hq; have hq : z = some q := hq; rw [← hq]; exact List.mem_of_getElem? hh
        have := List.all_eq_true.1 hb _ hj
        rw [show (match some q with | some ob => !(has ob.ids i) | none => true) = !(has q.ids i) from rfl, (has_iff _ _).2 hm] at this
        cases this
theorem rndOK {E : Env} (hE : EnvOK E) {f p : Nat} {fn : Func} (hf : E.P.funcs[f]? = some fn) (hp : p < bigK) {g : Operand} {ps : Array Tmp} {a b : Code} (hat : At (bod fn) p (.rangeFunc g ps a b)) {pk r : Pk} (hC : ∀ l : Nat, CutsOK E (some l) fn.ntmps (idsL pk.pins) (bod fn))
    (h : (rndEv E fn.ntmps (f * bigK + p) ps.toList a b p pk).to r) : RndOK E.P (f * bigK + p) pk r := by
  unfold rndEv at h
  split at h
  · rename_i i rest hroots
    split at h
    · rename_i k' lv cap hfd
      cases hchk : rndChk (f * bigK + p) k' ps.toList i lv cap rest (idsL pk.pins) with
      | false => rw [hchk] at h; exact (Tr.to_fail h).elim
      | true =>
        rw [hchk] at h
        simp only [cond_true] at h
        unfold rndChk at hchk
        simp only [Bool.and_eq_true] at hchk
        obtain ⟨c1, c2, c3, c4⟩ := hchk
        have c1 := Nat.eq_of_beq_eq_true c1
        have c2 := Nat.eq_of_beq_eq_true c2
        have c3 := Nat.eq_of_beq_eq_true c3
        subst c1
        obtain ⟨⟨ex, st1⟩, h1, h2⟩ := Tr.to_bind h
        cases ex with
        | exit _ => exact (Tr.to_fail h2).elim
        | ret => exact (Tr.to_fail h2).elim
        | normal =>
          obtain ⟨⟨ex2, st2⟩, h3, h4⟩ := Tr.to_bind h2
          simp only at h4
          have capS : ∀ j ∈ idsL cap, j ∈ idsL pk.pins ∧ j ≠ i := fun j hj => by
            have := List.all_eq_true.1 c4 j hj
            simp only [Bool.and_eq_true, Bool.not_eq_true'] at this
            exact ⟨(has_iff _ _).1 this.1, fun e => by rw [e, beq_self] at this; cases this.2⟩
          refine ⟨fun rec hrec i' lv' cap' j' hi' hfd' => ?_, fun w mu R l rec xs ys hM hv hxs hl => ?_⟩
          · obtain ⟨e2, _⟩ := loopAt_uniq hE.prog hf hp hat hrec
            rw [hroots] at hi'
            cases hi'
            rw [hfd] at hfd'
            cases hfd'
            rw [hroots, e2, List.length_cons, c2]
            simp
            omega
          · -- the record
            have hv' := hv
            rw [hroots] at hv'
            obtain ⟨_, _, ee, hyv, hrest⟩ := hv'
            cases ee
            obtain ⟨l0, el, hiU, hmu⟩ := hyv
            cases el
            have hmu : mu i = some l := hmu (by show (pk.fd i).isSome = true; rw [hfd]; rfl)
            obtain ⟨l2, rec2, g1, g2, g3, g4, g5, g6⟩ := hM.obs i _ hfd
            have g1 : mu i = some l2 := g1
            rw [hmu] at g1
            cases g1
            have g2 : w.heap[l]? = some (.loop rec2) := g2
            rw [hl] at g2
            cases g2
            obtain ⟨e2, e3, e4, e5⟩ := loopAt_uniq hE.prog hf hp hat g3
            have hst : rec.state = .ready := by rw [g5]; rfl
            have hlw : l < w.heap.size := (Array.getElem?_eq_some_iff.1 hl).1
            have hiS : (pk.fd i).isSome = true := by rw [hfd]; rfl
            have hRl : ¬ R l := hM.notR i l hiS hmu
            have pinU : ∀ q ∈ idsL pk.pins, q < pk.obs.length := fun q hq => pins_lt hM hv hq
            -- the first part: the assignments
            let K1 : Ctx := ⟨fun b => ∃ q, q ≠ i ∧ (pk.fd q).isSome = true ∧ mu q = some b, R, w, idsL pk.pins, pk.fd, mu, w.heap.size, w⟩
            have nO1 : ¬ K1.O l := fun ⟨q, n1, n2, n3⟩ => n1 (hM.inj q i l n2 hiS n3 hmu)
            have hcx1 : cx (List.range pk.obs.length) (del1 (obsL pk) i) mu R w = ⟨fun q => q < pk.obs.length, fun q => if q = i then none else pk.fd q, mu, R, w⟩ := by
              unfold cx
              rw [show fnd (del1 (obsL pk) i) = fun q => if q = i then none else pk.fd q from funext fun q => fd_del pk i q, show (fun q => q ∈ List.range pk.obs.length) = (fun q => q < pk.obs.length) from funext fun q => propext (by simp)]
            have hE1 : Ext (pkCx pk mu R w) ⟨fun q => q < pk.obs.length, fun q => if q = i then none else pk.fd q, mu, R, w⟩ := by
              refine ⟨fun _ h => h, fun q o _ ho => ?_, fun _ h => h, Nat.le_refl _, fun _ _ => rfl, fun _ _ b _ _ _ => keeps.refl _ b⟩
              have ho : (if q = i then none else pk.fd q) = some o := ho
              by_cases e : q = i
              · rw [if_pos e] at ho; cases ho
              · rw [if_neg e] at ho; exact ⟨o, ho, rfl, Ob.like.refl o⟩
            have sub1 : ∀ q : Nat, (if q = i then none else pk.fd q).isSome = true → q ≠ i ∧ (pk.fd q).isSome = true := fun q hq => by
              by_cases e : q = i
              · rw [if_pos e] at hq; cases hq
              · rw [if_neg e] at hq; exact ⟨e, hq⟩
            have hM1 : Mem K1.O K1.R0 K1.w0 (cx (List.range pk.obs.length) (del1 (obsL pk) i) mu R w) := by
              rw [hcx1]
              refine ⟨fun q hq => hM.us q (sub1 q hq).2, Fr.refl _ _, fun q o ho => ?_, fun q s bl hq hs k1 k2 => hM.inj q s bl (sub1 q hq).2 (sub1 s hs).2 k1 k2, fun q bl hq k1 => hM.notR q bl (sub1 q hq).2 k1, fun q bl hq k1 => .inl ⟨q, (sub1 q hq).1, (sub1 q hq).2, k1⟩, fun q bl hq k1 => hM.lt q bl (sub1 q hq).2 k1, fun bl hb => .inl hb, fun bl hb => hb, hM.rlt⟩
              have ho : (if q = i then none else pk.fd q) = some o := ho
              by_cases e : q = i
              · rw [if_pos e] at ho; cases ho
              · rw [if_neg e] at ho
                exact repO_of hE1 rfl (fun _ _ => rfl) (hM.obs q o ho)
            have hcapv : repVL (pkCx pk mu R w) cap (lv.map fun t => rec.tmps.getD t undef) := cap_vals lv cap g4
            have hS1 : Sim K1 (rndSt fn.ntmps ps.toList i lv cap rest pk) { tmps := (rec.params.zip xs.toArray).foldl (fun tmps (t, a) => tmps.setIfInBounds t a) rec.tmps, defers := [] } mu R w := by
              have base : ∀ q x, (setsT (List.replicate fn.ntmps .dead) lv cap)[q]? = some x → repV (pkCx pk mu R w) x (rec.tmps.getD q undef) := by
                intro q x hx
                unfold setsT at hx
                simp only [setT_eq] at hx
                rcases sets_get _ _ q x hx with hx | hx
                · obtain ⟨_, hx⟩ := List.getElem?_eq_some_iff.1 hx
                  simp at hx
                  subst hx
                  exact trivial
                · have key : ∀ (lv : List Nat) (cap : List TV), repCap (pkCx pk mu R w) rec.tmps lv cap → (q, x) ∈ lv.zip cap → repV (pkCx pk mu R w) x (rec.tmps.getD q undef) := by
                    intro lv
                    induction lv with
                    | nil => intro cap _ hm; simp at hm
                    | cons t lv ih =>
                      intro cap hc hm
                      cases cap with
                      | nil => simp at hm
                      | cons y cap =>
                        rw [List.zip_cons_cons] at hm
                        rcases List.mem_cons.1 hm with e | hm
                        · cases e; exact hc.1
                        · exact ih cap hc.2 hm
                  exact key lv cap g4 hx
              have hargs : repVL (pkCx pk mu R w) (rest.take ps.toList.length) xs := repVL_take _ rest xs ys (by rw [hxs, e2, Array.length_toList]) (by rw [c2]; omega) hrest
              obtain ⟨s1, s2⟩ := sets_rep ps.toList (rest.take ps.toList.length) xs _ rec.tmps (by rw [setsT_len, e5]; simp) base hargs
              have hT : (rec.params.zip xs.toArray).foldl (fun tmps (t, a) => tmps.setIfInBounds t a) rec.tmps = (ps.toList.zip xs).foldl (fun (l : Array Value) (q : Nat × Value) => l.setIfInBounds q.1 q.2) rec.tmps := by rw [e2]; exact zip_fold ps xs rec.tmps
              refine ⟨hM1, ?_, fun q x hx => ?_, Marks.nil (Nat.le_refl _), fun q hq => ⟨by simpa [rndSt] using pinU q hq, fun o' ho' => ?_⟩⟩
              · show Array.size _ = List.length _
                rw [hT, s2]
                unfold rndSt
                simp only [setsT_len]
              · show repV (cx (List.range pk.obs.length) (del1 (obsL pk) i) mu R w) x _
                rw [hcx1, hT]
                exact repV_mono hE1 _ _ (s1 q x hx)
              · have ho' : fnd (del1 (obsL pk) i) q = some o' := ho'
                rw [fd_del] at ho'
                by_cases e : q = i
                · rw [if_pos e] at ho'; cases ho'
                · rw [if_neg e] at ho'; exact ⟨o', ho', rfl, Ob.like.refl o', fun b _ => keeps.refl _ b⟩
            have hlen0 : (rndSt fn.ntmps ps.toList i lv cap rest pk).tm.length = fn.ntmps := by
              unfold rndSt
              simp only [setsT_len, List.length_replicate]
            refine roundIn_of_wpIn (F := Fence.wide) (n := 0) trivial ?_
            rw [e3, e4]
            show a.wpIn (fen (some l)) 0 E.P _ _ _
            refine codeEv_wp hE (hC l) a (2 * p) _ _ _ _ mu R w _ hat.rfA h1 hlen0 rfl hS1 fun a1 mu1 R1 w1 hS2 => ?_
            -- the record is busy
            have fr1 := hS2.mem.fr
            have hl1 : w1.heap[l]? = some (.loop rec) := (fr1.block l hlw nO1).trans hl
            refine ⟨_, run_beginRound hl1 hst, ?_⟩
            have sh1 : Sh w1 (w1.putObj l (.loop { rec with state := .busy })) l := loop_sh hl1
            have hl1w : l < w1.heap.size := (Array.getElem?_eq_some_iff.1 hl1).1
            let w2 : World := w1.putObj l (.loop { rec with state := .busy })
            have ne1 : ∀ q, (fnd st1.ob q).isSome = true → mu1 q ≠ some l := fun q hq e => by
              rcases hS2.mem.own q l hq e with hh | hh
              · exact nO1 hh
              · have : K1.w0.heap.size = w.heap.size := rfl
                omega
            let K2 : Ctx := ⟨fun bl => ∃ q, (fnd st1.ob q).isSome = true ∧ mu1 q = some bl, R1, w2, idsL pk.pins, pk.fd, mu, w.heap.size, w⟩
            have nO2 : ¬ K2.O l := fun ⟨q, n1, n2⟩ => ne1 q n1 n2
            have hl2 : w2.heap[l]? = some (.loop { rec with state := .busy }) := World.putObj_heap_same hl1w
            have hS3 : Sim K2 st1 a1 mu1 R1 w2 := by
              refine ⟨hS2.mem.anew sh1 ne1, hS2.len, fun q x hx => repV_sh (C := cx st1.us st1.ob mu1 R1 w1) sh1 ne1 x _ (hS2.slots q x hx), ?_, fun q hq => ⟨(hS2.pin q hq).1, fun o' ho' => by
                obtain ⟨o, p1, p2, p3, p4⟩ := (hS2.pin q hq).2 o' ho'
                exact ⟨o, p1, p2, p3, fun b hb => (p4 b hb).trans (sh1.keeps (fun e => ne1 q (Option.isSome_iff_exists.2 ⟨o', ho'⟩) (p2.trans (e ▸ hb))))⟩⟩⟩
              obtain ⟨m0, ms, m1, m2, m3⟩ := hS2.df
              refine ⟨by rw [World.putObj_size]; exact m0, ms, m1, m2, fun q hq => ?_⟩
              obtain ⟨k1, k2, k3⟩ := m3 q hq
              refine ⟨k1, k2, (sh1.obj q fun e => ?_).trans k3⟩
              rw [e, hl1] at k3
              cases k3
            have hlen1 := codeEv_len E _ _ _ _ _ _ h1
            show b.wpIn (fen (some l)) 0 E.P _ _ _
            refine codeEv_wp hE (hC l) b (2 * p + 1) _ _ _ _ mu1 R1 w2 _ hat.rfB h3 (hlen1.trans hlen0) rfl hS3 fun a2 mu2 R2 w3 hS4 => ?_
            have fr2 := hS4.mem.fr
            have hw2 : w2.heap.size = w1.heap.size := World.putObj_size
            have hl3 : w3.heap[l]? = some (.loop { rec with state := .busy }) := (fr2.block l (by show l < w2.heap.size; omega) nO2).trans hl2
            -- what is handed out
            have hS5 : Sim K2 ⟨st2.tm ++ [.v (.bool (exN ex2))], st2.ob, st2.us⟩ { tmps := a2.tmps.push (.bool (exN ex2)), defers := [] } mu2 R2 w3 := by
              refine ⟨hS4.mem, by simp [hS4.len], fun q y hy => ?_, Marks.nil hS4.df.1, hS4.pin⟩
              have hll := hS4.len
              by_cases hq : q < st2.tm.length
              · rw [List.getElem?_append_left hq] at hy
                have := hS4.slots q y hy
                show repV _ y ((a2.tmps.push (.bool (exN ex2))).getD q undef)
                have e : (a2.tmps.push (.bool (exN ex2))).getD q undef = a2.tmps.getD q undef := by
                  simp [Array.getD_eq_getD_getElem?, Array.getElem?_push, show ¬ q = a2.tmps.size by omega]
                rw [e]; exact this
              · have hq2 : q = st2.tm.length := by
                  have := (List.getElem?_eq_some_iff.1 hy).1
                  simp at this; omega
                subst hq2
                simp at hy
                subst hy
                show repV _ _ ((a2.tmps.push (.bool (exN ex2))).getD st2.tm.length undef)
                have e : (a2.tmps.push (.bool (exN ex2))).getD st2.tm.length undef = .bool (exN ex2) := by
                  rw [← hll]; simp [Array.getD_eq_getD_getElem?]
                rw [e]; exact rfl
            have hout : (outK pk.pins [st2.tm.length] ⟨st2.tm ++ [.v (.bool (exN ex2))], st2.ob, st2.us⟩ fun pk' => putLp i (.lp (f * bigK + p) lv cap (exJ ex2)) pk').to r := by
              unfold outK
              simp only [List.map_cons, List.map_nil]
              rw [getT_eq, show (st2.tm ++ [TV.v (.bool (exN ex2))]).getD st2.tm.length .dead = .v (.bool (exN ex2)) by simp [List.getD]]
              exact h4
            obtain ⟨pk1, mu4, k1, hS6⟩ := outK_sim hS5 rfl hout
            obtain ⟨rfl, hil, hin, hnot⟩ := putLp_to k1
            have hcx6 : cx (inSt (st2.tm ++ [TV.v (.bool (exN ex2))]).length [st2.tm.length] pk1).us (inSt (st2.tm ++ [TV.v (.bool (exN ex2))]).length [st2.tm.length] pk1).ob mu4 R2 w3 = pkCx pk1 mu4 R2 w3 := by
              unfold cx pkCx
              rw [show fnd (inSt (st2.tm ++ [TV.v (.bool (exN ex2))]).length [st2.tm.length] pk1).ob = pk1.fd from funext fun q => fnd_obsL pk1 q, show (fun q => q ∈ (inSt (st2.tm ++ [TV.v (.bool (exN ex2))]).length [st2.tm.length] pk1).us) = (fun q => q < pk1.obs.length) from funext fun q => propext (by simp [inSt])]
            have hM6 := hS6.mem
            rw [hcx6] at hM6
            have ne6 : ∀ q, (pk1.fd q).isSome = true → mu4 q ≠ some l := fun q hq e => by
              rcases hM6.own q l hq e with hh | hh
              · exact nO2 hh
              · have : K2.w0.heap.size = w2.heap.size := rfl
                omega
            have hroot : repV (pkCx pk1 mu4 R2 w3) (pk1.roots.headD .dead) (.bool (exN ex2)) := by
              have hs := hS6.slots st2.tm.length (pk1.roots.headD .dead) (by
                rw [inSt_tm]
                simp only [List.length_append, List.length_cons, List.length_nil]
                cases pk1.roots with
                | nil => simp
                | cons y l => simp)
              rw [hcx6] at hs
              have hs : repV (pkCx pk1 mu4 R2 w3) (pk1.roots.headD .dead) ((a2.tmps.push (.bool (exN ex2))).getD st2.tm.length undef) := hs
              rwa [show (a2.tmps.push (Value.bool (exN ex2))).getD st2.tm.length undef = .bool (exN ex2) by rw [← hS4.len]; simp [Array.getD_eq_getD_getElem?]] at hs
            -- the record again
            obtain ⟨jump, hjump, hjx⟩ : ∃ jump : Option Code, jump = jumpOf (exJ ex2) ∧ jump.isNone = exN ex2 := by
              refine ⟨_, rfl, ?_⟩
              cases ex2 with
              | normal => rfl
              | ret => rfl
              | exit q => simp [jumpOf, exJ, exN]
            let recE : Loop := { rec with state := if jump.isNone then .ready else .done, pending := jump }
            have run4 : (Instr.endRound l jump).run E.P w3 = .ok (.bool (exN ex2)) (w3.putObj l (.loop recE)) := by
              have h0 : (Instr.endRound l jump).run E.P w3 = .ok (.bool jump.isNone) (w3.putObj l (.loop recE)) := (run_endRound (r := { rec with state := .busy }) jump hl3).trans rfl
              rw [h0, hjx]
            have hl3w : l < w3.heap.size := (Array.getElem?_eq_some_iff.1 hl3).1
            have sh3 : Sh w3 (w3.putObj l (.loop recE)) l := loop_sh hl3
            let w4 : World := w3.putObj l (.loop recE)
            have hl4 : w4.heap[l]? = some (.loop recE) := World.putObj_heap_same hl3w
            have hw4 : w4.heap.size = w3.heap.size := World.putObj_size
            -- the frame, over all
            have own1 : ∀ bl, K1.O bl → ownB pk mu bl := fun bl ⟨q, _, n2, n3⟩ => ⟨q, n2, n3⟩
            have own2 : ∀ bl, K2.O bl → ownB pk mu bl ∨ w.heap.size ≤ bl := fun bl ⟨q, n1, n2⟩ => (hS2.mem.own q bl n1 n2).imp (own1 bl) id
            have hsz1 : w.heap.size ≤ w1.heap.size := fr1.size
            have hsz2 : w2.heap.size ≤ w3.heap.size := fr2.size
            have blk : ∀ k, k < w.heap.size → ¬ ownB pk mu k → w4.heap[k]? = w.heap[k]? := fun k hk hn => by
              have hkl : k ≠ l := fun e => hn ⟨i, hiS, by rw [hmu, e]⟩
              have s1 : w4.heap[k]? = w3.heap[k]? := sh3.obj k hkl
              have s2 : w3.heap[k]? = w2.heap[k]? := fr2.block k (by show k < w2.heap.size; omega) fun ho => (own2 k ho).elim hn (by omega)
              have s3 : w2.heap[k]? = w1.heap[k]? := sh1.obj k hkl
              have s4 : w1.heap[k]? = w.heap[k]? := fr1.block k hk fun ho => hn (own1 k ho)
              exact s1.trans (s2.trans (s3.trans s4))
            have hfrT : Fr (ownB pk mu) w w4 := ⟨fr2.os.trans fr1.os, fr2.tape.trans fr1.tape, fr2.output.trans fr1.output, by omega, blk⟩
            have hR2 : ∀ bl, R bl → R2 bl := fun bl hb => hM6.ro0 bl (hS2.mem.ro0 bl hb)
            have notR2 : ¬ R2 l := fun hr => by
              rcases hM6.ro l hr with hh | hh | hh
              · rcases hS2.mem.ro l hh with hh | hh | hh
                · exact hRl hh
                · exact nO1 hh
                · have : K1.w0.heap.size = w.heap.size := rfl
                  omega
              · exact nO2 hh
              · have : K2.w0.heap.size = w2.heap.size := rfl
                omega
            let rr : Pk := ⟨pk1.roots, pk1.obs.set i (some (.lp (f * bigK + p) lv cap (exJ ex2)))⟩
            let mu5 : Nat → Option Nat := fun q => if q = i then some l else mu4 q
            have rfd : ∀ q, rr.fd q = if q = i then some (.lp (f * bigK + p) lv cap (exJ ex2)) else pk1.fd q := fun q => by
              show (((pk1.obs.set i _)[q]?).bind id) = _
              rw [List.getElem?_set]
              by_cases e : i = q
              · subst e
                rw [if_pos rfl, if_pos rfl, if_pos hil]
                rfl
              · rw [if_neg e, if_neg (Ne.symm e)]; rfl
            have rlen : rr.obs.length = pk1.obs.length := List.length_set
            -- from what was handed out to the end
            have hRen : Ren ((pkCx pk1 mu4 R2 w3).at w4) (pkCx rr mu5 R2 w4) (fun q => q) (fun q => q ≠ i ∧ q < pk1.obs.length) := by
              refine ⟨fun q hq => by show q < rr.obs.length; rw [rlen]; exact hq.2, fun q hq => ?_, fun q hq _ => ?_, fun _ h => h, Nat.le_refl _, fun _ _ => rfl, fun _ _ _ h => h⟩
              · show rr.fd q = (pk1.fd q).map _
                rw [rfd, if_neg hq.1]
                cases pk1.fd q with
                | none => rfl
                | some o => rw [Option.map_some, obren_id]
              · show (if q = i then some l else mu4 q) = mu4 q
                rw [if_neg hq.1]
            have fdlt : ∀ q o, pk1.fd q = some o → q < pk1.obs.length ∧ q ≠ i := fun q o ho => by
              refine ⟨?_, fun e => by rw [e, hin] at ho; cases ho⟩
              exact hM6.us q (by show (pk1.fd q).isSome = true; simp [ho])
            have oids : ∀ q o, pk1.fd q = some o → subL o.ids (fun q => q ≠ i ∧ q < pk1.obs.length) := fun q o ho s hs => ⟨fun e => hnot q o ho (e ▸ hs), repO_U o (hM6.obs q o ho) s hs⟩
            have cases5 : ∀ q, (rr.fd q).isSome = true → (q = i ∧ mu5 q = some l) ∨ (q ≠ i ∧ (pk1.fd q).isSome = true ∧ mu5 q = mu4 q) := fun q hq => by
              by_cases e : q = i
              · exact .inl ⟨e, by show (if q = i then some l else mu4 q) = _; rw [if_pos e]⟩
              · rw [rfd, if_neg e] at hq
                exact .inr ⟨e, hq, by show (if q = i then some l else mu4 q) = _; rw [if_neg e]⟩
            have hMF : Mem (ownB pk mu) R w (pkCx rr mu5 R2 w4) := by
              refine ⟨fun q hq => ?_, hfrT, fun q o ho => ?_, fun q s bl hq hs k1 k2 => ?_, fun q bl hq k1 => ?_, fun q bl hq k1 => ?_, fun q bl hq k1 => ?_, fun bl hb => ?_, hR2, fun bl hb => ?_⟩
              · show q < rr.obs.length
                rw [rlen]
                rcases cases5 q hq with ⟨e, _⟩ | ⟨_, e, _⟩
                · rw [e]; exact hil
                · exact hM6.us q e
              · have ho : rr.fd q = some o := ho
                rw [rfd] at ho
                by_cases e : q = i
                · rw [if_pos e] at ho
                  cases ho
                  refine ⟨l, recE, by show (if q = i then some l else mu4 q) = _; rw [if_pos e], hl4, g3, ?_, ?_, hjump⟩
                  · -- what is captured
                    classical
                    let S : Nat → Prop := fun q => q ∈ idsL pk.pins ∧ q ≠ i
                    have hX : Ext ⟨S, fun q => if S q then pk.fd q else none, mu, R, w⟩ (pkCx rr mu5 R2 w4) := by
                      refine ⟨fun q hq => ?_, fun q o hq ho => ?_, hR2, by show w.heap.size ≤ w4.heap.size; omega, fun bl hb => ?_, fun q o bl hq ho hb => ?_⟩
                      · show q < rr.obs.length
                        rw [rlen]
                        have := (hS6.pin q hq.1).1
                        simpa [inSt] using this
                      · have ho : rr.fd q = some o := ho
                        rw [rfd, if_neg hq.2] at ho
                        obtain ⟨o1, n1, n2, n3, _⟩ := (hS6.pin q hq.1).2 o (by show fnd (obsL pk1) q = some o; rw [fnd_obsL]; exact ho)
                        refine ⟨o1, by show (if S q then pk.fd q else none) = _; rw [if_pos hq]; exact n1, ?_, n3⟩
                        show (if q = i then some l else mu4 q) = mu q
                        rw [if_neg hq.2]
                        exact n2
                      · exact blk bl (hM.rlt bl hb) fun ⟨q, n1, n2⟩ => hM.notR q bl n1 n2 hb
                      · have ho : rr.fd q = some o := ho
                        rw [rfd, if_neg hq.2] at ho
                        obtain ⟨_, _, n2, _, n4⟩ := (hS6.pin q hq.1).2 o (by show fnd (obsL pk1) q = some o; rw [fnd_obsL]; exact ho)
                        exact (n4 bl hb).trans (sh3.keeps (fun e => ne6 q (by rw [ho]; rfl) (n2.trans (e ▸ hb))))
                    refine repCap_to (f := fun q => q) (S := S) (fun x v hs hx => ?_) lv cap (fun q hq => capS q hq) g4
                    exact repV_mono hX x v (repV_only (S := S) (fun q hq => pinU q hq.1) x v hs hx)
                  · show (if jump.isNone = true then LoopState.ready else LoopState.done) = _
                    rw [hjx]
                    cases ex2 with
                    | normal => rfl
                    | ret => rfl
                    | exit q => simp [exN, exJ]
                · rw [if_neg e] at ho
                  have h6 := repO_sh (C := pkCx pk1 mu4 R2 w3) sh3 ne6 (ne6 q (by simp [ho])) o (hM6.obs q o ho)
                  have := repO_ren hRen ⟨e, (fdlt q o ho).1⟩ (show ((pkCx pk1 mu4 R2 w3).at w4).fd q = some o from ho) (oids q o ho) (fun _ _ => rfl) h6
                  rwa [obren_id] at this
              · have k1 : mu5 q = some bl := k1
                have k2 : mu5 s = some bl := k2
                rcases cases5 q hq with ⟨e, m1⟩ | ⟨e, n1, m1⟩ <;> rcases cases5 s hs with ⟨e', m2⟩ | ⟨e', n2, m2⟩
                · rw [e, e']
                · rw [m1] at k1; cases k1
                  rw [m2] at k2
                  exact (ne6 s n2 k2).elim
                · rw [m2] at k2; cases k2
                  rw [m1] at k1
                  exact (ne6 q n1 k1).elim
                · rw [m1] at k1; rw [m2] at k2
                  exact hM6.inj q s bl n1 n2 k1 k2
              · have k1 : mu5 q = some bl := k1
                rcases cases5 q hq with ⟨e, m1⟩ | ⟨e, n1, m1⟩
                · rw [m1] at k1; cases k1; exact notR2
                · rw [m1] at k1; exact hM6.notR q bl n1 k1
              · have k1 : mu5 q = some bl := k1
                rcases cases5 q hq with ⟨e, m1⟩ | ⟨e, n1, m1⟩
                · rw [m1] at k1; cases k1; exact .inl ⟨i, hiS, hmu⟩
                · rw [m1] at k1
                  rcases hM6.own q bl n1 k1 with hh | hh
                  · exact own2 bl hh
                  · right
                    have : K2.w0.heap.size = w2.heap.size := rfl
                    omega
              · have k1 : mu5 q = some bl := k1
                show bl < w4.heap.size
                rcases cases5 q hq with ⟨e, m1⟩ | ⟨e, n1, m1⟩
                · rw [m1] at k1; cases k1; omega
                · rw [m1] at k1
                  have : bl < w3.heap.size := hM6.lt q bl n1 k1
                  omega
              · rcases hM6.ro bl hb with hh | hh | hh
                · rcases hS2.mem.ro bl hh with hh | hh | hh
                  · exact .inl hh
                  · exact .inr (.inl (own1 bl hh))
                  · exact .inr (.inr hh)
                · exact .inr (own2 bl hh)
                · right; right
                  have : K2.w0.heap.size = w2.heap.size := rfl
                  omega
              · show bl < w4.heap.size
                have : bl < w3.heap.size := hM6.rlt bl hb
                omega
            have hrootF : repV (pkCx rr mu5 R2 w4) (rr.roots.headD .dead) (.bool (exN ex2)) := by
              have h7 := repV_sh (C := pkCx pk1 mu4 R2 w3) sh3 ne6 _ _ hroot
              have hx : (pk1.roots.headD .dead).ids = [] := by
                have : pk1.roots = [.v (.bool (exN ex2))] := by
                  obtain ⟨ren, pk2, j1, j2⟩ := packG_to hout
                  rw [GTr.run_done] at j1
                  cases hfx : fixed ren (idsL pk.pins) with
                  | false => rw [hfx] at j1; exact (Tr.to_fail j1).elim
                  | true =>
                    rw [hfx] at j1
                    have j3 := (putLp_to j1).1
                    have j4 : pk1.roots = pk2.roots := by
                      have := congrArg Pk.roots j3
                      exact this
                    rw [j4, j2.roots]
                    simp only [List.map_cons, List.map_nil]
                    rw [getT_eq, show (st2.tm ++ [TV.v (.bool (exN ex2))]).getD st2.tm.length .dead = .v (.bool (exN ex2)) by simp [List.getD]]
                    rfl
                rw [this]
                rfl
              have := repV_ren hRen _ _ (fun q hq => by rw [hx] at hq; cases hq) h7
              rwa [ren_id] at this
            have hpinsF : ∀ q ∈ idsL pk.pins, ∀ o', rr.fd q = some o' → ∃ o, pk.fd q = some o ∧ mu5 q = mu q ∧ o.like o' ∧ ∀ b, mu q = some b → keeps w w4 b := fun q hq o' ho' => by
              rw [rfd] at ho'
              by_cases e : q = i
              · rw [if_pos e] at ho'
                cases ho'
                refine ⟨.lp (f * bigK + p) lv cap 0, by rw [e]; exact hfd, ?_, trivial, fun bl hb => ?_⟩
                · show (if q = i then some l else mu4 q) = _
                  rw [if_pos e, e, hmu]
                · rw [e, hmu] at hb
                  cases hb
                  refine ⟨fun k n ht => ?_, fun r0 hr0 => ⟨recE, hl4, ?_⟩⟩
                  · rcases Nat.eq_zero_or_pos n with rfl | hn
                    · intro j hj; omega
                    · have := (ht 0 hn).1
                      simp [World.cell?, hl] at this
                  · rw [hl] at hr0
                    cases hr0
                    rfl
              · rw [if_neg e] at ho'
                obtain ⟨o1, n1, n2, n3, n4⟩ := (hS6.pin q hq).2 o' (by show fnd (obsL pk1) q = some o'; rw [fnd_obsL]; exact ho')
                refine ⟨o1, n1, ?_, n3, fun bl hb => (n4 bl hb).trans (sh3.keeps (fun e' => ne6 q (by rw [ho']; rfl) (n2.trans (e' ▸ hb))))⟩
                show (if q = i then some l else mu4 q) = _
                rw [if_neg e]
                exact n2
            have fin : ∃ v w', (Instr.endRound l jump).run E.P w3 = .ok v w' ∧ ∃ v' mu' R', Ending.returned v = .returned v' ∧ Mem (ownB pk mu) R w (pkCx rr mu' R' w') ∧ repV (pkCx rr mu' R' w') (rr.roots.headD .dead) v' ∧
                ∀ i ∈ idsL pk.pins, ∀ o', rr.fd i = some o' → ∃ o, pk.fd i = some o ∧ mu' i = mu i ∧ o.like o' ∧ ∀ b, mu i = some b → keeps w w' b := ⟨_, _, run4, _, mu5, R2, rfl, hMF, hrootF, hpinsF⟩
            cases ex2 with
            | normal => rw [hjump] at fin; exact fin
            | ret => rw [hjump] at fin; exact fin
            | exit q =>
              rw [hjump] at fin
              simp only [jumpOf, exJ] at fin
              simpa [roundPost, exK] using fin
    · exact (Tr.to_fail h).elim
  · exact (Tr.to_fail h).elim
end
end Go.Am
namespace Go.Am
noncomputable section
variable [PI : Inhabited Program]
def exOf : Nat → Ex
  | 0 => .normal
  | 1 => .ret
  | n + 2 => .exit n
def rngEnd (args : List TV) (C : Cut) (tm : List TV) (i : Nat) (ob : List (Nat × Ob)) (us : List Nat) : Tr (Ex × Pk) :=
  match fnd ob i with
  | some (.lp _ lv cap j) => outK args (C.out (exOf j)) { tm := setsT tm lv cap, ob := del1 ob i, us := us } fun pk' => .ret (exOf j, pk')
  | _ => .fail
def rngCall (E : Env) (k : Nat) (lv : List Nat) (args : List TV) (C : Cut) (st : St) (i : Nat) (h : FuncId) (capG cap : List TV) : Tr (Ex × Pk) :=
  ((callEv E h (0 :: capG.map fun _ => 0) (.yv i :: capG) 1000000).run ((i, .lp k lv cap 0) :: st.ob)).bind fun e =>
    fEff e fun e => match adds ((i, .lp k lv cap 0) :: st.ob) (i :: st.us) e.new with
      | some (ob, us) => fSp (upds ob e.upd) fun ob => rngEnd args C st.tm i ob us
      | none => .fail
def rngEv (E : Env) (n : Nat) (k : Nat) (lv : List Nat) (g : Operand) (args : List TV) (C : Cut) (pk : Pk) : Tr (Ex × Pk) :=
  match fnOf (tvE (inSt n C.live pk).tm g) with
  | some (h, capG) => (keepAll (lv.map fun t => getT (inSt n C.live pk).tm t) fun cap => .done (rngCall E k lv args C (inSt n C.live pk) pk.obs.length h capG cap)).run (obsL pk)
  | none => .fail
theorem repCap_of {C : Cx} {tmps : Array Value} : ∀ (lv : List Nat) (cap : List TV), repVL C cap (lv.map fun t => tmps.getD t undef) → repCap C tmps lv cap
  | [], [], _ => trivial
  | [], _ :: _, ⟨v, r, e, _⟩ => by cases e
  | _ :: _, [], h => by cases (show _ = [] from h)
  | t :: lv, x :: cap, ⟨v, r, e, h1, h2⟩ => by
    rw [List.map_cons] at e
    cases e
    exact ⟨h1, repCap_of lv cap h2⟩
theorem setsT_slots {C : Cx} {tmps : Array Value} : ∀ (ts : List Nat) (xs tm : List TV), (∀ i x, tm[i]? = some x → repV C x (tmps.getD i undef)) → repCap C tmps ts xs → ∀ i x, (setsT tm ts xs)[i]? = some x → repV C x (tmps.getD i undef)
  | [], xs, tm, h, _ => h
  | _ :: _, [], tm, h, _ => h
  | t :: ts, x :: xs, tm, h, ⟨h1, h2⟩ => by
    have e1 : setsT tm (t :: ts) (x :: xs) = setsT (tm.set t x) ts xs := by
      unfold setsT
      rw [List.zip_cons_cons, List.foldl_cons]
      show List.foldl _ (setT tm t x) _ = _
      rw [setT_eq]
    rw [e1]
    refine setsT_slots ts xs (tm.set t x) (fun i y hy => ?_) h2
    simp only [List.getElem?_set] at hy
    by_cases e : t = i
    · subst e
      by_cases hlt : t < tm.length
      · simp [hlt] at hy
        subst hy
        exact h1
      · simp [hlt] at hy
    · simp [e] at hy
      exact h i y hy
theorem Mem.mark {O R0 : Nat → Prop} {w0 : World} {C : Cx} (hM : Mem O R0 w0 C) (o : Obj) :
    Mem O R0 w0 { C with R := fun b => b = C.w.heap.size ∨ C.R b, w := C.w.alloc o } ∧ Ext C { C with R := fun b => b = C.w.heap.size ∨ C.R b, w := C.w.alloc o } := by
  have g := Grow.alloc C.w o
  have hM1 := hM.grow g
  have hE1 := Ext.grow (C := C) hM.rlt g
  have hE : Ext C { C with R := fun b => b = C.w.heap.size ∨ C.R b, w := C.w.alloc o } := ⟨hE1.U, hE1.fd, fun _ h => .inr h, hE1.size, hE1.blk, hE1.there⟩
  have hsz : (C.w.alloc o).heap.size = C.w.heap.size + 1 := by show (C.w.heap.push o).size = _; rw [Array.size_push]
  refine ⟨⟨hM1.us, hM1.fr, fun i ob ho => ?_, hM1.inj, fun i b h1 h2 h3 => ?_, hM1.own, hM1.lt, fun b hb => ?_, fun b hb => .inr (hM.ro0 b hb), fun b hb => ?_⟩, hE⟩
  · refine repO_of hE rfl (fun b hb => ?_) (hM.obs i ob ho)
    exact g.block b (hM.lt i b (Option.isSome_iff_exists.2 ⟨ob, ho⟩) hb)
  · rcases h3 with h3 | h3
    · have h4 := hM.lt i b h1 h2
      have h3 : b = C.w.heap.size := h3
      omega
    · exact hM.notR i b h1 h2 h3
  · rcases hb with hb | hb
    · exact .inr (.inr (by rw [hb]; exact hM.fr.size))
    · exact hM.ro b hb
  · show b < (C.w.alloc o).heap.size
    rcases hb with hb | hb
    · omega
    · have := hM.rlt b hb; omega
theorem rangeOK {E : Env} (hE : EnvOK E) {f p : Nat} {fn : Func} (hf : E.P.funcs[f]? = some fn) (hp : p < bigK) {g : Operand} {ps : Array Tmp} {a b : Code} (hat : At (bod fn) p (.rangeFunc g ps a b)) {args : List TV} {lv : List Nat} {C : Cut}
    (h : ∀ pk r, (C.orc pk).to r → (rngEv E fn.ntmps (f * bigK + p) lv g args C pk).to r) : CutOK E.P none fn.ntmps (idsL args) (.rangeFunc g ps a b) C := by
  intro pk ex pk' ho K a0 mu R w Q hpn hS hQ
  have h := h _ _ ho
  unfold rngEv at h
  split at h
  · rename_i hh capG hg
    obtain ⟨cap, h, hcl, hcapE⟩ := keepAll_ok (obsL pk) _ _ _ h
    rw [GTr.run_done] at h
    unfold rngCall at h
    obtain ⟨e, h1, h2⟩ := Tr.to_bind h
    rw [fEff_eq] at h2
    split at h2
    · rename_i ob us hadd
      rw [fSp_eq] at h2
      unfold rngEnd at h2
      split at h2
      · rename_i k2 lv2 cap2 j hlp
        let st := inSt fn.ntmps C.live pk
        have hM := hS.mem
        obtain ⟨cs, hev, hcs⟩ := fnOf_spec hg (hS.eval g)
        -- the two blocks
        let r := w.heap.size
        let wa := w.alloc (.deferred (some []))
        have hwa : wa.heap.size = r + 1 := by show (w.heap.push _).size = _; rw [Array.size_push]
        refine wpIn_rangeFunc (F := Fence.wide) (n := 0) fun fn' _ => ?_
        let rcd : Loop := { state := .ready, pending := none, fn := fn', tmps := a0.tmps, params := ps, assign := a, body := b, defers := w.heap.size }
        let w1 := wa.alloc (.loop rcd)
        have hw1 : w1.heap.size = r + 2 := by show (wa.heap.push _).size = _; rw [Array.size_push, hwa]
        let l := r + 1
        obtain ⟨hMa, hEa⟩ := hM.mark (.deferred (some []))
        -- the record as an object
        let i := pk.obs.length
        have hiU : ¬ (i ∈ st.us) := by simp [st, inSt, i]
        have gl : Grow wa w1 := Grow.alloc wa _
        have hl1 : w1.heap[l]? = some (.loop rcd) := by
          show (wa.heap.push _)[r + 1]? = _
          rw [← hwa]; simp
        let Ca : Cx := cx st.us st.ob mu (fun b => b = r ∨ R b) wa
        have hEb := Ext.addNew (C := Ca) (id := i) (ob := .lp (f * bigK + p) lv cap 0) (m := some l) hMa.rlt hiU gl
        have hE1 : Ext (cx st.us st.ob mu R w) ({ Ca with w := w1 }.add i (.lp (f * bigK + p) lv cap 0) (some l)) := hEa.trans hEb
        have hcx1 : ({ Ca with w := w1 } : Cx).add i (.lp (f * bigK + p) lv cap 0) (some l) = cx (i :: st.us) ((i, .lp (f * bigK + p) lv cap 0) :: st.ob) (fun q => if q = i then some l else mu q) (fun b => b = r ∨ R b) w1 := by
          simp only [Cx.add, Cx.mk.injEq, and_true, Ca]
          refine ⟨funext fun q => by simp, funext fun q => by rw [fnd_cons]⟩
        have hvals : repVL (cx st.us st.ob mu R w) (lv.map fun t => getT st.tm t) (lv.map fun t => a0.tmps.getD t undef) := by
          have : ∀ lv : List Nat, repVL (cx st.us st.ob mu R w) (lv.map fun t => getT st.tm t) (lv.map fun t => a0.tmps.getD t undef) := by
            intro lv
            induction lv with
            | nil => rfl
            | cons t lv ih => exact ⟨_, _, rfl, hS.eval (.tmp t), ih⟩
          exact this lv
        have hcapv := hcapE st.us mu R w _ hvals
        have hM1 : Mem K.O K.R0 K.w0 (cx (i :: st.us) ((i, .lp (f * bigK + p) lv cap 0) :: st.ob) (fun q => if q = i then some l else mu q) (fun b => b = r ∨ R b) w1) := by
          rw [← hcx1]
          refine hMa.addNew (w' := w1) hiU gl (by show wa.heap.size ≤ l; omega) (by omega) ?_
          refine ⟨l, rcd, by simp [Cx.add], hl1, ⟨fn, g, ?_, ?_, ?_⟩, ?_, rfl, rfl⟩
          · rw [hE.prog, Nat.mul_comm, Nat.mul_add_div (by decide : bigK > 0), Nat.div_eq_of_lt hp, Nat.add_zero]; exact hf
          · rw [Nat.mul_add_mod_self_right, Nat.mod_eq_of_lt hp]; exact hat
          · show a0.tmps.size = _
            rw [hS.len, inSt_len]
          · exact repCap_mono hE1 lv cap (repCap_of lv cap hcapv)
        rw [hcx1] at hE1
        have hargs : repVL (cx (i :: st.us) ((i, .lp (f * bigK + p) lv cap 0) :: st.ob) (fun q => if q = i then some l else mu q) (fun b => b = r ∨ R b) w1) (.yv i :: capG) (.func (.yield l) #[] #[] :: cs) :=
          ⟨_, _, rfl, ⟨l, rfl, List.mem_cons_self .., fun _ => by simp⟩, repVL_mono hE1 _ _ hcs⟩
        obtain ⟨⟨fh, hfh, hbody, hname⟩, hrun⟩ := callEv_runs hE hM1 hargs h1 hadd
        refine ⟨l, [markOf r], w1, { target := .fn (.func hh) cs.toArray, args := #[.func (.yield l) #[] #[]] }, w1, hh, (.func (.yield l) #[] #[] :: cs).toArray, w1, run_enterLoop_outer fn' a0.tmps ps a b, ?_, fun _ _ => trivial, ?_, fun hx => (by cases hx), ?_⟩
        · simp only [resolve, rangeCall, hev, Deferred.ofValue, Sem.run_pure]
          simp [Act.eval, Sem.run_pure]
        · simp only [invoke, callFunc, Sem.run_bind]
          have hpp : (program).run E.P w1 = .ok E.P w1 := rfl
          simp only [hpp, Result.andThen_ok, hfh, hname, hbody]
          simp [Sem.run_pure]
        · refine CallsIn.mono (fen_calls (ro := none) hrun) fun e' w' he => ?_
          obtain ⟨v, rfl, mu2, R2, d1, d2, d3⟩ := he
          -- the record behind the call
          obtain ⟨l', rec', g1, g2, g3, g4, g5, g6⟩ := d2.obs i _ hlp
          obtain ⟨_, _, g7, _⟩ := d1.fd i _ (List.mem_cons_self ..) hlp
          have g7 : mu2 i = some l := by rw [show mu2 i = _ from g7]; simp
          have g1 : mu2 i = some l' := g1
          rw [g7] at g1
          cases g1
          have hl2 : w'.heap[l]? = some (.loop rec') := g2
          have hbusy : rec'.state ≠ .busy := by
            rw [g5]
            split <;> simp
          have hrunE := run_endLoop (P := E.P) hl2 hbusy
          have shE : Sh w' (w'.putObj l (.loop { rec' with state := .exhausted })) l := loop_sh hl2
          let w4 := w'.putObj l (.loop { rec' with state := .exhausted })
          have hls : (fnd (upds ob e.upd) i).isSome = true := by rw [hlp]; rfl
          -- the state behind
          have hEd : Ext (cx us (upds ob e.upd) mu2 R2 w') (cx us (del1 (upds ob e.upd) i) mu2 R2 w') := by
            refine Ext.sub (fun q o ho => ?_) rfl rfl rfl rfl
            have ho : fnd (del1 (upds ob e.upd) i) q = some o := ho
            rw [fnd_del1] at ho
            by_cases e : q = i
            · rw [if_pos e] at ho; cases ho
            · rw [if_neg e] at ho; exact ho
          have hMd : Mem K.O K.R0 K.w0 (cx us (del1 (upds ob e.upd) i) mu2 R2 w') := by
            refine d2.sub (fun q o ho => ?_) rfl rfl rfl rfl
            have ho : fnd (del1 (upds ob e.upd) i) q = some o := ho
            rw [fnd_del1] at ho
            by_cases e : q = i
            · rw [if_pos e] at ho; cases ho
            · rw [if_neg e] at ho; exact ho
          have neD : ∀ q, (fnd (del1 (upds ob e.upd) i) q).isSome = true → mu2 q ≠ some l := fun q hq hm => by
            rw [fnd_del1] at hq
            by_cases e : q = i
            · rw [if_pos e] at hq; cases hq
            · rw [if_neg e] at hq
              exact e (d2.inj q i l hq hls hm g7)
          have hsz2 : w1.heap.size ≤ w'.heap.size := d1.size
          have hKl : K.w0.heap.size ≤ l := by have := hM.fr.size; have : K.w0.heap.size ≤ w.heap.size := this; omega
          have hfr4 : Fr K.O K.w0 w4 := by
            have fr := d2.fr
            exact ⟨fr.os, fr.tape, fr.output, by rw [World.putObj_size]; exact fr.size, fun k hk hO => (World.putObj_heap_other (by omega)).trans (fr.block k hk hO)⟩
          have hM4 := hMd.sh shE neD hfr4
          have hX : Ext (cx st.us st.ob mu R w) (cx us (del1 (upds ob e.upd) i) mu2 R2 w') := (hE1.trans d1).trans hEd
          have htm : rec'.tmps = a0.tmps := by
            obtain ⟨r1, h1, h2⟩ := (d1.there i _ l (List.mem_cons_self ..) hlp (by simp)).2 rcd hl1
            have h1 : w'.heap[l]? = some (.loop r1) := h1
            rw [hl2] at h1
            cases h1
            exact h2
          have hcap4 : repCap (cx us (del1 (upds ob e.upd) i) mu2 R2 w4) a0.tmps lv2 cap2 := by
            have g4 : repCap (cx us (upds ob e.upd) mu2 R2 w') rec'.tmps lv2 cap2 := g4
            rw [htm] at g4
            exact repCap_to (f := fun q => q) (S := fun _ => True) (fun x v _ hx => repV_sh (C := cx us (del1 (upds ob e.upd) i) mu2 R2 w') shE neD x v (repV_mono hEd x v hx)) lv2 cap2 (fun _ _ => trivial) g4
          have hS4 : Sim K { tm := setsT st.tm lv2 cap2, ob := del1 (upds ob e.upd) i, us := us } { a0 with defers := [markOf r] ++ a0.defers } mu2 R2 w4 := by
            refine ⟨hM4, hS.len.trans (setsT_len ..).symm, setsT_slots lv2 cap2 st.tm (fun q x hx => ?_) hcap4, ?_, fun q hq => ⟨hX.U q (hS.pin q hq).1, fun o' ho' => ?_⟩⟩
            · exact repV_sh (C := cx us (del1 (upds ob e.upd) i) mu2 R2 w') shE neD x _ (repV_mono hX _ _ (hS.slots q x hx))
            · obtain ⟨m0, ms, m1, m2, m3⟩ := hS.df
              have hr2 : R2 r ∧ w4.heap[r]? = some (.deferred (some [])) := by
                refine ⟨d1.R r (.inl rfl), (shE.obj r (by omega)).trans ((d1.blk r (.inl rfl)).trans ((gl.block r (by omega)).trans ?_))⟩
                show (w.heap.push _)[w.heap.size]? = _
                simp
              have hw4 : w4.heap.size = w'.heap.size := World.putObj_size
              refine ⟨by rw [hw4]; have : K.b0 ≤ r := m0; omega, r :: ms, by rw [m1]; rfl, List.nodup_cons.2 ⟨fun hm => ?_, m2⟩, fun q hq => ?_⟩
              · have := (Array.getElem?_eq_some_iff.1 (m3 r hm).2.2).1
                have : r < r := this
                omega
              · rcases List.mem_cons.1 hq with rfl | hq
                · exact ⟨hr2.1, m0, hr2.2⟩
                · obtain ⟨n1, n2, n3⟩ := m3 q hq
                  have hqw := (Array.getElem?_eq_some_iff.1 n3).1
                  have hqw : q < r := hqw
                  refine ⟨hX.R q n1, n2, (shE.obj q (by omega)).trans ?_⟩
                  exact (d1.blk q (.inr n1)).trans ((gl.block q (by omega)).trans ((Grow.alloc w _).block q hqw |>.trans n3))
            · obtain ⟨o1, k1, k2, k3⟩ := hX.fd q o' (hS.pin q hq).1 ho'
              obtain ⟨o, k4, k5, k6, k7⟩ := (hS.pin q hq).2 o1 k1
              exact ⟨o, k4, k2.trans k5, k6.trans k3, fun b hb => ((k7 b hb).trans (hX.there q o' b (hS.pin q hq).1 ho' (k5.trans hb))).trans (shE.keeps (fun e => neD q (Option.isSome_iff_exists.2 ⟨o', ho'⟩) (k2.trans (k5.trans (e ▸ hb)))))⟩
          obtain ⟨pk1, mu3, n1, n2⟩ := outK_sim hS4 hpn h2
          cases Tr.to_ret n1
          have n2 : Sim K (inSt (setsT st.tm lv2 cap2).length (C.out (exOf j)) pk') { a0 with defers := [markOf r] ++ a0.defers } mu3 R2 w4 := n2
          rw [show (setsT st.tm lv2 cap2).length = fn.ntmps from (setsT_len ..).trans (inSt_len ..)] at n2
          have hq := hQ _ mu3 R2 w4 n2
          refine ⟨rec'.pending, w4, hrunE, ?_⟩
          rw [g6]
          match j, hq with
          | 0, hq => exact hq
          | 1, hq => exact wpIn_ret hq
          | j + 2, hq =>
            have : jumpOf (j + 2) = some (.exit j) := by simp [jumpOf]
            rw [this]
            exact wpIn_exit hq
      · exact (Tr.to_fail h2).elim
    · exact (Tr.to_fail h2).elim
  · exact (Tr.to_fail h).elim
def rfG (fn : Func) (p : Nat) : Operand := match codeOf (bod fn) 200 p with
  | some (.rangeFunc g _ _ _) => g
  | _ => .const undef
def rfP (fn : Func) (p : Nat) : List Nat := match codeOf (bod fn) 200 p with
  | some (.rangeFunc _ ps _ _) => ps.toList
  | _ => []
def rfA (fn : Func) (p : Nat) : Code := match codeOf (bod fn) 200 p with
  | some (.rangeFunc _ _ a _) => a
  | _ => .skip
def rfB (fn : Func) (p : Nat) : Code := match codeOf (bod fn) 200 p with
  | some (.rangeFunc _ _ _ b) => b
  | _ => .skip
def isRf (fn : Func) (p : Nat) : Bool := match codeOf (bod fn) 200 p with
  | some (.rangeFunc ..) => Nat.blt p bigK
  | _ => false
theorem codeOf_at (root : Code) : ∀ (n p : Nat) (c : Code), codeOf root n p = some c → At root p c
  | 0, p, c, h => by cases h
  | n + 1, p, c, h => by
    unfold codeOf at h
    cases h1 : Nat.beq p 1 with
    | true =>
      rw [h1] at h
      cases h
      rw [Nat.eq_of_beq_eq_true h1]
      exact .root
    | false =>
      rw [h1] at h
      simp only [cond_false] at h
      have e0 : Nat.beq (p % 2) 0 = true → p = 2 * (p / 2) := fun h => by have := Nat.eq_of_beq_eq_true h; omega
      have e1 : Nat.beq (p % 2) 0 = false → p = 2 * (p / 2) + 1 := fun h => by
        have : p % 2 ≠ 0 := fun e => by rw [e] at h; cases h
        omega
      split at h
      · rename_i a b hc
        have := codeOf_at root n _ _ hc
        cases hb : Nat.beq (p % 2) 0 with
        | true => rw [hb] at h; cases h; rw [e0 hb]; exact this.seqL
        | false => rw [hb] at h; cases h; rw [e1 hb]; exact this.seqR
      · rename_i x a b hc
        have := codeOf_at root n _ _ hc
        cases hb : Nat.beq (p % 2) 0 with
        | true => rw [hb] at h; cases h; rw [e0 hb]; exact this.condT
        | false => rw [hb] at h; cases h; rw [e1 hb]; exact this.condE
      · rename_i id a hc
        have := codeOf_at root n _ _ hc
        cases hb : Nat.beq (p % 2) 0 with
        | true => rw [hb] at h; cases h; rw [e0 hb]; exact this.block
        | false => rw [hb] at h; cases h
      · rename_i a hc
        have := codeOf_at root n _ _ hc
        cases hb : Nat.beq (p % 2) 0 with
        | true => rw [hb] at h; cases h; rw [e0 hb]; exact this.loop
        | false => rw [hb] at h; cases h
      · rename_i a hc
        have := codeOf_at root n _ _ hc
        cases hb : Nat.beq (p % 2) 0 with
        | true => rw [hb] at h; cases h; rw [e0 hb]; exact this.scope
        | false => rw [hb] at h; cases h
      · rename_i g ps a b hc
        have := codeOf_at root n _ _ hc
        cases hb : Nat.beq (p % 2) 0 with
        | true => rw [hb] at h; cases h; rw [e0 hb]; exact this.rfA
        | false => rw [hb] at h; cases h; rw [e1 hb]; exact this.rfB
      · cases h
theorem isRf_spec {fn : Func} {p : Nat} (h : isRf fn p = true) : ∃ ps : Array Tmp, ps.toList = rfP fn p ∧ At (bod fn) p (.rangeFunc (rfG fn p) ps (rfA fn p) (rfB fn p)) ∧ p < bigK := by
  unfold isRf at h
  unfold rfP rfG rfA rfB
  split at h
  · rename_i g ps a b hc
    exact ⟨ps, rfl, codeOf_at _ _ _ _ hc, Nat.blt_eq ▸ h⟩
  · cases h
def LD.rng (L : LD) (E : Env) (fn : Func) (A : List Nat) (k : Nat) (lv : List Nat) (x : L.X) : Option L.R :=
  (rngEv E fn.ntmps k lv (rfG fn L.p) (argA A) (L.cut fun _ => none) (L.s.J x)).run (xD L.w)
theorem LD.rngT {P : Program} {tab : List (Nat × (Pk → Tr Pk))} (L : LD) (own : FuncId → List Nat) (hm : MixP P own) (ht : TabOK P tab) {f : FuncId} {fn : Func} (hf : P.funcs[f]? = some fn) (A : List Nat) (lv : List Nat) (hc : isRf fn L.p = true)
    (F : L.X → Option L.R) (heq : ∀ x, L.rng (mkE P own tab []) fn A (f * bigK + L.p) lv x = F x) : CutAt P false fn A L.p (L.cut F) := by
  obtain ⟨ps, _, hat, hp⟩ := isRf_spec hc
  intro c' hat' ro hb
  cases ro with
  | some _ => cases hb
  | none =>
    have := hat.uniq hat'
    subst this
    refine rangeOK (E := mkE P own tab []) (mkE_ok hm ht) hf hp hat (lv := lv) (args := A.map fun i => .adr i []) fun pk r h => ?_
    unfold LD.cut tellX at h
    simp only at h
    split at h
    · rename_i x hx
      obtain ⟨y, g1, g2⟩ := Tr.to_ask h
      rw [← heq] at g1
      obtain ⟨z, g3, g4⟩ := Tr.to_run g1
      have := xD_O L.w _ _ g4 _ g2
      subst this
      have := L.s.I_J _ _ hx
      subst this
      exact g3
    · exact (Tr.to_fail h).elim
def rndR (E : Env) (fn : Func) (k p : Nat) (s : SP) (w : List SP) (x : HT s.lv) : Option (WT w) := (rndEv E fn.ntmps k (rfP fn p) (rfA fn p) (rfB fn p) p (s.J x)).run (pD w)
theorem rnd_ok {P : Program} {tab : List (Nat × (Pk → Tr Pk))} (own : FuncId → List Nat) (hm : MixP P own) (ht : TabOK P tab) {f : FuncId} {fn : Func} (hf : P.funcs[f]? = some fn) (p : Nat) (s : SP) (w : List SP) (A : List Nat) {cuts : List (Nat × Cut)}
    (hC : CutsIn P true fn.ntmps (idsL (argA A)) (bod fn) cuts) (hids : ∀ x, idsL (s.J x).pins = idsL (argA A)) (hc : (isRf fn p && Nat.ble bigK (f * bigK + p)) = true) (F : HT s.lv → Option (WT w)) (heq : ∀ x, rndR (mkE P own tab cuts) fn (f * bigK + p) p s w x = F x) : FOK P (f * bigK + p) (tellS s w F) := by
  rw [Bool.and_eq_true] at hc
  obtain ⟨ps, hps, hat, hp⟩ := isRf_spec hc.1
  intro pk r h
  refine ⟨fun hlt => absurd (Nat.le_of_ble_eq_true hc.2) (Nat.not_le.2 hlt), fun _ => ?_⟩
  unfold tellS tell at h
  split at h
  · rename_i x hx
    obtain ⟨y, g1, g2⟩ := Tr.to_ask h
    rw [← heq] at g1
    obtain ⟨z, g3, g4⟩ := Tr.to_run g1
    have := pD_O w _ _ g4 _ g2
    subst this
    have := s.I_J _ _ hx
    subst this
    refine rndOK (E := mkE P own tab cuts) (mkE_ok hm ht) hf hp hat (fun l => ?_) (by rw [hps]; exact g3)
    rw [hids]
    exact cutsIn_ok rfl hC
  · exact (Tr.to_fail h).elim
end
end Go.Am
namespace Go.Am
noncomputable section
variable [PI : Inhabited Program]
def wfD : (t : Ty) → t.den → Prop
  | .int k, n => k.min ≤ n ∧ n ≤ k.max
  | .bool, _ => True
  | .str, s => s.size ≤ maxLen
  | .sl t, xs => xs.length ≤ maxLen ∧ ∀ x ∈ xs, wfD t x
  | .unit, _ => True
  | .cons a r, x => wfD a x.1 ∧ wfD r x.2
def fsLaid (P : Program) (laid : TypeId → Bool) (ty : TypeId → Option Ty) : List Field → Nat → Nat → Bool
  | [], off, tot => Nat.beq off tot
  | f :: fs, off, tot => Nat.beq f.offset off && laid f.type && (match ty f.type with | some t => Nat.beq (P.cellsOf f.type) t.cells | none => false) && fsLaid P laid ty fs (off + P.cellsOf f.type) tot
def tyLaid (P : Program) : Nat → TypeId → Bool
  | 0, _ => false
  | m + 1, T => match P.underlying T with
    | some (.slice e) => tyLaid P m e && (match tyOf P m e with | some t => Nat.beq (P.cellsOf e) t.cells && Nat.blt 0 t.cells | none => false)
    | some (.struct fs) => fsLaid P (tyLaid P m) (tyOf P m) fs.toList 0 (P.cellsOf T)
    | _ => true
theorem cells_run {w : World} {a : Addr} {n : Nat} {cs : List Value} (h : w.cells? 0 a n = some cs) : cs.length = n ∧ ∀ j v, cs[j]? = some v → w.cell? (a.add j) = some v := by
  unfold World.cells? at h
  rw [if_pos (Nat.zero_le _)] at h
  have key : ∀ (n k : Nat) (cs : List Value), (List.range' k n).mapM (fun i => w.cell? (a.add i)) = some cs → cs.length = n ∧ ∀ j v, cs[j]? = some v → w.cell? (a.add (k + j)) = some v := by
    intro n
    induction n with
    | zero => intro k cs h; cases h; exact ⟨rfl, fun j v hj => by simp at hj⟩
    | succ n ih =>
      intro k cs h
      rw [List.range'_succ, List.mapM_cons] at h
      cases ha : w.cell? (a.add k) with
      | none => rw [ha] at h; cases h
      | some b =>
        rw [ha] at h
        cases hl : (List.range' (k + 1) n).mapM (fun i => w.cell? (a.add i)) with
        | none => rw [hl] at h; cases h
        | some bs =>
          rw [hl] at h
          cases h
          obtain ⟨h1, h2⟩ := ih _ _ hl
          refine ⟨by simp [h1], fun j v hj => ?_⟩
          cases j with
          | zero => simp at hj; subst hj; exact ha
          | succ j =>
            have := h2 j v (by simpa using hj)
            rw [show k + (j + 1) = k + 1 + j by omega]; exact this
  have := key n 0 cs (by rw [← List.range_eq_range']; exact h)
  simpa using this
theorem fields_rep {P : Program} {w : World} {laid : TypeId → Bool} {ty : TypeId → Option Ty} {rd : TypeId → List Value → Prop}
    (ih : ∀ T cs t, laid T = true → rd T cs → ty T = some t → ∃ x : t.den, wfD t x ∧ repD (fun b => b < w.heap.size) w t x cs) :
    ∀ (fs : List Field) (off tot : Nat) (cs : List Value) (t : Ty), cs.length = tot → fsLaid P laid ty fs off tot = true → tyCons (fs.map fun f => ty f.type) = some t →
      (∀ f ∈ fs, rd f.type ((cs.drop f.offset).take (P.cellsOf f.type))) → ∃ x : t.den, wfD t x ∧ repD (fun b => b < w.heap.size) w t x (cs.drop off)
  | [], off, tot, cs, t, hlen, hl, ht, _ => by
    cases ht
    have : off = tot := Nat.eq_of_beq_eq_true hl
    subst this
    exact ⟨(), trivial, List.drop_eq_nil_of_le (by omega)⟩
  | f :: fs, off, tot, cs, t, hlen, hl, ht, hr => by
    simp only [fsLaid, Bool.and_eq_true] at hl
    obtain ⟨⟨⟨h1, h2⟩, h3⟩, h4⟩ := hl
    have h1 : f.offset = off := Nat.eq_of_beq_eq_true h1
    simp only [List.map_cons] at ht
    cases hty : ty f.type with
    | none => rw [hty] at ht; cases ht
    | some a =>
      rw [hty] at ht h3
      simp only [tyCons] at ht
      cases hc : tyCons (fs.map fun f => ty f.type) with
      | none => rw [hc] at ht; cases ht
      | some b =>
        rw [hc] at ht
        cases ht
        obtain ⟨y, wy, ry⟩ := fields_rep ih fs _ tot cs b hlen h4 hc fun g hg => hr g (List.mem_cons_of_mem _ hg)
        obtain ⟨x, wx, rx⟩ := ih _ _ _ h2 (hr f (List.mem_cons_self ..)) hty
        rw [h1] at rx
        refine ⟨(x, y), ⟨wx, wy⟩, _, _, ?_, rx, ry⟩
        rw [← List.drop_drop, List.take_append_drop]
theorem add_add (a : Addr) (i j : Nat) : (a.add i).add j = a.add (i + j) := by
  unfold Addr.add
  by_cases hi : i = 0
  · subst hi; simp
  · by_cases hj : j = 0
    · subst hj; simp [hi]
    · have : i + j ≠ 0 := by omega
      simp [hi, hj, this, Nat.add_assoc]
theorem rows_rep {w : World} {a : Addr} {sz : Nat} {t : Ty} {len : Nat} (hsz : t.cells = sz) (h : ∀ i, i < len → ∃ cs x, w.cells? 0 (a.add (i * sz)) sz = some cs ∧ wfD t x ∧ repD (fun b => b < w.heap.size) w t x cs) :
    ∃ xs : List t.den, ∃ cs : List Value, xs.length = len ∧ (∀ x ∈ xs, wfD t x) ∧ repL (repD (fun b => b < w.heap.size) w t) xs cs ∧ cs.length = len * sz ∧ ∀ j v, cs[j]? = some v → w.cell? (a.add j) = some v := by
  induction len with
  | zero => exact ⟨[], [], rfl, fun x hx => (by cases hx), rfl, by simp, fun j v hj => by simp at hj⟩
  | succ len ih =>
    obtain ⟨xs, cs, h1, h2, h3, h4, h5⟩ := ih fun i hi => h i (by omega)
    obtain ⟨ds, x, k1, k2, k3⟩ := h len (by omega)
    obtain ⟨g1, g2⟩ := cells_run k1
    refine ⟨xs ++ [x], cs ++ ds, by simp [h1], fun z hz => ?_, repL_append _ _ _ _ h3 ⟨ds, [], by simp, k3, rfl⟩, by simp [h4, g1, Nat.add_mul], fun j v hj => ?_⟩
    · rcases List.mem_append.1 hz with hz | hz
      · exact h2 z hz
      · simp at hz; subst hz; exact k2
    · by_cases hlt : j < cs.length
      · rw [List.getElem?_append_left hlt] at hj
        exact h5 j v hj
      · rw [List.getElem?_append_right (by omega)] at hj
        have := g2 _ _ hj
        rw [h4] at this hlt
        rw [add_add, show len * sz + (j - len * sz) = j by omega] at this
        exact this
theorem trod_rep {H : Type} {enc : TypeId × Value → H} {P : Program} {w : World} {sp : Nat → Bool} {held : Bool} : ∀ (m n : Nat) (T : TypeId) (cs : List Value) (y : DataW H × List MemPlace) (t : Ty), tyLaid P m T = true → DataW.trod enc P w 0 sp held n T cs = some y → tyOf P m T = some t →
    ∃ x : t.den, wfD t x ∧ repD (fun b => b < w.heap.size) w t x cs := by
  intro m
  induction m with
  | zero => intro n T cs y t h; cases h
  | succ m ih =>
    intro n T cs y t hl h ht
    simp only [tyOf] at ht
    simp only [tyLaid] at hl
    cases hu : P.underlying T with
    | none => rw [hu] at ht; cases ht
    | some d =>
      rw [hu] at ht hl
      cases d with
      | bool =>
        cases ht
        obtain ⟨b, rfl, _⟩ := DataW.trod_bool hu h
        exact ⟨b, trivial, rfl⟩
      | int k =>
        cases ht
        obtain ⟨b, rfl, _, hw⟩ := DataW.trod_int hu h
        simp only [Lit.wf, Bool.and_eq_true, decide_eq_true_eq] at hw
        exact ⟨b, hw, rfl⟩
      | string =>
        cases ht
        obtain ⟨b, rfl, _, hw⟩ := DataW.trod_string hu h
        exact ⟨b, hw, rfl⟩
      | slice e =>
        simp only at ht hl
        cases hte : tyOf P m e with
        | none => rw [hte] at ht; cases ht
        | some te =>
          rw [hte] at ht hl
          cases ht
          simp only [Bool.and_eq_true] at hl
          obtain ⟨hl1, hl2, hl3⟩ := hl
          have hsz : P.cellsOf e = te.cells := Nat.eq_of_beq_eq_true hl2
          have hpos : 0 < te.cells := Nat.blt_eq ▸ hl3
          rcases DataW.trod_slice hu h with ⟨rfl, _⟩ | ⟨a, len, cap, elems, rest, n', _, rfl, _, _, hcap, hmax, hel, helem, _, _⟩
          · exact ⟨[], ⟨Nat.zero_le _, fun x hx => by cases hx⟩, none, 0, rfl, Nat.le_refl _, .inl rfl⟩
          · obtain ⟨xs, cs', h1, h2, h3, h4, h5⟩ := rows_rep (w := w) (a := a) (sz := te.cells) (t := te) (len := len) rfl fun i hi => by
              have := helem i hi
              rw [List.getElem?_eq_getElem (by omega)] at this
              obtain ⟨cs, k1, k2⟩ := Option.bind_eq_some_iff.1 this
              obtain ⟨x, k3, k4⟩ := ih _ _ _ _ _ hl1 k2 hte
              rw [hsz] at k1
              exact ⟨cs, x, k1, k3, k4⟩
            refine ⟨xs, ⟨by omega, h2⟩, some a, cap, by rw [h1], by omega, ?_⟩
            cases xs with
            | nil => exact .inl rfl
            | cons x xs =>
              right
              have hlen0 : 0 < len := by simp at h1; omega
              have hc0 : 0 < cs'.length := by rw [h4]; exact Nat.mul_pos hlen0 hpos
              have hcell := h5 0 cs'[0] (List.getElem?_eq_getElem hc0)
              have hspot : a.spot = none := by
                unfold World.cell? at hcell
                split at hcell
                · split at hcell
                  · cases hcell
                  · rename_i hs; simpa [Addr.add] using hs
                · cases hcell
              have hblk : a.block < w.heap.size := by
                unfold World.cell? at hcell
                split at hcell
                · rename_i hs
                  exact (Array.getElem?_eq_some_iff.1 hs).1
                · cases hcell
              obtain ⟨ab, ao, asp⟩ := a
              simp only at hspot hblk
              subst hspot
              refine ⟨ab, ao, cs', rfl, hblk, hblk, h3, fun j v hj => ?_⟩
              have := h5 j v hj
              by_cases hj0 : j = 0
              · subst hj0; exact this
              · simpa [Addr.add, hj0] using this
      | struct fs =>
        simp only at ht hl
        obtain ⟨xs, n', _, _, hlen, hxl, hf⟩ := DataW.trod_struct hu h
        have := fields_rep (P := P) (w := w) (laid := tyLaid P m) (ty := tyOf P m) (rd := fun T cs => ∃ n y, DataW.trod enc P w 0 sp held n T cs = some y)
          (fun T cs t k1 ⟨n, y, k2⟩ k3 => ih n T cs y t k1 k2 k3) fs.toList 0 (P.cellsOf T) cs t hlen hl ht (fun f hf' => by
            obtain ⟨i, hi, he⟩ := List.getElem_of_mem hf'
            have hfi : fs[i]? = some f := by rw [← he]; simp at hi; simp [hi]
            have := hf i f hfi
            have hi' : i < xs.length := by rw [hxl]; simpa using hi
            rw [List.getElem?_eq_getElem hi'] at this
            exact ⟨_, _, this⟩)
        simpa using this
      | _ => cases ht
theorem arg_rep {H : Type} {enc : TypeId × Value → H} {P : Program} {w : World} {sp : Nat → Bool} {held : Bool} {base : Nat} {T : TypeId} {v : Value} {d : DataW H} {ps : List MemPlace} {t : Ty} (hl : tyLaid P dep T = true) (ht : tyOf P dep T = some t)
    (hok : Value.okWide P w .any base T v) (h : DataW.Trod enc P w 0 sp held T v d ps) : ∃ x : t.den, wfD t x ∧ repV ⟨fun _ => False, fun _ => none, fun _ => none, fun b => b < w.heap.size, w⟩ (tvOf t x) v := by
  obtain ⟨fuel, hf⟩ := h
  obtain ⟨x, hw, hr⟩ := trod_rep dep fuel T _ _ t hl hf ht
  refine ⟨x, hw, ?_⟩
  have hc := tvOf_rep (C := ⟨fun _ => False, fun _ => none, fun _ => none, fun b => b < w.heap.size, w⟩) t x _ hr
  have hv := repV_of_cells hc
  unfold Value.okWide at hok
  have hagg : (tvOf t x).isAgg = t.isAgg := by cases t <;> rfl
  cases hu : P.underlying T with
  | none => simp [dep, tyOf, hu] at ht
  | some dd =>
    rw [hu] at hok
    cases dd with
    | struct fs =>
      obtain ⟨cs, rfl, _⟩ := hok
      have ha : t.isAgg = true := by
        simp only [dep, tyOf, hu] at ht
        have : ∀ (l : List (Option Ty)) (t : Ty), tyCons l = some t → t.isAgg = true := by
          intro l t h
          cases l with
          | nil => cases h; rfl
          | cons a l =>
            cases a with
            | none => cases h
            | some a =>
              simp only [tyCons] at h
              split at h
              · cases h; rfl
              · cases h
        exact this _ _ ht
      have := hv.1 (by rw [hagg]; exact ha)
      simpa [Value.cells] using this
    | bool | int k | string | slice e =>
      have hna : t.isAgg = false := by
        simp only [dep, tyOf, hu] at ht
        first | (cases ht; rfl) | (split at ht <;> cases ht; rfl)
      obtain ⟨v', hv1, hv2⟩ := hv.2 (by rw [hagg]; exact hna)
      have hone : v.cells = #[v] := by
        cases v with
        | agg cs => simp [Cell.okWide, hu, Cell.ok] at hok
        | _ => rfl
      rw [hone] at hv1
      simp at hv1
      subst hv1
      exact hv2
    | _ => simp [dep, tyOf, hu] at ht
theorem below_kept {w w' : World} (h : RowKit.Below w.heap.size w w') (may : MemPlace → Prop) : w.keptBut w' may := by
  refine ⟨h.os, h.output, fun i hi => ?_⟩
  rw [h.block i hi]
  cases w.heap[i]? with
  | none => trivial
  | some o => cases o <;> first | exact ⟨rfl, rfl, rfl, fun _ _ => rfl⟩ | exact .inr ⟨rfl, rfl⟩ | rfl
@[reducible] def Dens : List Ty → Type
  | [] => Unit
  | t :: ts => t.den × Dens ts
def rootsOf : (ts : List Ty) → Dens ts → List TV
  | [], _ => []
  | t :: ts, x => tvOf t x.1 :: rootsOf ts x.2
def wfAll : (ts : List Ty) → Dens ts → Prop
  | [], _ => True
  | t :: ts, x => wfD t x.1 ∧ wfAll ts x.2
def parsB (P : Program) : List TypeId → List Ty → Bool
  | [], [] => true
  | T :: Ts, t :: ts => tyLaid P dep T && (match tyOf P dep T with | some u => decide (u = t) | none => false) && P.readableRec T && Nat.blt T P.types.size && parsB P Ts ts
  | _, _ => false
theorem args_rep {H : Type} {enc : TypeId × Value → H} {P : Program} {w : World} {base : Nat} : ∀ (Ts : List TypeId) (ts : List Ty) (vs : List Value) (ds : List (DataW H)) (ps : List MemPlace), parsB P Ts ts = true →
    (∀ (j : Nat) T v, Ts[j]? = some T → vs[j]? = some v → Value.okWide P w .any base T v) → DataW.TrodAll enc P w 0 (fun _ => true) true Ts vs ds ps →
    ∃ x : Dens ts, wfAll ts x ∧ repVL ⟨fun _ => False, fun _ => none, fun _ => none, fun b => b < w.heap.size, w⟩ (rootsOf ts x) vs
  | [], [], vs, ds, ps, _, _, hA => by
    obtain ⟨rfl, rfl, rfl⟩ := ChangeShapes.trodAll_nil hA
    exact ⟨(), trivial, rfl⟩
  | T :: Ts, t :: ts, vs, ds, ps, hp, hok, hA => by
    obtain ⟨v, vs1, d, ds1, a, b, rfl, rfl, rfl, h1, h2⟩ := ChangeShapes.trodAll_cons hA
    simp only [parsB, Bool.and_eq_true] at hp
    obtain ⟨⟨⟨⟨p1, p2⟩, p3⟩, p4⟩, p5⟩ := hp
    cases ht : tyOf P dep T with
    | none => rw [ht] at p2; cases p2
    | some u =>
      rw [ht] at p2
      have : u = t := of_decide_eq_true p2
      subst this
      obtain ⟨x, wx, rx⟩ := arg_rep p1 ht (hok 0 T v rfl rfl) h1
      obtain ⟨y, wy, ry⟩ := args_rep Ts ts vs1 ds1 b p5 (fun j T v h k => hok (j + 1) T v h k) h2
      exact ⟨(x, y), ⟨wx, wy⟩, _, _, rfl, rx, ry⟩
  | [], _ :: _, _, _, _, hp, _, _ => by cases hp
  | _ :: _, [], _, _, _, hp, _, _ => by cases hp
theorem args_stay {H : Type} {enc : TypeId × Value → H} {P : Program} (hl : laidOutB P = true) {w w' : World} (hb : RowKit.Below w.heap.size w w') : ∀ (Ts : List TypeId) (ts : List Ty) (vs : List Value) (ds : List (DataW H)) (ps : List MemPlace), parsB P Ts ts = true →
    DataW.TrodAll enc P w 0 (fun _ => true) true Ts vs ds ps → (∀ p ∈ ps, p.block < w.heap.size) → DataW.TrodAll enc P w' 0 (fun b => decide (b < w.heap.size)) true Ts vs ds ps
  | [], _, vs, ds, ps, _, hA, _ => by
    obtain ⟨rfl, rfl, rfl⟩ := ChangeShapes.trodAll_nil hA
    exact rfl
  | T :: Ts, t :: ts, vs, ds, ps, hp, hA, hlt => by
    obtain ⟨v, vs1, d, ds1, a, b, rfl, rfl, rfl, h1, h2⟩ := ChangeShapes.trodAll_cons hA
    simp only [parsB, Bool.and_eq_true] at hp
    obtain ⟨⟨⟨⟨p1, p2⟩, p3⟩, p4⟩, p5⟩ := hp
    exact ⟨a, b, RowKit.Below.trod hl p3 (Nat.blt_eq ▸ p4) h1 hb fun x hx => hlt x (List.mem_append_left _ hx), args_stay hl hb Ts ts vs1 ds1 b p5 h2 fun x hx => hlt x (List.mem_append_right _ hx), rfl⟩
  | _ :: _, [], _, _, _, hp, _, _ => by cases hp
theorem law_postZ {H : Type} {enc : TypeId × Value → H} {P : Program} {f : FuncId} {fn : Func} {s : ChangeSpec} {apart fresh : Bool} {ts : List Ty} (hl : laidOutB P = true) (hp : parsB P fn.params.toList ts = true) {TB : TypeId} (hres : fn.resultTypes = #[TB]) (hTB : P.underlying TB = some .bool)
    (Z : Dens ts → Prop) (hvars : s.vars = []) (hs : ∀ (ds : List (DataW H)), ds.length = ts.length → s.fn H ds = { results := [.lit (.bool true)], args := ds })
    (h : ∀ x : Dens ts, wfAll ts x → Z x → ∃ r, CallOK P f ⟨rootsOf ts x, []⟩ r ∧ r.roots.headD .dead = .v (.bool true))
    (W : World) (base : Nat) (args : Array Value) (ds gs : List (DataW H)) (before : List MemPlace) (hval : ∀ (j : Nat) t v, fn.params[j]? = some t → args[j]? = some v → Value.okWide P W .any base t v)
    (hW : DataW.Whole enc P fn.params.toList s.vars apart W args.toList ds gs before)
    (hZ : ∀ x : Dens ts, repVL ⟨fun _ => False, fun _ => none, fun _ => none, fun b => b < W.heap.size, W⟩ (rootsOf ts x) args.toList → Z x) : Calls P f args W fun e W' => ∃ v, e = .returned v ∧ s.post enc P fn apart fresh false false W args v W' := by
  have hW' := hW
  obtain ⟨p, q, hA, hV, rfl, hfz, hnd⟩ := hW
  rw [hvars] at hV
  have hgs : gs = [] ∧ q = [] := by
    cases gs with
    | nil => exact ⟨rfl, hV⟩
    | cons _ _ => exact hV.elim
  obtain ⟨rfl, rfl⟩ := hgs
  obtain ⟨x, wx, rx⟩ := args_rep _ ts _ _ _ hp (fun j T v h k => hval j T v (by simpa using h) (by simpa using k)) hA
  obtain ⟨r, hr1, hr2⟩ := h x wx (hZ x rx)
  have hcall := hr1.law hr2 (w := W) (R := fun b => b < W.heap.size) (fun b hb => hb) rx
  rw [show args.toList.toArray = args by simp] at hcall
  refine hcall.mono fun e W' ⟨he, hb⟩ => ?_
  subst he
  have hlt : ∀ x ∈ p, x.block < W.heap.size := fun x hx => hW'.lt x (List.mem_append_left _ hx)
  have hdl : ∀ (Ts : List TypeId) (ts : List Ty) (vs : List Value) (ds : List (DataW H)) (ps : List MemPlace), parsB P Ts ts = true → DataW.TrodAll enc P W 0 (fun _ => true) true Ts vs ds ps → ds.length = ts.length := by
    intro Ts
    induction Ts with
    | nil =>
      intro ts vs ds ps h k
      obtain ⟨rfl, rfl, rfl⟩ := ChangeShapes.trodAll_nil k
      cases ts with
      | nil => rfl
      | cons _ _ => cases h
    | cons T Ts ih =>
      intro ts vs ds ps h k
      cases ts with
      | nil => cases h
      | cons t ts =>
        obtain ⟨v, vs1, d, ds1, a, b, rfl, rfl, rfl, h1, h2⟩ := ChangeShapes.trodAll_cons k
        simp only [parsB, Bool.and_eq_true] at h
        simp [ih ts _ _ _ h.2 h2]
  have hsp : s.fn H (ds ++ []) = { results := [.lit (.bool true)], args := ds } := by
    rw [List.append_nil]; exact hs ds (hdl _ _ _ _ _ hp hA)
  refine ⟨_, rfl, ds, [], p ++ [], [], p, [], hW', ?_, ?_, ?_, below_kept hb _, fun h => by cases h⟩
  · rw [hsp, hres]
    exact ChangeShapes.trodAll_mk1 (RowKit.shut_bool hTB true)
  · rw [hsp]
    exact args_stay hl hb _ ts _ _ _ hp hA hlt
  · rw [hsp, hvars]
    exact rfl
end
end Go.Am
namespace Go.Am
noncomputable section
def szD : (t : Ty) → t.den → Prop
  | .str, s => s.size ≤ reachBytes
  | .sl t, xs => ∀ x ∈ xs, szD t x
  | .cons a r, x => szD a x.1 ∧ szD r x.2
  | _, _ => True
theorem weightsAll_mem {H : Type} {P : Program} {e : TypeId} : ∀ (l : List (DataW H)) (d : DataW H), d ∈ l → (DataW.weightsAll P e l).all (· ≤ reachBytes) = true → (d.weights P e).all (· ≤ reachBytes) = true
  | x :: l, d, hd, h => by
    rw [DataW.weightsAll, List.all_append, Bool.and_eq_true] at h
    rcases List.mem_cons.1 hd with rfl | hd
    · exact h.1
    · exact weightsAll_mem l d hd h.2
theorem fields_sz {H : Type} {P : Program} {w : World} {R : Nat → Prop} {laid : TypeId → Bool} {ty : TypeId → Option Ty} {rd : TypeId → List Value → DataW H → Prop}
    (hlen0 : ∀ T t, ty T = some t → laid T = true → True)
    (ih : ∀ T cs d t x, laid T = true → rd T cs d → ty T = some t → repD R w t x cs → (d.weights P T).all (· ≤ reachBytes) = true → szD t x) :
    ∀ (fs : List Field) (ys : List (DataW H)) (off tot : Nat) (cs : List Value) (t : Ty) (x : t.den), cs.length = tot → fsLaid P laid ty fs off tot = true → tyCons (fs.map fun f => ty f.type) = some t →
      (∀ (i : Nat) f, fs[i]? = some f → ∃ d, ys[i]? = some d ∧ rd f.type ((cs.drop f.offset).take (P.cellsOf f.type)) d) → (DataW.weightsEach P (fs.map (·.type)) ys).all (· ≤ reachBytes) = true → repD R w t x (cs.drop off) → szD t x
  | [], ys, off, tot, cs, t, x, hlen, hl, ht, _, _, _ => by
    cases ht
    trivial
  | f :: fs, ys, off, tot, cs, t, x, hlen, hl, ht, hr, hw, hx => by
    simp only [fsLaid, Bool.and_eq_true] at hl
    obtain ⟨⟨⟨h1, h2⟩, h3⟩, h4⟩ := hl
    have h1 : f.offset = off := Nat.eq_of_beq_eq_true h1
    simp only [List.map_cons] at ht
    obtain ⟨d, hd, hrd⟩ := hr 0 f rfl
    cases ys with
    | nil => cases hd
    | cons d' ys =>
    cases (show some d' = some d from hd)
    simp only [List.map_cons, DataW.weightsEach, List.all_append, Bool.and_eq_true] at hw
    cases hty : ty f.type with
    | none => rw [hty] at ht; cases ht
    | some a =>
      rw [hty] at ht h3
      have h3 : P.cellsOf f.type = a.cells := Nat.eq_of_beq_eq_true h3
      simp only [tyCons] at ht
      cases hc : tyCons (fs.map fun f => ty f.type) with
      | none => rw [hc] at ht; cases ht
      | some b =>
        rw [hc] at ht
        cases ht
        obtain ⟨p, q, e, r1, r2⟩ := hx
        have hp : p.length = a.cells := repD_len a x.1 p r1
        have ep : (cs.drop f.offset).take (P.cellsOf f.type) = p := by rw [h1, e, h3, ← hp, List.take_left]
        have eq : cs.drop (off + P.cellsOf f.type) = q := by rw [← List.drop_drop, e, h3, ← hp, List.drop_left]
        rw [ep] at hrd
        refine ⟨ih _ _ _ _ _ h2 hrd hty r1 hw.1, fields_sz hlen0 ih fs ys _ tot cs b x.2 hlen h4 hc (fun i g hg => hr (i + 1) g hg) hw.2 ?_⟩
        rw [eq]
        exact r2
theorem trod_sz {H : Type} {enc : TypeId × Value → H} {P : Program} {w : World} {R : Nat → Prop} {sp : Nat → Bool} {held : Bool} : ∀ (m n : Nat) (T : TypeId) (cs : List Value) (y : DataW H × List MemPlace) (t : Ty) (x : t.den), tyLaid P m T = true → DataW.trod enc P w 0 sp held n T cs = some y → tyOf P m T = some t →
    repD R w t x cs → (y.1.weights P T).all (· ≤ reachBytes) = true → szD t x := by
  intro m
  induction m with
  | zero => intro n T cs y t x h; cases h
  | succ m ih =>
    intro n T cs y t x hl h ht hx hw
    simp only [tyOf] at ht
    simp only [tyLaid] at hl
    cases hu : P.underlying T with
    | none => rw [hu] at ht; cases ht
    | some d =>
      rw [hu] at ht hl
      cases d with
      | bool => cases ht; trivial
      | int k => cases ht; trivial
      | string =>
        cases ht
        obtain ⟨b, rfl, rfl, _⟩ := DataW.trod_string hu h
        cases (show [Value.string b] = [Value.string x] from hx)
        simp only [DataW.weights, List.all_cons, List.all_nil, Bool.and_true, decide_eq_true_eq] at hw
        have : x.data.toList.length = x.size := by simp
        show x.size ≤ reachBytes
        omega
      | slice e =>
        simp only at ht hl
        cases hte : tyOf P m e with
        | none => rw [hte] at ht; cases ht
        | some te =>
          rw [hte] at ht hl
          cases ht
          simp only [Bool.and_eq_true] at hl
          obtain ⟨hl1, hl2, hl3⟩ := hl
          have hsz : P.cellsOf e = te.cells := Nat.eq_of_beq_eq_true hl2
          obtain ⟨xa, xc, ex, _, hxs⟩ := hx
          rcases DataW.trod_slice hu h with ⟨rfl, _⟩ | ⟨a, len, cap, elems, rest, n', _, rfl, rfl, _, hcap, hmax, hel, helem, _, _⟩
          · simp only [List.cons.injEq, Value.slice.injEq, and_true] at ex
            have : x = [] := List.eq_nil_of_length_eq_zero ex.2.1.symm
            subst this
            intro z hz
            cases hz
          · simp only [List.cons.injEq, Value.slice.injEq, and_true] at ex
            obtain ⟨rfl, rfl, rfl⟩ := ex
            rcases hxs with rfl | ⟨b, off, cs', ha, _, _, hrep, hrange⟩
            · intro z hz; cases hz
            · cases ha
              intro z hz
              obtain ⟨i, hi, rfl⟩ := List.getElem_of_mem hz
              obtain ⟨p, mm, q, e1, e2, e3, _⟩ := repL_at (fun x vs hx => repD_len te x vs hx) hrep (List.getElem?_eq_getElem hi)
              have hei := helem i hi
              rw [List.getElem?_eq_getElem (by omega)] at hei
              obtain ⟨ci, k1, k2⟩ := Option.bind_eq_some_iff.1 hei
              obtain ⟨g1, g2⟩ := cells_run k1
              have hml : mm.length = te.cells := repD_len te _ mm e3
              have hci : ci = mm := by
                apply List.ext_getElem? 
                intro j
                by_cases hj : j < te.cells
                · have hj1 : j < ci.length := by omega
                  have hj2 : j < mm.length := by omega
                  have c1 := g2 j ci[j] (List.getElem?_eq_getElem hj1)
                  have c2 := hrange (i * te.cells + j) mm[j] (by
                    rw [e1, List.append_assoc, List.getElem?_append_right (by omega), e2, Nat.add_sub_cancel_left, List.getElem?_append_left hj2, List.getElem?_eq_getElem hj2])
                  have ea : ((⟨b, off, none⟩ : Addr).add (i * P.cellsOf e)).add j = ⟨b, off + (i * te.cells + j), none⟩ := by
                    rw [hsz, add_add]
                    unfold Addr.add
                    split
                    · rename_i h0; rw [h0]; rfl
                    · simp
                  rw [ea, c2] at c1
                  rw [List.getElem?_eq_getElem hj1, List.getElem?_eq_getElem hj2]
                  exact c1.symm
                · rw [List.getElem?_eq_none (by omega), List.getElem?_eq_none (by omega)]
              subst hci
              refine ih _ _ _ _ _ _ hl1 k2 hte e3 ?_
              simp only [DataW.weights, hu, List.all_cons, List.all_append, Bool.and_eq_true] at hw
              exact weightsAll_mem _ _ (List.mem_map.2 ⟨_, List.getElem_mem (by omega), rfl⟩) hw.2.1
      | struct fs =>
        simp only at ht hl
        obtain ⟨xs, n', _, rfl, hlen, hxl, hf⟩ := DataW.trod_struct hu h
        simp only [DataW.weights, hu] at hw
        refine fields_sz (P := P) (w := w) (R := R) (laid := tyLaid P m) (ty := tyOf P m) (rd := fun T cs d => ∃ n p, DataW.trod enc P w 0 sp held n T cs = some (d, p)) (fun _ _ _ _ => trivial)
          (fun T cs d t x k1 ⟨n, p, k2⟩ k3 k4 k5 => ih n T cs (d, p) t x k1 k2 k3 k4 k5) fs.toList (xs.map (·.1)) 0 (P.cellsOf T) cs t x hlen hl ht (fun i f hf' => ?_) hw (by simpa using hx)
        have hfi : fs[i]? = some f := by simpa using hf'
        have := hf i f hfi
        have hi' : i < xs.length := by
          rw [hxl]
          exact (Array.getElem?_eq_some_iff.1 hfi).1
        rw [List.getElem?_eq_getElem hi'] at this
        exact ⟨xs[i].1, by rw [List.getElem?_map, List.getElem?_eq_getElem hi']; rfl, n', xs[i].2, this⟩
      | _ => cases ht
end
end Go.Am
namespace Go.Am
def U (X : BitVec 64) : Int := (X.toNat : Int)
end Go.Am
namespace Go.Am
theorem wrap_i64_def (z : Int) : IntKind.wrap .i64 z = if 9223372036854775808 ≤ z % 18446744073709551616 then z % 18446744073709551616 - 18446744073709551616 else z % 18446744073709551616 := by
  simp [IntKind.wrap, IntKind.bits, IntKind.signed]
theorem wrap_i64 {z : Int} (h1 : -9223372036854775808 ≤ z) (h2 : z < 9223372036854775808) : IntKind.wrap .i64 z = z := by
  rw [wrap_i64_def]
  split <;> omega
end Go.Am
namespace Go.Am
def val : List Bool → Nat
  | [] => 0
  | b :: l => b.toNat + 2 * val l
def bitsN (n L : Nat) : List Bool := (List.range n).map fun i => L.testBit i
@[simp] theorem bitsN_length (n L : Nat) : (bitsN n L).length = n := by simp [bitsN]
def bytesF : Nat → List Bool → List Int
  | 0, _ => []
  | k + 1, m => (val (m.take 8) : Int) :: bytesF k (m.drop 8)
def bF (m : List Bool) : List Int := bytesF (m.length / 8) m
def restF (m : List Bool) : List Bool := m.drop (8 * (m.length / 8))
def nF (m : List Bool) : Int := ((m.length % 8 : Nat) : Int)
theorem bytesF_append : ∀ (k : Nat) (m r : List Bool), 8 * k ≤ m.length → bytesF k (m ++ r) = bytesF k m
  | 0, _, _, _ => rfl
  | k + 1, m, r, h => by
    rw [bytesF, bytesF, List.take_append_of_le_length (by omega), List.drop_append_of_le_length (by omega), bytesF_append k _ r (by rw [List.length_drop]; omega)]
theorem bytesF_add : ∀ (k j : Nat) (a q : List Bool), a.length = 8 * k → bytesF (k + j) (a ++ q) = bytesF k a ++ bytesF j q
  | 0, j, a, q, h => by
    have : a = [] := List.length_eq_zero_iff.1 (by omega)
    subst this; simp [bytesF]
  | k + 1, j, a, q, h => by
    rw [show k + 1 + j = (k + j) + 1 by omega, bytesF, bytesF, List.take_append_of_le_length (by omega), List.drop_append_of_le_length (by omega), bytesF_add k j _ q (by rw [List.length_drop]; omega), List.cons_append]
theorem parts (m s : List Bool) : bF (m ++ s) = bF m ++ bF (restF m ++ s) ∧ restF (m ++ s) = restF (restF m ++ s) ∧ nF (m ++ s) = nF (restF m ++ s) := by
  have hm : m = m.take (8 * (m.length / 8)) ++ restF m := (List.take_append_drop ..).symm
  have hl : (m.take (8 * (m.length / 8))).length = 8 * (m.length / 8) := by rw [List.length_take]; omega
  generalize hk : m.length / 8 = k at *
  generalize ha : m.take (8 * k) = a at *
  have hbm : bF m = bytesF k a := by
    unfold bF
    rw [hk]
    conv => lhs; rw [hm]
    exact bytesF_append k a _ (by omega)
  have e : m ++ s = a ++ (restF m ++ s) := by rw [← List.append_assoc, ← hm]
  generalize restF m ++ s = q at *
  have hlen : (a ++ q).length = 8 * k + q.length := by rw [List.length_append, hl]
  rw [e]
  refine ⟨?_, ?_, ?_⟩
  · rw [hbm]
    show bytesF ((a ++ q).length / 8) (a ++ q) = _
    rw [hlen, show (8 * k + q.length) / 8 = k + q.length / 8 by omega, bytesF_add k _ a q hl]
    rfl
  · show (a ++ q).drop (8 * ((a ++ q).length / 8)) = q.drop (8 * (q.length / 8))
    rw [hlen, show 8 * ((8 * k + q.length) / 8) = a.length + 8 * (q.length / 8) by omega, List.drop_append]
    simp
  · unfold nF
    rw [hlen]
    congr 1
    omega
theorem wrap_u8 (z : Int) : IntKind.wrap .u8 z = z % 256 := by
  simp [IntKind.wrap, IntKind.bits, IntKind.signed]
theorem ifT {α : Type} {p : Prop} [Decidable p] {a b : α} (h : p) : (if decide p = true then a else b) = a := if_pos (decide_eq_true h)
theorem ifF {α : Type} {p : Prop} [Decidable p] {a b : α} (h : ¬ p) : (if decide p = true then a else b) = b := if_neg (by rw [decide_eq_true_eq]; exact h)
end Go.Am
