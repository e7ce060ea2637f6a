/- The abstract machine's operations and calls are sound against the model (no condition). -/
import Derived.Test.YtgddhgpljnljaaaGreatAmA
import Derived.Lib.AppendZeros
import Derived.MapKept
import Derived.Lib.Builder
import Derived.Laws.Externs
import Derived.Lib.UnsafeStr
set_option linter.unusedSimpArgs false
set_option linter.unusedVariables false
set_option linter.unusedSectionVars false
namespace Go.Am
noncomputable section
variable [PI : Inhabited Program]
section
variable {P : Program} {K : Ctx} {us us' : List Nat} {ob ob1 : List (Nat × Ob)} {mu : Nat → Option Nat} {R : Nat → Prop} {w : World}
theorem adds_keep : ∀ (u : List (Nat × Ob)) (l : List (Nat × Ob)) (us : List Nat) (l' : List (Nat × Ob)) (us' : List Nat) (id : Nat), adds l us u = some (l', us') → id ∈ us → fnd l' id = fnd l id ∧ id ∈ us' ∧ ∀ q ∈ u, q.1 ≠ id
  | [], l, us, l', us', id, h, hid => by cases h; exact ⟨rfl, hid, fun q hq => by cases hq⟩
  | (i, o) :: u, l, us, l', us', id, h, hid => by
    simp only [adds] at h
    cases hh : has us i with
    | true => rw [hh] at h; cases h
    | false =>
      rw [hh] at h
      have hne : i ≠ id := fun e => by subst e; rw [(has_iff us i).2 hid] at hh; cases hh
      obtain ⟨e1, e2, e3⟩ := adds_keep u _ _ l' us' id h (List.mem_cons_of_mem _ hid)
      refine ⟨e1.trans ?_, e2, fun q hq => ?_⟩
      · rw [fnd_cons, if_neg (Ne.symm hne)]
      · rcases List.mem_cons.1 hq with rfl | hq
        · exact hne
        · exact e3 q hq
theorem storeEv_sound (hM : Mem K.O K.R0 K.w0 (cx us ob mu R w)) (T : TypeId) (a x : TV) (va vx : Value) (b : Nat) (e : Eff) (h : ((storeEv P T a x b).run ob).to e) (hadd : adds ob us e.new = some (ob1, us'))
    (ha : repV (cx us ob mu R w) a va) (hx : repV (cx us ob mu R w) x vx) :
    ∃ w', (Instr.storeAt T va vx).run P w = .ok () w' ∧ Does K us ob mu R w e us' ob1 undef w' := by
  unfold storeEv at h
  split at h
  · rename_i id p
    obtain ⟨ad, ev, hu, hp⟩ := ha
    simp only [List.cons.injEq, and_true] at ev
    subst ev
    split at h
    · rename_i y u hn
      split at h
      · rename_i hf
        have hsol := (fits_spec hf).1
        rw [GTr.run_get] at h
        split at h
        · -- a variable
          rename_i z ho
          obtain ⟨z', h1, h2⟩ := Tr.to_bind (show (Tr.bind (z.setP p y) _).to e from h)
          cases Tr.to_ret h2
          obtain ⟨bl, hbl, ea⟩ := hp (by simp [ho])
          subst ea
          obtain ⟨mu1, hE1, hM1, hy⟩ := normF_step hM hn hadd hx
          obtain ⟨k1, k2, _⟩ := adds_keep u ob us ob1 us' id hadd hu
          have ho1 := k1.trans ho
          have hm1 : mu1 id = some bl := by
            obtain ⟨_, _, h3, _⟩ := hE1.fd id (.var _ z) hu ho1
            exact h3.trans hbl
          obtain ⟨ys, hr, hc⟩ := repV_cells hsol hy
          obtain ⟨bl', vs, hb', hz, hw, ht, cc, cfr, hty, hsz⟩ := hM1.obs id _ ho1
          have hb' : mu1 id = some bl' := hb'
          rw [hm1] at hb'; cases hb'
          obtain ⟨p1, m1, q1, e1, e2, e3, e4⟩ := setP_rep p z y z' vs ys h1 hz hr
          subst e1
          have hth : w.there bl (offP p) ys.length := fun i hi => by
            have := ht (p1.length + i) (by simp; omega)
            rw [Nat.zero_add, e2] at this; exact this
          refine ⟨_, run_store_fits hf hr hc hth, ?_⟩
          obtain ⟨hE2, hM2⟩ := store_step hM1 ho1 (o' := .var _ z') rfl hm1 (off := offP p) (ys := ys) fun hE2 => by
            refine ⟨bl, p1 ++ ys ++ q1, hm1, repC_mono hE2 z' _ e4, ?_, ?_, setCells_typed hty (by rw [hsz]; simp; omega) (offP p) ys⟩
            · have := rangeAt_setCells hw ht e3
              rw [Nat.zero_add, e2] at this
              exact this
            · have : (p1 ++ ys ++ q1).length = (p1 ++ m1 ++ q1).length := by simp; omega
              rw [this]
              exact World.there_setCells ht bl (offP p) ys
          exact ⟨mu1, R, hE1.trans hE2, hM2, rfl⟩
        · -- an element of a row
          rename_i t et xs ho
          split at h
          · rename_i j sz p
            cases hb : Nat.beq t.cells sz with
            | false => rw [hb] at h; exact (Tr.to_fail h).elim
            | true =>
              rw [hb] at h
              have hsz := Nat.eq_of_beq_eq_true hb
              obtain ⟨y', u', hfr, hFz, hpr⟩ := freeze_ok ob 8 y _ e h
              obtain ⟨z, hz, h⟩ := Tr.to_ask hfr
              obtain ⟨z', h1, h2⟩ := Tr.to_bind h
              obtain ⟨q, h3, h4⟩ := Tr.to_bind h2
              have h3 := Tr.to_opt h3
              cases hhas : has (ids u') id with
              | true => rw [hhas] at h4; exact (Tr.to_fail h4).elim
              | false =>
                rw [hhas] at h4
                cases Tr.to_ret h4
                have hnin : ¬ id ∈ ids u' := fun hm => by rw [(has_iff _ id).2 hm] at hhas; cases hhas
                obtain ⟨bl, hbl, ea⟩ := hp (by simp [ho])
                subst ea
                obtain ⟨mu1, hE1, hM1, hy⟩ := normF_step hM hn hadd hx
                obtain ⟨ys, hr, hc⟩ := repV_cells hsol hy
                obtain ⟨R2, hE2, hM2, hr2⟩ := hFz K us' ob1 mu1 R w ys (fun q hq => (adds_keep u ob us ob1 us' q hadd (hM.us q (hpr q hq))).1) hM1 hr
                have ho2 : fnd (upds ob1 u') id = some (.row t et xs) := (fnd_upds_out u' ob1 id hnin).trans ((adds_keep u ob us ob1 us' id hadd hu).1.trans ho)
                have hm1 : mu1 id = some bl := by
                  obtain ⟨_, _, h3, _⟩ := (hE1.trans hE2).fd id _ hu ho2
                  exact h3.trans hbl
                rcases hM2.obs id _ ho2 with ⟨h5, _⟩ | ⟨bl', vs, h5, hrow, hw, ht, hlt, tc, tfr, hty⟩
                · have h5 : mu1 id = none := h5
                  rw [hm1] at h5; cases h5
                · have h5 : mu1 id = some bl' := h5
                  rw [hm1] at h5; cases h5
                  obtain ⟨a1, m1, b1, e1, e2, e3, e4⟩ := repL_at (fun x vs hx => repD_len t x vs hx) hrow hz
                  subst e1
                  obtain ⟨a2, m2, b2, f1, f2, f3, f4⟩ := setP_rep p _ y' z' m1 ys h1 (tvOf_rep (C := cx us' (upds ob1 u') mu1 R2 w) t z m1 e3) hr2
                  subst f1
                  have hoff : offP (.i j sz :: p) = (a1 ++ a2).length := by
                    show j * sz + offP p = _
                    rw [List.length_append, e2, f2, hsz]
                  have hw' : w.rangeAt bl 0 ((a1 ++ a2) ++ m2 ++ (b2 ++ b1)) := by
                    rw [show (a1 ++ a2) ++ m2 ++ (b2 ++ b1) = a1 ++ (a2 ++ m2 ++ b2) ++ b1 by simp]; exact hw
                  have ht' : w.there bl 0 ((a1 ++ a2) ++ m2 ++ (b2 ++ b1)).length := by
                    rw [show (a1 ++ a2) ++ m2 ++ (b2 ++ b1) = a1 ++ (a2 ++ m2 ++ b2) ++ b1 by simp]; exact ht
                  have hth : w.there bl (offP (.i j sz :: p)) ys.length := fun i hi => by
                    have := ht' ((a1 ++ a2).length + i) (by simp; omega)
                    rw [Nat.zero_add, ← hoff] at this; exact this
                  refine ⟨_, run_store_fits hf hr hc hth, ?_⟩
                  obtain ⟨hE3, hM3⟩ := store_step hM2 ho2 (o' := .row t et (xs.set j q)) ⟨rfl, rfl, by simp⟩ hm1 (off := offP (.i j sz :: p)) (ys := ys) fun hE3 => by
                    have hq := unTv_rep t z' q _ h3 f4
                    have hrep := e4 q _ hq
                    refine .inr ⟨bl, a1 ++ (a2 ++ ys ++ b2) ++ b1, hm1, ?_, ?_, ?_, by simpa [setCells_size] using hlt, setCells_kind hty _ _⟩
                    · exact repL_mono (fun x vs hx => repD_mono hE3.R hE3.size hE3.blk t x vs hx) _ _ hrep
                    · have := rangeAt_setCells hw' ht' f3
                      rw [Nat.zero_add, ← hoff] at this
                      rw [show a1 ++ (a2 ++ ys ++ b2) ++ b1 = (a1 ++ a2) ++ ys ++ (b2 ++ b1) by simp]
                      exact this
                    · have : (a1 ++ (a2 ++ ys ++ b2) ++ b1).length = (a1 ++ (a2 ++ m2 ++ b2) ++ b1).length := by simp; omega
                      rw [this]
                      exact World.there_setCells ht bl _ ys
                  refine ⟨mu1, R2, ?_⟩
                  simp only [upds_append]
                  exact ⟨hE1.trans (hE2.trans hE3), hM3, rfl⟩
          · exact (Tr.to_fail h).elim
        · exact (Tr.to_fail h).elim
      · exact (Tr.to_fail h).elim
    · exact (Tr.to_fail h).elim
  · exact (Tr.to_fail h).elim
end
end
end Go.Am
namespace Go.Am
noncomputable section
variable [PI : Inhabited Program]
section
variable {P : Program}
theorem zeroD_spec {e : TypeId} {t : Ty} {x : t.den} (h : zeroD P e t = some x) : ∃ i z, P.info? e = some i ∧ i.zero = some z ∧ sizeT P e = some t.cells ∧ i.size = t.cells ∧ 0 < t.cells ∧ z.cells.size = t.cells ∧
    ∀ (R : Nat → Prop) (w : World), repD R w t x z.cells.toList := by
  unfold zeroD at h
  split at h
  · rename_i z sz hz hs
    cases hb : Nat.beq sz t.cells && Nat.blt 0 sz with
    | false => rw [hb] at h; cases h
    | true =>
      rw [hb] at h
      simp only [Bool.and_eq_true] at hb
      have h1 := Nat.eq_of_beq_eq_true hb.1
      have h2 : 0 < sz := Nat.le_of_ble_eq_true hb.2
      simp only [cond_true] at h
      split at h
      · rename_i y hy
        cases h
        cases hi : P.info? e with
        | none => simp [hi] at hz
        | some i =>
          have hz' : i.zero = some z := by simpa [hi] using hz
          have hs' : i.size = sz := by simpa [sizeT, hi] using hs
          subst h1
          obtain ⟨a, e1, hr, _⟩ := unC_rep (fun _ => False) (default : World) t _ _ _ hy
          rw [List.append_nil] at e1
          refine ⟨i, z, rfl, hz', hs, hs', h2, ?_, fun R w => ?_⟩
          · have := repD_len t _ _ hr
            rw [← e1] at this
            simpa using this
          · obtain ⟨a', e1', hr', _⟩ := unC_rep R w t _ _ _ hy
            rw [List.append_nil] at e1'
            rw [e1']; exact hr'
      · cases h
  · cases h
def Elems (R : Nat → Prop) (w : World) (t : Ty) (xs : List t.den) (v : Value) : Prop :=
  ∃ a c news, v = .slice a xs.length c ∧ xs.length ≤ c ∧ repL (repD R w t) xs news ∧ (xs = [] ∨ ∃ b off, a = some ⟨b, off, none⟩ ∧ w.rangeAt b off news)
theorem Elems.of_ro {R : Nat → Prop} {w : World} {t : Ty} {xs : List t.den} {v : Value} (h : repD R w (.sl t) xs [v]) : Elems R w t xs v := by
  obtain ⟨a, c, e, hle, h⟩ := h
  simp only [List.cons.injEq, and_true] at e
  rcases h with rfl | ⟨b, off, cs, h1, h2, h3, h4, h5⟩
  · exact ⟨a, c, [], e, hle, rfl, .inl rfl⟩
  · exact ⟨a, c, cs, e, hle, h4, .inr ⟨b, off, h1, h5⟩⟩
theorem Elems.of_row {C : Cx} {id : Nat} {t : Ty} {e : TypeId} {xs : List t.den} {p : Option (Nat × Nat)} {a : Option Addr} {n c : Nat} (ho : repO C id (.row t e xs)) (hs : slRep (t.isU8 = false) C.w (C.mu id) xs.length t.cells p (.slice a n c)) :
    Elems C.R C.w t (partL xs p) (.slice a n c) := by
  have hlen : (partL xs p).length = n := by
    rw [slRep_len hs]
    match p, hs with
    | none, _ => rfl
    | some (o, m), ⟨h0, _⟩ => simp [partL, partLen]; omega
  match p, hs with
  | none, .inl ⟨h1, h2, a', h3, _⟩ =>
    cases h3
    have : xs = [] := List.eq_nil_of_length_eq_zero h2
    subst this
    exact ⟨_, 0, [], rfl, Nat.le_refl _, rfl, .inl rfl⟩
  | none, .inr ⟨b, c', h1, h2, h3, h4⟩ =>
    cases h2
    rcases ho with ⟨h5, _⟩ | ⟨b', vs, h5, h6, h7, h8, h9⟩
    · rw [h1] at h5; cases h5
    · rw [h1] at h5; cases h5
      exact ⟨_, c, vs, rfl, h3, h6, .inr ⟨b, 0, rfl, h7⟩⟩
  | some (o, m), ⟨h0, a', c', h1, h2, h3⟩ =>
    cases h1
    rcases h3 with h3 | ⟨b, h3, h4, h5⟩
    · have hx : partL xs (some (o, n)) = [] := List.eq_nil_of_length_eq_zero (by rw [hlen]; omega)
      exact ⟨a, c, [], by rw [hlen], by rw [hlen]; exact h2, by rw [hx]; rfl, .inl hx⟩
    · rcases ho with ⟨h6, _⟩ | ⟨b', vs, h6, h7, h8, h9, h10⟩
      · rw [h3] at h6; cases h6
      · rw [h3] at h6; cases h6
        obtain ⟨p, q, r, e1, e2, e3⟩ := repL_cut (fun x vs hx => repD_len t x vs hx) h7 o n (by omega)
        subst e1
        have := rangeAt_sub h8
        rw [e2, Nat.zero_add] at this
        exact ⟨a, c, q, by rw [hlen], by rw [hlen]; exact h2, e3, .inr ⟨b, o * t.cells, h4, this⟩⟩
theorem Elems.src {R : Nat → Prop} {w : World} {t : Ty} {xs : List t.den} {v : Value} (h : Elems R w t xs v) {T2 e2 : TypeId} (hT : P.underlying T2 = some (.slice e2)) : ∃ news, Src P t.cells T2 v xs.length news w ∧ repL (repD R w t) xs news := by
  obtain ⟨a, c, news, e, hle, hr, hw⟩ := h
  subst e
  have hlen : news.length = xs.length * t.cells := repL_len (fun x vs hx => repD_len t x vs hx) xs news hr
  have h1 := repL_one (fun x vs hx => repD_one t x vs hx) xs news hr
  rcases hw with rfl | ⟨b, off, rfl, hw⟩
  · have hn : news = [] := hr
    subst hn
    refine ⟨[], ?_, rfl⟩
    cases a with
    | none => exact Src.ofNil w hT c
    | some ad => exact Src.ofSlice w hT ad 0 c [] (by simp) (by simp) (by simp)
  · refine ⟨news, Src.ofSlice w hT _ _ c news hlen (fun j u hu => ?_) h1, hr⟩
    rw [Addr.add_mid]
    exact hw j u hu
theorem Mem.poke {O R0 : Nat → Prop} {w0 : World} {C : Cx} (hM : Mem O R0 w0 C) {g : Nat} (off : Nat) (ys : List Value) (h1 : ∀ i, (C.fd i).isSome = true → C.mu i ≠ some g) (h2 : ¬ C.R g) (h3 : O g ∨ w0.heap.size ≤ g) :
    Mem O R0 w0 { C with w := C.w.setCells g off ys } ∧ Ext C { C with w := C.w.setCells g off ys } := by
  have hth : ∀ b' o n, C.w.there b' o n → (C.w.setCells g off ys).there b' o n := fun b' o n h => World.there_setCells h g off ys
  have hE : Ext C { C with w := C.w.setCells g off ys } :=
    ⟨fun _ h => h, fun j ob _ h => ⟨ob, h, rfl, Ob.like.refl ob⟩, fun _ h => h, by simp [setCells_size], fun c hc => setCells_heap_other g ys off C.w c (fun e => h2 (e ▸ hc)), fun _ _ b' _ _ _ => setCells_keeps C.w g off ys b'⟩
  refine ⟨⟨hM.us, ?_, fun j ob h => ?_, hM.inj, hM.notR, hM.own, fun i c hi h => by simpa [setCells_size] using hM.lt i c hi h, hM.ro, hM.ro0, fun c hc => by simpa [setCells_size] using hM.rlt c hc⟩, hE⟩
  · obtain ⟨e1, e2, e3⟩ := setCells_rest g ys off C.w
    refine ⟨e1.trans hM.fr.os, e2.trans hM.fr.tape, e3.trans hM.fr.output, by simpa [setCells_size] using hM.fr.size, fun k hk hO => ?_⟩
    show (C.w.setCells g off ys).heap[k]? = _
    rw [setCells_heap_other g ys off C.w k]
    · exact hM.fr.block k hk hO
    · intro e; subst e
      rcases h3 with h | h
      · exact hO h
      · omega
  · exact repO_of hE rfl (fun c hc => setCells_heap_other g ys off C.w c (fun e => h1 j (Option.isSome_iff_exists.2 ⟨ob, h⟩) (e ▸ hc))) (hM.obs j ob h)
variable {K : Ctx} {us us' : List Nat} {ob ob1 : List (Nat × Ob)} {mu : Nat → Option Nat} {R : Nat → Prop} {w : World}
theorem zeroCells_size (z : Array Value) (n : Nat) : (Builtin.zeroCells z n).size = n * z.size := by simp [Builtin.zeroCells]
theorem grow_row (hM : Mem K.O K.R0 K.w0 (cx us ob mu R w)) {b : Nat} {t : Ty} {e : TypeId} {xs : List t.den} {vs : List Value} {rest : Array Value} {c : Nat} (hb : ¬ b ∈ us) (hr : repL (repD R w t) xs vs) (hc : xs.length ≤ c) (hsz : vs.length + rest.size = c * t.cells) :
    let w' := w.drew.alloc (.cells (vs.toArray ++ rest) e)
    let D := cx (b :: us) ((b, .row t e xs) :: ob) (fun j => if j = b then some w.heap.size else mu j) R w'
    Ext (cx us ob mu R w) D ∧ Mem K.O K.R0 K.w0 D ∧ repV D (.sl b none) (.slice (some ⟨w.heap.size, 0, none⟩) xs.length c) := by
  intro w' D
  have hg : Grow w w' := (Grow.drew w).trans (Grow.alloc _ _)
  have hrng := new_range w.drew (vs.toArray ++ rest) e
  have hth := new_there w.drew (vs.toArray ++ rest) e
  have hE0 := Ext.grow (C := cx us ob mu R w) hM.rlt hg
  refine new_row hM hb hg (Nat.le_refl _) (by show _ < (w.drew.alloc _).heap.size; rw [alloc_size]; exact Nat.lt_succ_self _) (repL_mono (fun x vs hx => repD_mono hE0.R hE0.size hE0.blk t x vs hx) _ _ hr) (vs := vs) ?_ hc ?_ ⟨_, _, alloc_heap_new _ _⟩
  · have h2 : w'.rangeAt w.heap.size 0 ([] ++ vs ++ rest.toList) := by
      have := hrng
      simpa using this
    have := rangeAt_sub h2
    simpa using this
  · have : (vs.toArray ++ rest).size = c * t.cells := by simp; omega
    rw [← this]; exact hth
theorem app_run {T1 T2 e : TypeId} {t : Ty} {x0 : t.den} (hT1 : P.underlying T1 = some (.slice e)) (hz : zeroD P e t = some x0) {info : TypeInfo} (hinfo : P.info? e = some info)
    (hM : Mem K.O K.R0 K.w0 (cx us ob mu R w)) {b : Nat} (hb : ¬ b ∈ us) {xs ys : List t.den} {news : List Value} {vy : Value} (hs : Src P t.cells T2 vy ys.length news w) (hry : repL (repD R w t) ys news)
    (hbytes : (xs.length + ys.length) * info.bytes ≤ maxRow ∧ xs.length + ys.length ≤ maxRow) {vx : Value}
    (hx : ((∃ a, vx = .slice a 0 0 ∧ (a = none ∨ t.isU8 = false)) ∧ xs = []) ∨ ∃ g c vs, vx = .slice (some ⟨g, 0, none⟩) xs.length c ∧ xs.length ≤ c ∧ w.there g 0 (c * t.cells) ∧ repL (repD R w t) xs vs ∧ w.rangeAt g 0 vs ∧
      g < w.heap.size ∧ ¬ R g ∧ (K.O g ∨ K.w0.heap.size ≤ g) ∧ (∀ i, (fnd ob i).isSome = true → mu i ≠ some g) ∧ ∃ c0 fr, w.heap[g]? = some (.cells c0 e fr)) (ty : TypeId) :
    ∃ v w' mu', (Builtin.append_ #[T1, T2] ty #[vx, vy]).run P w = .ok v w' ∧
      let D := cx (b :: us) ((b, .row t e (xs ++ ys)) :: ob) mu' R w'
      Ext (cx us ob mu R w) D ∧ Mem K.O K.R0 K.w0 D ∧ repV D (.sl b none) v := by
  obtain ⟨i, z, hi, hzz, hsz, hisz, hpos, hzs, _⟩ := zeroD_spec hz
  rw [hinfo] at hi
  cases hi
  have hmax : maxRow = 140737488355328 := rfl
  have grow : ∀ (base : Option Addr) (c : Nat) (vs : List Value), (Builtin.firstCells info.size xs.length (.slice base xs.length c)).run P w.drew = .ok vs.toArray w.drew → repL (repD R w t) xs vs → c < xs.length + ys.length → vx = .slice base xs.length c →
      ∃ v w' mu', (Builtin.append_ #[T1, T2] ty #[vx, vy]).run P w = .ok v w' ∧
      let D := cx (b :: us) ((b, .row t e (xs ++ ys)) :: ob) mu' R w'
      Ext (cx us ob mu R w) D ∧ Mem K.O K.R0 K.w0 D ∧ repV D (.sl b none) v := by
    intro base c vs hfc hr hg e0
    subst e0
    have hrun := run_append_grow_src (P := P) w T1 T2 ty e info z hT1 hinfo hzz base xs.length c vs hfc vy ys.length news (by rw [hisz]; exact hs) hg (by omega) (growslice_fits hg (by omega))
    have hge := grownCap_ge w (xs.length + ys.length) c e
    have hl1 : vs.length = xs.length * t.cells := repL_len (fun x vs hx => repD_len t x vs hx) xs vs hr
    have hl2 : news.length = ys.length * t.cells := repL_len (fun x vs hx => repD_len t x vs hx) ys news hry
    have := grow_row (e := e) hM hb (repL_append xs ys vs news hr hry) (c := grownCap w (xs.length + ys.length) c e) (rest := Builtin.zeroCells z.cells (grownCap w (xs.length + ys.length) c e - (xs.length + ys.length))) (by simpa using hge) (by
      rw [zeroCells_size, hzs, List.length_append, hl1, hl2, ← Nat.add_mul, ← Nat.add_mul]
      congr 1; omega)
    refine ⟨_, _, fun j => if j = b then some w.heap.size else mu j, hrun, ?_⟩
    have hl : (xs ++ ys).length = xs.length + ys.length := List.length_append
    rw [hl] at this
    exact this
  rcases hx with ⟨⟨a0, rfl, ha0⟩, rfl⟩ | ⟨g, c, vs, rfl, hle, hth, hr, hw, hlt, hnR, hown, hne, tc, tfr, hty⟩
  · by_cases h0 : ys.length = 0
    · have hys : ys = [] := List.eq_nil_of_length_eq_zero h0
      subst hys
      have hn : news = [] := hry
      subst hn
      refine ⟨.slice a0 0 0, w, fun j => if j = b then none else mu j, ?_, ?_, ?_, ?_⟩
      · have h1 := hs.len w
        have h2 := hs.cells
        rw [← hisz] at h2
        have h3 : (Builtin.firstCells info.size 0 vy).run P w = .ok #[] w := h2
        rcases hs.kind with ⟨e', hk⟩ | hk <;> cases a0 <;> simp [Builtin.append_, run_underlying hT1, run_underlying hk, sizeOf, typeInfo, hinfo, hs.len, h3, storeCells]
      · have := Ext.add (C := cx us ob mu R w) (id := b) (.row t e []) none hb
        rw [cx_add] at this
        exact this
      · have := hM.add (id := b) (ob := .row t e []) (m := none) hb (fun b hb => by cases hb) (.inl ⟨add_mu_self, rfl⟩)
        rw [cx_add] at this
        exact this
      · exact ⟨a0, 0, 0, rfl, List.mem_cons_self .., fun ob' ho' => by
          simp [fnd_cons] at ho'; subst ho'
          exact ⟨t, e, [], rfl, .inl ⟨by simp, rfl, a0, rfl, ha0⟩⟩⟩
    · exact grow a0 0 [] (by cases a0 <;> simp [Builtin.firstCells, loadCells, loadCellsFrom]) rfl (by simp; omega) rfl
  · by_cases hroom : xs.length + ys.length ≤ c
    · have hl1 : vs.length = xs.length * t.cells := repL_len (fun x vs hx => repD_len t x vs hx) xs vs hr
      have hl2 : news.length = ys.length * t.cells := repL_len (fun x vs hx => repD_len t x vs hx) ys news hry
      have hfit : vs.length + news.length ≤ c * t.cells := by rw [hl1, hl2, ← Nat.add_mul]; exact Nat.mul_le_mul_right _ hroom
      have hth2 : ∀ j, j < news.length → (w.cell? ⟨g, 0 + xs.length * info.size + j, none⟩).isSome = true ∧ w.frozen? ⟨g, 0 + xs.length * info.size + j, none⟩ = false := fun j hj => by
        have := hth (xs.length * t.cells + j) (by omega)
        rw [hisz, Nat.add_assoc]; exact this
      have hrun := run_append_room_src (P := P) w T1 T2 ty e info hT1 hinfo g 0 xs.length c vy ys.length news (by rw [hisz]; exact hs) hroom (fun j hj => (hth2 j hj).1) (fun j hj => (hth2 j hj).2)
      rw [hisz, Nat.zero_add, ← hl1] at hrun
      obtain ⟨hM1, hE1⟩ := Mem.poke (C := cx us ob mu R w) hM vs.length news hne hnR hown
      have hrange : (w.setCells g vs.length news).rangeAt g 0 (vs ++ news) := by
        intro j v hv
        by_cases hj : j < vs.length
        · rw [World.cell?_setCells_out g news vs.length w ⟨g, 0 + j, none⟩ (fun _ _ => .inl (by show 0 + j < _; omega))]
          rw [List.getElem?_append_left hj] at hv
          exact hw j v hv
        · have hj2 : j - vs.length < news.length := by
            have := (List.getElem?_eq_some_iff.1 hv).1
            simp at this; omega
          have := World.cell?_setCells_in g news vs.length w (fun i hi => by
            have := (hth2 i hi).1
            rw [hisz, Nat.zero_add, ← hl1] at this; exact this) (j - vs.length) hj2
          rw [show vs.length + (j - vs.length) = 0 + j by omega] at this
          rw [this]
          rw [List.getElem?_append_right (by omega), List.getElem?_eq_getElem hj2] at hv
          exact hv
      have hrep := repL_mono (fun x vs hx => repD_mono hE1.R hE1.size hE1.blk t x vs hx) _ _ (repL_append xs ys vs news hr hry)
      have hE2 := Ext.add (C := cx us ob mu R (w.setCells g vs.length news)) (id := b) (.row t e (xs ++ ys)) (some g) hb
      have hthere : (w.setCells g vs.length news).there g 0 (c * t.cells) := World.there_setCells hth g _ _
      have hM2 := Mem.add (C := cx us ob mu R (w.setCells g vs.length news)) hM1 (id := b) (ob := .row t e (xs ++ ys)) (m := some g) hb
        (fun b' e' => by cases e'; exact ⟨by simpa [setCells_size] using hlt, hnR, hne, hown⟩)
        (.inr ⟨g, vs ++ news, add_mu_self, hrep, hrange, there_le hthere (by rw [List.length_append]; exact hfit), by simpa [Cx.add, setCells_size] using hlt, setCells_kind hty vs.length news⟩)
      rw [cx_add] at hE2 hM2
      refine ⟨_, _, fun j => if j = b then some g else mu j, hrun, hE1.trans hE2, hM2, _, _, _, rfl, List.mem_cons_self .., fun ob' ho' => ?_⟩
      simp [fnd_cons] at ho'; subst ho'
      exact ⟨t, e, xs ++ ys, rfl, .inr ⟨g, c, by simp, by simp, by simpa using hroom, hthere⟩⟩
    · refine grow (some ⟨g, 0, none⟩) c vs ?_ hr (by omega) rfl
      have hl1 : vs.length = xs.length * t.cells := repL_len (fun x vs hx => repD_len t x vs hx) xs vs hr
      exact run_firstCells_some w.drew info.size xs.length _ _ _ vs (by rw [hl1, hisz]) (fun j v hv => by
        rw [Addr.add_mid]
        have := hw j v hv
        simpa using this)
end
end
end Go.Am
namespace Go.Am
noncomputable section
variable [PI : Inhabited Program]
section
variable {P : Program} {K : Ctx} {us us' : List Nat} {ob ob1 : List (Nat × Ob)} {mu : Nat → Option Nat} {R : Nat → Prop} {w : World}
theorem upds_cons_new : ∀ (u : List (Nat × Option Ob)) (l : List (Nat × Ob)) (b : Nat) (o : Ob), ¬ b ∈ ids u → fnd (upds ((b, o) :: l) u) = fnd ((b, o) :: upds l u)
  | [], _, _, _, _ => rfl
  | (i, x) :: u, l, b, o, h => by
    simp only [ids, List.map_cons, List.mem_cons, not_or] at h
    -- both are told place by place
    have key : ∀ (l1 l2 : List (Nat × Ob)), fnd l1 = fnd l2 → ∀ u, fnd (upds l1 u) = fnd (upds l2 u) := by
      intro l1 l2 hl u
      induction u generalizing l1 l2 with
      | nil => exact hl
      | cons q u ih =>
        obtain ⟨i, x⟩ := q
        refine ih _ _ (funext fun j => ?_)
        rw [fnd_upd1, fnd_upd1, hl]
    have h1 : fnd (upd1 ((b, o) :: l) i x) = fnd ((b, o) :: upd1 l i x) := by
      funext j
      rw [fnd_upd1, fnd_cons, fnd_cons, fnd_upd1]
      by_cases e : j = i
      · subst e; simp [h.1, Ne.symm h.1]
      · simp [e]
    show fnd (upds (upd1 ((b, o) :: l) i x) u) = _
    rw [key _ _ h1 u]
    exact upds_cons_new u _ b o h.2
theorem cx_fd {us : List Nat} {l1 l2 : List (Nat × Ob)} {mu : Nat → Option Nat} {R : Nat → Prop} {w : World} (h : fnd l1 = fnd l2) : cx us l1 mu R w = cx us l2 mu R w := by
  simp only [cx, h]
theorem Does.mk {e : Eff} {b : Nat} {o : Ob} {v : Value} {w' : World} {mu' : Nat → Option Nat} {R' : Nat → Prop} (hnew : e.new = [(b, o)]) (hadd : adds ob us e.new = some (ob1, us')) (hids : ∀ q ∈ ids e.upd, q ∈ us)
    (h : ¬ b ∈ us → Ext (cx us ob mu R w) (cx (b :: us) ((b, o) :: upds ob e.upd) mu' R' w') ∧ Mem K.O K.R0 K.w0 (cx (b :: us) ((b, o) :: upds ob e.upd) mu' R' w') ∧ repV (cx (b :: us) ((b, o) :: upds ob e.upd) mu' R' w') e.val v) :
    Does K us ob mu R w e us' ob1 v w' := by
  rw [hnew] at hadd
  obtain ⟨hb, rfl, rfl⟩ := adds_one hadd
  refine ⟨mu', R', ?_⟩
  rw [cx_fd (upds_cons_new e.upd ob b o (fun hm => hb (hids b hm)))]
  exact h hb
theorem bytesOf_rep {R : Nat → Prop} {w : World} (s : ByteArray) : repL (repD R w (.int .u8)) (bytesOf s) (byteCells s) ∧ (bytesOf s).length = s.size := by
  have h1 : s.toList = s.data.toList := by
    exact ByteArray.toList_eq s
  refine ⟨?_, ?_⟩
  · unfold bytesOf byteCells
    rw [h1]
    generalize s.data.toList = l
    induction l with
    | nil => rfl
    | cons b l ih => exact ⟨[_], _, rfl, rfl, ih⟩
  · unfold bytesOf
    rw [List.length_map, h1, Array.length_toList]; rfl
theorem appSrc_to (hM : Mem K.O K.R0 K.w0 (cx us ob mu R w)) {T2 : TypeId} {y : TV} {vy : Value} {t : Ty} {u : List (Nat × Option Ob)} {k : List t.den → GTr Eff} {e : Eff} (h : ((appSrc P T2 y t u k).run ob).to e) (hy : repV (cx us ob mu R w) y vy) :
    ∃ ys news, ((k ys).run ob).to e ∧ Src P t.cells T2 vy ys.length news w ∧ repL (repD R w t) ys news := by
  unfold appSrc at h
  split at h
  · rename_i et id2 p2 hT
    obtain ⟨a, n, c, ev, hu, hp⟩ := hy
    simp only [List.cons.injEq, and_true] at ev
    subst ev
    rw [GTr.run_get] at h
    split at h
    · rename_i t2 ee ys ho
      split at h
      · rename_i heq
        subst heq
        cases hb : has (ids u) id2 with
        | true => rw [hb] at h; exact (Tr.to_fail h).elim
        | false =>
          rw [hb] at h
          obtain ⟨t', e', xs', heq, hs⟩ := hp _ ho
          cases heq
          obtain ⟨news, h1, h2⟩ := (Elems.of_row (hM.obs id2 _ ho) hs).src hT
          exact ⟨_, news, h, h1, h2⟩
      · exact (Tr.to_fail h).elim
    · exact (Tr.to_fail h).elim
  · rename_i et t2 ys hT
    split at h
    · rename_i heq
      subst heq
      obtain ⟨news, h1, h2⟩ := (Elems.of_ro hy).src hT
      exact ⟨_, news, h, h1, h2⟩
    · exact (Tr.to_fail h).elim
  · rename_i et hT
    cases (show vy = _ from hy)
    exact ⟨[], [], h, Src.ofNil w hT 0, rfl⟩
  · rename_i s hT
    split at h
    · rename_i heq
      subst heq
      cases (show vy = _ from hy)
      obtain ⟨h1, h2⟩ := bytesOf_rep (R := R) (w := w) s
      refine ⟨bytesOf s, byteCells s, h, ?_, h1⟩
      rw [h2]
      exact Src.ofString w hT s
    · exact (Tr.to_fail h).elim
  · exact (Tr.to_fail h).elim
theorem appDst_to (hM : Mem K.O K.R0 K.w0 (cx us ob mu R w)) {x : TV} {vx : Value} {t : Ty} {k : List t.den → List (Nat × Option Ob) → GTr Eff} {e : Eff} {et : TypeId} (h : ((appDst x t et k).run ob).to e) (hx : repV (cx us ob mu R w) x vx) :
    ∃ xs u, ((k xs u).run ob).to e ∧ (∀ q ∈ ids u, q ∈ us) ∧ Ext (cx us ob mu R w) (cx us (upds ob u) mu R w) ∧ Mem K.O K.R0 K.w0 (cx us (upds ob u) mu R w) ∧
      (((∃ a, vx = .slice a 0 0 ∧ (a = none ∨ t.isU8 = false)) ∧ xs = []) ∨ ∃ g c vs, vx = .slice (some ⟨g, 0, none⟩) xs.length c ∧ xs.length ≤ c ∧ w.there g 0 (c * t.cells) ∧ repL (repD R w t) xs vs ∧ w.rangeAt g 0 vs ∧
      g < w.heap.size ∧ ¬ R g ∧ (K.O g ∨ K.w0.heap.size ≤ g) ∧ (∀ i, (fnd (upds ob u) i).isSome = true → mu i ≠ some g) ∧ ∃ c0 fr, w.heap[g]? = some (.cells c0 et fr)) := by
  unfold appDst at h
  split at h
  · rename_i id p
    obtain ⟨a, n, c, ev, hu, hp⟩ := hx
    simp only [List.cons.injEq, and_true] at ev
    subst ev
    rw [GTr.run_get] at h
    split at h
    · rename_i t1 ee xs ho
      cases hee : Nat.beq ee et with
      | false => rw [hee] at h; exact (Tr.to_fail h).elim
      | true =>
      rw [hee] at h
      simp only [cond_true] at h
      have hee := Nat.eq_of_beq_eq_true hee
      subst hee
      split at h
      · rename_i heq
        subst heq
        obtain ⟨t', e', xs', heq, hs⟩ := hp _ ho
        cases heq
        have hO := hM.obs id _ ho
        have hE := Ext.del (cx us ob mu R w) id
        have hM' := hM.del id
        rw [cx_del] at hE hM'
        have hi : ((cx us ob mu R w).fd id).isSome = true := by simp [ho]
        -- what is known of the block
        have blk : ∀ g, mu id = some g → g < w.heap.size ∧ ¬ R g ∧ (K.O g ∨ K.w0.heap.size ≤ g) ∧ ∀ i, (fnd (upds ob [(id, none)]) i).isSome = true → mu i ≠ some g := fun g hg =>
          ⟨hM.lt id g hi hg, hM.notR id g hi hg, hM.own id g hi hg, fun i h1 h2 => by
            have h1 : (fnd (del1 ob id) i).isSome = true := h1
            rw [fnd_del1] at h1
            by_cases e : i = id
            · simp [e] at h1
            · simp only [e, if_false] at h1
              exact e (hM.inj i id g h1 hi h2 hg)⟩
        split at h
        · rcases hs with ⟨h1, h2, aa, h3, haa⟩ | ⟨g, c', h1, h2, h3, h4⟩
          · cases h3
            have : xs = [] := List.eq_nil_of_length_eq_zero h2
            subst this
            exact ⟨[], [(id, none)], h, by simp [ids]; exact hu, hE, hM', .inl ⟨⟨_, rfl, haa⟩, rfl⟩⟩
          · cases h2
            rcases hO with ⟨h5, _⟩ | ⟨g', vs, h5, h6, h7, h8, h9, hty⟩
            · have h5 : mu id = none := h5
              have h1 : mu id = some g := h1
              rw [h1] at h5; cases h5
            · have h5 : mu id = some g' := h5
              have h1 : mu id = some g := h1
              rw [h1] at h5; cases h5
              obtain ⟨b1, b2, b3, b4⟩ := blk g h1
              exact ⟨xs, [(id, none)], h, by simp [ids]; exact hu, hE, hM', .inr ⟨g, c, vs, rfl, h3, h4, h6, h7, b1, b2, b3, b4, hty⟩⟩
        · rename_i m
          cases hu8 : t1.isU8 with
          | true => rw [hu8] at h; exact (Tr.to_fail h).elim
          | false =>
          rw [hu8] at h
          simp only [cond_false] at h
          obtain ⟨h0, a', c', h1, h2, h3⟩ := hs
          cases h1
          have hl : (xs.take n).length = n := by rw [List.length_take]; omega
          rcases h3 with h3 | ⟨g, h3, h4, h5⟩
          · have hc0 : c = 0 := h3
            subst hc0
            have hn0 : n = 0 := by omega
            subst hn0
            exact ⟨xs.take 0, [(id, none)], h, by simp [ids]; exact hu, hE, hM', .inl ⟨⟨a, rfl, .inr (by first | rfl | exact hu8)⟩, by simp⟩⟩
          · subst h4
            rcases hO with ⟨h6, _⟩ | ⟨g', vs, h6, h7, h8, h9, h10, hty⟩
            · have h6 : mu id = none := h6
              have h3 : mu id = some g := h3
              rw [h3] at h6; cases h6
            · have h6 : mu id = some g' := h6
              have h3 : mu id = some g := h3
              rw [h3] at h6; cases h6
              obtain ⟨b1, b2, b3, b4⟩ := blk g h3
              obtain ⟨p, q, r, e1, e2, e3⟩ := repL_cut (fun x vs hx => repD_len t1 x vs hx) h7 0 n (by omega)
              rw [List.drop_zero] at e3
              have hp : p = [] := List.eq_nil_of_length_eq_zero (by omega)
              subst hp
              subst e1
              have hq : w.rangeAt g 0 q := by
                have := rangeAt_sub h8
                simpa using this
              refine ⟨xs.take n, [(id, none)], h, by simp [ids]; exact hu, hE, hM', .inr ⟨g, c, q, ?_, by rw [hl]; exact h2, ?_, e3, hq, b1, b2, b3, b4, hty⟩⟩
              · rw [hl]; simp
              · have h5 : w.there g 0 ((0 + c) * t1.cells) := h5
                rw [Nat.zero_add] at h5; exact h5
        · exact (Tr.to_fail h).elim
      · exact (Tr.to_fail h).elim
    · exact (Tr.to_fail h).elim
  · cases (show vx = _ from hx)
    exact ⟨[], [], h, by simp [ids], Ext.refl _, hM, .inl ⟨⟨none, rfl, .inl rfl⟩, rfl⟩⟩
  · exact (Tr.to_fail h).elim
theorem appEv_sound (hM : Mem K.O K.R0 K.w0 (cx us ob mu R w)) (T1 T2 ty : TypeId) (x y : TV) (vx vy : Value) (b : Nat) (e : Eff) (h : ((appEv P T1 T2 x y b).run ob).to e) (hadd : adds ob us e.new = some (ob1, us'))
    (hx : repV (cx us ob mu R w) x vx) (hy : repV (cx us ob mu R w) y vy) :
    ∃ v w', (Builtin.append_ #[T1, T2] ty #[vx, vy]).run P w = .ok v w' ∧ Does K us ob mu R w e us' ob1 v w' := by
  unfold appEv at h
  split at h
  · rename_i et hT1
    split at h
    · rename_i t info ht hinfo
      split at h
      · exact (Tr.to_fail h).elim
      · rename_i x0 hz
        obtain ⟨xs, u, h, hids, hE1, hM1, hxs⟩ := appDst_to hM h hx
        obtain ⟨ys, news, h, hs, hr⟩ := appSrc_to hM h hy
        rcases Tr.to_ite h with ⟨hb, h⟩ | ⟨_, h⟩
        · have hb := of_decide_eq_true hb
          cases Tr.to_ret h
          have hnb := (adds_one hadd).1
          obtain ⟨v, w', mu', hrun, hD⟩ := app_run hT1 hz hinfo hM1 hnb hs hr hb hxs ty
          refine ⟨v, w', hrun, Does.mk rfl hadd hids fun _ => ⟨hE1.trans hD.1, hD.2.1, hD.2.2⟩⟩
        · exact (Tr.to_fail h).elim
    · exact (Tr.to_fail h).elim
  · exact (Tr.to_fail h).elim
end
end
end Go.Am
namespace Go.Am
noncomputable section
variable [PI : Inhabited Program]
section
variable {P : Program} {K : Ctx} {us us' : List Nat} {ob ob1 : List (Nat × Ob)} {mu : Nat → Option Nat} {R : Nat → Prop} {w : World}
theorem made_rep {α : Type} {f : α → List Value → Prop} {x : α} {z : Array Value} (hz : f x z.toList) (h0 : 0 < z.size) : ∀ k, repL f (List.replicate k x) (madeCells z (k * z.size)).toList
  | 0 => by simp [madeCells, repL]
  | k + 1 => by
    have ih := made_rep hz h0 k
    have hs : (madeCells z ((k + 1) * z.size)).toList = (madeCells z (k * z.size)).toList ++ z.toList := by
      apply List.ext_getElem
      · simp [madeCells, Nat.add_mul]
      · intro i h1 h2
        simp [madeCells] at h1 h2 ⊢
        by_cases hi : i < k * z.size
        · rw [List.getElem_append_left (by simpa using hi)]
          simp
        · rw [List.getElem_append_right (by simp; omega)]
          have hlt : i - k * z.size < z.size := by rw [Nat.add_mul] at h1; omega
          have hm : i % z.size = i - k * z.size := by
            have : i = (i - k * z.size) + k * z.size := by omega
            rw [this, Nat.add_mul_mod_self_right, Nat.mod_eq_of_lt (by omega)]
            omega
          simp [hm, hlt]
    rw [hs]
    show repL f (List.replicate (k + 1) x) _
    rw [List.replicate_succ']
    exact repL_append _ _ _ _ ih ⟨z.toList, [], by simp, hz, rfl⟩
theorem makeEv_sound (hM : Mem K.O K.R0 K.w0 (cx us ob mu R w)) (T : TypeId) (n c : TV) (vn vc : Value) (b : Nat) (e : Eff) (h : ((makeEv P T n c b).run ob).to e) (hadd : adds ob us e.new = some (ob1, us')) (hn : repV (cx us ob mu R w) n vn) (hc : repV (cx us ob mu R w) c vc) :
    ∃ v w', (Instr.makeSlice T vn vc).run P w = .ok v w' ∧ Does K us ob mu R w e us' ob1 v w' := by
  unfold makeEv at h
  split at h
  · rename_i et k1 n k2 c hT
    split at h
    · rename_i t info ht hinfo
      split at h
      · rename_i z0 hz
        rcases Tr.to_ite h with ⟨hb, h⟩ | ⟨_, h⟩
        · have hb : 0 ≤ n ∧ n ≤ c ∧ c * info.bytes ≤ maxRow ∧ c ≤ maxRow := of_decide_eq_true hb
          cases Tr.to_ret h
          cases (show vn = _ from hn); cases (show vc = _ from hc)
          obtain ⟨i, z, hi, hzz, hsz, hisz, hpos, hzs, hzr⟩ := zeroD_spec hz
          rw [hinfo] at hi
          cases hi
          have hmax : (maxRow : Int) = 140737488355328 := rfl
          have hrun := run_make (P := P) w T et info z hT hinfo hzz k1 k2 n c hb.1 hb.2.1 (by rw [Int.mul_comm]; omega) (by omega)
          refine ⟨_, _, hrun, Does.mk (mu' := fun j => if j = b then some w.heap.size else mu j) (R' := R) rfl hadd (by simp [ids]) fun hbu => ?_⟩
          have hrep : repL (repD R (w.alloc (.cells (madeCells z.cells (c.toNat * info.size)) et)) t) (List.replicate c.toNat z0) (madeCells z.cells (c.toNat * z.cells.size)).toList := made_rep (hzr _ _) (by omega) _
          rw [hzs, ← hisz] at hrep
          obtain ⟨p, m, q, e1, e2, e3⟩ := repL_cut (fun x vs hx => repD_len t x vs hx) hrep 0 n.toNat (by omega)
          have hp : p = [] := List.eq_nil_of_length_eq_zero (by omega)
          subst hp
          have htk : ((List.replicate c.toNat z0).drop 0).take n.toNat = List.replicate n.toNat z0 := by
            rw [List.drop_zero, List.take_replicate]; congr 1; omega
          rw [htk] at e3
          have hrng := new_range w (madeCells z.cells (c.toNat * info.size)) et
          rw [e1] at hrng
          have hq := rangeAt_sub hrng
          have hth : (w.alloc (.cells (madeCells z.cells (c.toNat * info.size)) et)).there w.heap.size 0 (c.toNat * t.cells) := by
            have := new_there w (madeCells z.cells (c.toNat * info.size)) et
            rw [size_madeCells] at this
            rw [← hisz]; exact this
          have := new_row (e := et) hM hbu (Grow.alloc w (.cells (madeCells z.cells (c.toNat * info.size)) et)) (Nat.le_refl _) (by rw [alloc_size]; omega) e3 (by simpa using hq) (c := c.toNat) (by simp; omega) hth ⟨_, _, alloc_heap_new _ _⟩
          simp only [List.length_replicate] at this
          exact this
        · exact (Tr.to_fail h).elim
      · exact (Tr.to_fail h).elim
    · exact (Tr.to_fail h).elim
  · exact (Tr.to_fail h).elim
theorem zerosEv_sound (hM : Mem K.O K.R0 K.w0 (cx us ob mu R w)) (T1 T2 ty : TypeId) (k kn : IntKind) (hT2 : P.underlying T2 = some (.int kn)) (n : Int) (b : Nat) (e : Eff) (h : ((zerosEv P T1 n b).run ob).to e) (hadd : adds ob us e.new = some (ob1, us')) :
    ∃ v w', (Builtin.append_ #[T1, T2] ty #[.slice none 0 0, .int k n]).run P w = .ok v w' ∧ Does K us ob mu R w e us' ob1 v w' := by
  unfold zerosEv at h
  split at h
  · rename_i et hT
    split at h
    · rename_i t info ht hinfo
      split at h
      · rename_i z0 hz
        rcases Tr.to_ite h with ⟨hb, h⟩ | ⟨_, h⟩
        · have hb : 0 < n ∧ n * info.bytes ≤ maxRow ∧ n ≤ maxRow := of_decide_eq_true hb
          cases Tr.to_ret h
          obtain ⟨i, z, hi, hzz, hsz, hisz, hpos, hzs, hzr⟩ := zeroD_spec hz
          rw [hinfo] at hi
          cases hi
          have hmax : (maxRow : Int) = 140737488355328 := rfl
          have hn : n = ((n.toNat : Nat) : Int) := by omega
          have hmaxN : maxRow = 140737488355328 := rfl
          have hbb : n.toNat * info.bytes ≤ maxRow := by
            have h2 : ((n.toNat * info.bytes : Nat) : Int) ≤ ((maxRow : Nat) : Int) := by
              rw [Int.natCast_mul, ← hn]; exact hb.2.1
            exact Int.ofNat_le.1 h2
          have hrun := Lib.run_append_nil_zeros (P := P) w T1 T2 ty et info z k kn hT hT2 hinfo hzz n.toNat (by omega) (by omega) (by omega) (by omega)
          rw [← hn] at hrun
          have hge := grownCap_ge w n.toNat 0 et
          refine ⟨_, _, hrun, Does.mk (mu' := fun j => if j = b then some w.heap.size else mu j) (R' := R) rfl hadd (by simp [ids]) fun hbu => ?_⟩
          have hrep : repL (repD R w t) (List.replicate n.toNat z0) (Builtin.zeroCells z.cells n.toNat).toList := by
            have := made_rep (hzr R w) (by omega) n.toNat
            exact this
          have := grow_row (e := et) hM hbu hrep (c := grownCap w n.toNat 0 et) (rest := Builtin.zeroCells z.cells (grownCap w n.toNat 0 et - n.toNat)) (by simpa using hge) (by
            rw [zeroCells_size, hzs]
            have e : (Builtin.zeroCells z.cells n.toNat).toList.length = n.toNat * t.cells := by
              rw [Array.length_toList, zeroCells_size, hzs]
            rw [e, ← Nat.add_mul]
            congr 1; omega)
          rw [Array.toArray_toList] at this
          simp only [List.length_replicate] at this
          exact this
        · exact (Tr.to_fail h).elim
      · exact (Tr.to_fail h).elim
    · exact (Tr.to_fail h).elim
  · exact (Tr.to_fail h).elim
theorem conv_bytes (hM : Mem K.O K.R0 K.w0 (cx us ob mu R w)) {S T et : TypeId} {s : ByteArray} {b : Nat} (hS : P.underlying S = some .string) (hT : P.underlying T = some (.slice et)) (hE : P.underlying et = some (.int .u8))
    (hadd : adds ob us [(b, .row (.int .u8) et (bytesOf s))] = some (ob1, us')) :
    ∃ v w', (convert S T (.string s)).run P w = .ok v w' ∧ Does K us ob mu R w ⟨.sl b none, [], [(b, .row (.int .u8) et (bytesOf s))]⟩ us' ob1 v w' := by
  refine ⟨_, _, Lib.run_convert_string_bytes w S T et s hS hT hE, Does.mk (mu' := fun j => if j = b then some w.heap.size else mu j) (R' := R) rfl hadd (by simp [ids]) fun hbu => ?_⟩
  have hg : Grow w (Lib.bytesWorld w et s) := ⟨by simp [Lib.bytesWorld, World.freeze, World.alloc, World.drew, -World.alloc_eq, -World.drew_eq], by simp [Lib.bytesWorld, World.freeze, World.alloc, World.drew, -World.alloc_eq, -World.drew_eq],
    by simp [Lib.bytesWorld, World.freeze, World.alloc, World.drew, -World.alloc_eq, -World.drew_eq], by rw [Lib.bytesWorld_size]; omega, fun k hk => Lib.bytesWorld_at_old w et s k hk⟩
  obtain ⟨h1, h2⟩ := bytesOf_rep (R := R) (w := Lib.bytesWorld w et s) s
  have hnew := Lib.bytesWorld_at_new w et s
  have hsz : (Lib.bytesCells w et s).size = grownCap w s.size 0 et := by
    have hge := grownCap_ge w s.size 0 et
    simp [Lib.bytesCells]
    omega
  have hge := grownCap_ge w s.size 0 et
  have := new_row (e := et) hM hbu hg (g := w.heap.size) (Nat.le_refl _) (by rw [Lib.bytesWorld_size]; omega) h1 (fun j v hv => ?_) (c := grownCap w s.size 0 et) (by rw [h2]; exact hge) (fun j hj => ?_) ⟨_, _, hnew⟩
  · rw [h2] at this; exact this
  · have hj : j < s.size := by
      have := (List.getElem?_eq_some_iff.1 hv).1
      rw [byteCells_length] at this; exact this
    rw [Nat.zero_add, Lib.bytesWorld_cell w et s j hj]
    unfold byteCells at hv
    simp only [List.getElem?_map] at hv
    cases hb : s.data.toList[j]? with
    | none => rw [hb] at hv; cases hv
    | some u => rw [hb] at hv; simp at hv; subst hv; simp [List.getD, hb]
  · have hj : j < (Lib.bytesCells w et s).size := by rw [hsz]; simpa [Ty.cells] using hj
    refine ⟨?_, ?_⟩
    · rw [cell_of_row _ _ _ _ _ _ hnew]; simp [hj]
    · simp only [World.frozen?, hnew]; simp; omega
end
end
end Go.Am
namespace Go.Am
noncomputable section
variable [PI : Inhabited Program]
section
variable {P : Program} {K : Ctx} {us us' : List Nat} {ob ob1 : List (Nat × Ob)} {mu : Nat → Option Nat} {R : Nat → Prop} {w : World}
theorem fold_set : ∀ (vs : List Value) (k off : Nat) (a : Array Value) (p m q : List Value), a.toList = p ++ m ++ q → p.length = off + k → m.length = vs.length →
    ((vs.zipIdx k).foldl (fun cs (x : Value × Nat) => cs.setIfInBounds (off + x.2) x.1) a).toList = p ++ vs ++ q
  | [], k, off, a, p, m, q, h, hp, hm => by
    have : m = [] := List.eq_nil_of_length_eq_zero (by simpa using hm)
    subst this
    simpa using h
  | v :: vs, k, off, a, p, m, q, h, hp, hm => by
    cases m with
    | nil => simp at hm
    | cons u m =>
      simp only [List.zipIdx_cons, List.foldl_cons]
      have h2 : (a.setIfInBounds (off + k) v).toList = (p ++ [v]) ++ m ++ q := by
        rw [Array.toList_setIfInBounds, h, ← hp]
        simp
      have := fold_set vs (k + 1) off _ (p ++ [v]) m q h2 (by simp; omega) (by simpa using hm)
      rw [this]; simp
theorem fill_one {place : Nat → Option (Nat × Nat)} {i off size : Nat} {v : Value} {cells : Array Value} {rest : List (Nat × Value)} {p m q : List Value} (hpl : place i = some (off, size)) (hv : v.cells.size = size) (ha : cells.toList = p ++ m ++ q) (hp : p.length = off) (hm : m.length = size) :
    ∃ cells', cells'.toList = p ++ v.cells.toList ++ q ∧ Instr.fill place cells ((i, v) :: rest) = Instr.fill place cells' rest := by
  have hsz : cells.size = p.length + m.length + q.length := by
    have := congrArg List.length ha
    simp at this
    omega
  refine ⟨v.cells.zipIdx.foldl (fun cs (x : Value × Nat) => cs.setIfInBounds (off + x.2) x.1) cells, ?_, ?_⟩
  · have := fold_set v.cells.toList 0 off cells p m q ha (by omega) (by simp; omega)
    rw [← this]
    congr 1
    rw [← Array.foldl_toList, Array.toList_zipIdx]
  · simp only [Instr.fill, hpl]
    rw [if_neg]
    simp only [hv, ne_eq, not_true_eq_false, Bool.or_eq_true, decide_eq_true_eq, false_or, Bool.false_eq_true, decide_false]
    omega
theorem cells_of_rep {C : Cx} {x : TV} {cs : List Value} {v : Value} (hr : repC C x cs) (hc : (x.isAgg = true ∧ v = .agg cs.toArray) ∨ (x.isAgg = false ∧ cs = [v])) : v.cells.toList = cs := by
  rcases hc with ⟨_, e⟩ | ⟨_, e⟩
  · subst e; rfl
  · subst e
    have := repC_one x _ hr v (List.mem_singleton.2 rfl)
    cases v <;> first | rfl | cases this
def PartsRep (C : Cx) : List (Nat × TV) → List (Nat × Value) → Prop
  | [], vs => vs = []
  | (i, x) :: r, vs => ∃ v l, vs = (i, v) :: l ∧ repV C x v ∧ PartsRep C r l
def PartsC (C : Cx) : List (Nat × TV) → List (Nat × Value) → Prop
  | [], vs => vs = []
  | (i, x) :: r, vs => ∃ v l, vs = (i, v) :: l ∧ (∃ cs, repC C x cs ∧ v.cells.toList = cs) ∧ PartsC C r l
theorem PartsC_mono {C D : Cx} (h : Ext C D) : ∀ (l : List (Nat × TV)) (vs : List (Nat × Value)), PartsC C l vs → PartsC D l vs
  | [], _, hv => hv
  | (i, x) :: r, _, ⟨v, l, e, ⟨cs, h1, h2⟩, h3⟩ => ⟨v, l, e, ⟨cs, repC_mono h x cs h1, h2⟩, PartsC_mono h r l h3⟩
theorem normAll_ok {C : Cx} {T : TypeId} : ∀ (l ps : List (Nat × TV)) (vs : List (Nat × Value)), normAll P T l = some ps → PartsRep C l vs → PartsRep C ps vs
  | [], ps, vs, h, hv => by simp only [normAll] at h; cases h; exact hv
  | (i, x) :: r, ps, vs, h, ⟨v, l, e, h1, h2⟩ => by
    simp only [normAll] at h
    split at h
    · rename_i z l' hn hr
      cases h
      refine ⟨v, l, e, ?_, normAll_ok r l' l hr h2⟩
      exact (norm_ok hn).2 (Ext.refl C) (fun q hq => by cases hq) h1
    · rename_i a q l' hn hr
      split at h
      · rename_i z hz
        cases h
        refine ⟨v, l, e, ?_, normAll_ok r l' l hr h2⟩
        cases (show v = _ from h1)
        unfold nilRo at hz
        split at hz
        · split at hz
          · cases hz
            exact ⟨none, 0, rfl, Nat.le_refl _, .inl rfl⟩
          · cases hz
        · cases hz
      · cases h
    · cases h
theorem freezeAll_ok {γ : Type} (ob : List (Nat × Ob)) : ∀ (ps : List (Nat × TV)) (k : List (Nat × TV) → List (Nat × Option Ob) → GTr γ) (r : γ), ((freezeAll ps k).run ob).to r →
    ∃ l u, ((k l u).run ob).to r ∧ (∀ q ∈ ids u, (fnd ob q).isSome = true) ∧
      ∀ (K : Ctx) (us : List Nat) (ob1 : List (Nat × Ob)) (mu : Nat → Option Nat) (R : Nat → Prop) (w : World) (vs : List (Nat × Value)), (∀ q ∈ ids u, fnd ob1 q = fnd ob q) → Mem K.O K.R0 K.w0 (cx us ob1 mu R w) → PartsC (cx us ob1 mu R w) ps vs →
        ∃ R', Ext (cx us ob1 mu R w) (cx us (upds ob1 u) mu R' w) ∧ Mem K.O K.R0 K.w0 (cx us (upds ob1 u) mu R' w) ∧ PartsC (cx us (upds ob1 u) mu R' w) l vs
  | [], k, r, h => ⟨[], [], h, fun q hq => by simp [ids] at hq, fun K us ob1 mu R w vs _ hM hv => ⟨R, Ext.refl _, hM, hv⟩⟩
  | (i, x) :: ps, k, r, h => by
    simp only [freezeAll] at h
    obtain ⟨y, u, h1, hF, hi⟩ := freeze_ok ob 8 x _ r h
    obtain ⟨l, u', h2, hi2, hF2⟩ := freezeAll_ok ob ps _ r h1
    cases hm : meets (ids u) (ids u') with
    | true => rw [hm] at h2; exact (Tr.to_fail h2).elim
    | false =>
      rw [hm] at h2
      refine ⟨_, _, h2, fun q hq => ?_, fun K us ob1 mu R w vs hob hM hv => ?_⟩
      · simp only [ids, List.map_append, List.mem_append] at hq
        rcases hq with hq | hq
        · exact hi q hq
        · exact hi2 q hq
      · obtain ⟨v, vl, e, ⟨cs, hr, hc⟩, hl⟩ := hv
        obtain ⟨R1, hE1, hM1, hy⟩ := hF K us ob1 mu R w cs (fun q hq => hob q (by simp only [ids, List.map_append, List.mem_append] at hq ⊢; exact .inl hq)) hM hr
        obtain ⟨R2, hE2, hM2, hl2⟩ := hF2 K us (upds ob1 u) mu R1 w vl (fun q hq => by
          rw [fnd_upds_out u ob1 q (meets_false hm q hq)]
          exact hob q (by simp only [ids, List.map_append, List.mem_append] at hq ⊢; exact .inr hq)) hM1 (PartsC_mono hE1 ps vl hl)
        rw [← upds_append] at hE2 hM2 hl2
        exact ⟨R2, hE1.trans hE2, hM2, v, vl, e, ⟨cs, repC_mono hE2 y cs hy, hc⟩, hl2⟩
theorem fill_row {C : Cx} {t : Ty} : ∀ (l : List (Nat × TV)) (vs : List (Nat × Value)) (xs ys : List t.den) (cells : Array Value), PartsC C l vs → rowOf t xs l = some ys → repL (repD C.R C.w t) xs cells.toList →
    ∃ cells', Instr.fill (fun i => some (i * t.cells, t.cells)) cells vs = some cells' ∧ repL (repD C.R C.w t) ys cells'.toList
  | [], vs, xs, ys, cells, hv, h, hr => by
    cases (show vs = [] from hv)
    simp only [rowOf] at h; cases h
    exact ⟨cells, rfl, hr⟩
  | (i, x) :: l, vs, xs, ys, cells, ⟨v, vl, e, ⟨cs, h1, h2⟩, h3⟩, h, hr => by
    subst e
    simp only [rowOf] at h
    cases hu : unTv t x with
    | none => rw [hu] at h; cases h
    | some y =>
      rw [hu] at h
      simp only at h
      cases hb : Nat.blt i xs.length with
      | false => rw [hb] at h; cases h
      | true =>
        rw [hb] at h
        have hlt : i < xs.length := Nat.le_of_ble_eq_true hb
        have hd := unTv_rep t x y cs hu h1
        obtain ⟨p, m, q, e1, e2, e3, e4⟩ := repL_at (fun x vs hx => repD_len t x vs hx) hr (List.getElem?_eq_getElem hlt)
        have hv : v.cells.size = t.cells := by
          have := congrArg List.length h2
          rw [repD_len t y cs hd] at this
          simpa using this
        obtain ⟨cells', f1, f2⟩ := fill_one (place := fun i => some (i * t.cells, t.cells)) (rest := vl) (v := v) rfl hv e1 e2 (repD_len t _ m e3)
        obtain ⟨cells2, g1, g2⟩ := fill_row l vl (xs.set i y) ys cells' h3 h (by rw [f1, h2]; exact e4 y cs hd)
        exact ⟨cells2, by rw [f2]; exact g1, g2⟩
theorem PartsC_of {C : Cx} {t : Ty} : ∀ (l : List (Nat × TV)) (vs : List (Nat × Value)), PartsRep C l vs → (∀ q ∈ l, q.2.solid = true) → PartsC C l vs
  | [], vs, h, _ => h
  | (i, x) :: l, vs, ⟨v, vl, e, h1, h2⟩, hs => by
    obtain ⟨cs, hr, hc⟩ := repV_cells (hs (i, x) (List.mem_cons_self ..)) h1
    exact ⟨v, vl, e, ⟨cs, hr, cells_of_rep hr hc⟩, PartsC_of (t := t) l vl h2 (fun q hq => hs q (List.mem_cons_of_mem _ hq))⟩
theorem buildSlice_run {T et : TypeId} {t : Ty} {z0 : t.den} (hT : P.underlying T = some (.slice et)) (hz : zeroD P et t = some z0) {n : Nat} (hn : n * t.cells ≤ 16777216) {l : List (Nat × TV)} {vs : List (Nat × Value)} {xs : List t.den} {C : Cx}
    (hv : PartsC C l vs) (hx : rowOf t (List.replicate n z0) l = some xs) (w : World) :
    ∃ cells : Array Value, (Instr.buildSlice T n vs.toArray).run P w = .ok (.slice (some ⟨w.heap.size, 0, none⟩) n n) (w.alloc (.cells cells et)) ∧ repL (repD C.R C.w t) xs cells.toList ∧ xs.length = n := by
  obtain ⟨i, z, hi, hzz, hsz, hisz, hpos, hzs, hzr⟩ := zeroD_spec hz
  have hrep : repL (repD C.R C.w t) (List.replicate n z0) (madeCells z.cells (n * z.cells.size)).toList := made_rep (hzr _ _) (by omega) _
  rw [hzs] at hrep
  obtain ⟨cells, h1, h2⟩ := fill_row l vs _ xs _ hv hx hrep
  have hlen : xs.length = n := by
    have : ∀ (l : List (Nat × TV)) (a b : List t.den), rowOf t a l = some b → b.length = a.length := by
      intro l
      induction l with
      | nil => intro a b h; simp only [rowOf] at h; cases h; rfl
      | cons q l ih =>
        intro a b h
        obtain ⟨i, x⟩ := q
        simp only [rowOf] at h
        split at h
        · rename_i y hy
          cases hb : Nat.blt i a.length with
          | false => rw [hb] at h; cases h
          | true => rw [hb] at h; rw [ih _ _ h]; simp
        · cases h
    simpa using this l _ _ hx
  refine ⟨cells, ?_, h2, hlen⟩
  have h1' : Instr.fill (fun i => some (i * t.cells, t.cells)) (madeCells z.cells (n * t.cells)) vs = some cells := h1
  unfold madeCells at h1'
  by_cases h0 : n * t.cells = 0
  · have h0' : n = 0 := by
      rcases Nat.mul_eq_zero.1 h0 with h | h
      · exact h
      · omega
    subst h0'
    have e0 : ∀ f : Nat → Value, (Array.range 0).map f = #[] := fun f => by simp [Array.range_zero']
    rw [Nat.zero_mul, e0] at h1'
    simp [Instr.buildSlice, run_underlying hT, sizeOf_run hsz, newRow, e0, h1']
  · have hn' : ¬ (16777216 < n * t.cells) := by omega
    simp [Instr.buildSlice, run_underlying hT, sizeOf_run hsz, newRow, zeroValue, typeInfo, hi, hzz, h0, hn', h1']
end
end
end Go.Am
namespace Go.Am
noncomputable section
variable [PI : Inhabited Program]
section
variable {P : Program} {K : Ctx} {us us' : List Nat} {ob ob1 : List (Nat × Ob)} {mu : Nat → Option Nat} {R : Nat → Prop} {w : World}
theorem run_places : ∀ (fs : List Field), (fs.all fun (f : Field) => (sizeT P f.type).isSome) = true → ∀ w : World, ∃ ps : List (Nat × Nat), (fs.mapM fun (f : Field) => (do pure (f.offset, ← sizeOf f.type) : Sem (Nat × Nat))).run P w = .ok ps w ∧
    ∀ (i : Nat) (f : Field) (n : Nat), fs[i]? = some f → sizeT P f.type = some n → ps[i]? = some (f.offset, n)
  | [], _, w => ⟨[], rfl, fun i f n h => by simp at h⟩
  | f :: fs, h, w => by
    simp only [List.all_cons, Bool.and_eq_true] at h
    obtain ⟨n, hn⟩ := Option.isSome_iff_exists.1 h.1
    obtain ⟨ps, h1, h2⟩ := run_places fs h.2 w
    refine ⟨(f.offset, n) :: ps, ?_, fun i g m hg hm => ?_⟩
    · rw [List.mapM_cons]
      simp only [Sem.run_bind, sizeOf_run hn, Result.andThen_ok, Sem.run_pure, h1]
    · cases i with
      | zero => simp at hg; subst hg; rw [hn] at hm; cases hm; rfl
      | succ i => simp at hg ⊢; exact h2 i g m hg hm
theorem fieldTy_spec {S T : TypeId} {k : Nat} (h : fieldTy P S k = some T) : ∃ (fs : Array Field) (f : Field), P.underlying S = some (.struct fs) ∧ fs[k]? = some f ∧ f.type = T := by
  unfold fieldTy at h
  split at h
  · rename_i fs hS
    split at h
    · rename_i f hf
      cases h
      exact ⟨fs, f, hS, hf, rfl⟩
    · cases h
  · cases h
theorem setParts_ok {S : TypeId} {fields : Array Field} (hS : P.underlying S = some (.struct fields)) (place : Nat → Option (Nat × Nat)) (hpl : ∀ (i : Nat) (f : Field) (n : Nat), fields[i]? = some f → sizeT P f.type = some n → place i = some (f.offset, n)) :
    ∀ (parts : List (Nat × TV)) (vs : List (Nat × Value)) (fs : List TV) (b : Nat) (l : List TV) (u : List (Nat × Ob)) (cells : Array Value) (us : List Nat) (ob : List (Nat × Ob)) (mu : Nat → Option Nat),
      setParts P S fs parts b = some (l, u) → ∀ (us' : List Nat) (ob1 : List (Nat × Ob)), adds ob us u = some (ob1, us') → Mem K.O K.R0 K.w0 (cx us ob mu R w) → PartsRep (cx us ob mu R w) parts vs → repCL (cx us ob mu R w) fs cells.toList →
      ∃ mu' cells', Ext (cx us ob mu R w) (cx us' ob1 mu' R w) ∧ Mem K.O K.R0 K.w0 (cx us' ob1 mu' R w) ∧ Instr.fill place cells vs = some cells' ∧ repCL (cx us' ob1 mu' R w) l cells'.toList
  | [], vs, fs, b, l, u, cells, us, ob, mu, h, us', ob1, ha, hM, hv, hr => by
    cases (show vs = [] from hv)
    simp only [setParts] at h; cases h
    cases ha
    exact ⟨mu, cells, Ext.refl _, hM, rfl, hr⟩
  | (i, x) :: parts, vs, fs, b, l, u, cells, us, ob, mu, h, us', ob1, ha, hM, ⟨v, vl, e, hv, hvl⟩, hr => by
    subst e
    simp only [setParts] at h
    split at h
    · rename_i T off old hT hoff hold
      split at h
      · cases h
      · rename_i y u1 hn
        cases hb : fits P T y && Nat.beq old.cells y.cells && Nat.beq (cellsL (fs.take i)) off with
        | false => rw [hb] at h; cases h
        | true =>
          rw [hb] at h
          simp only [Bool.and_eq_true] at hb
          obtain ⟨⟨hf, hc⟩, ho⟩ := hb
          have hc := Nat.eq_of_beq_eq_true hc
          have ho := Nat.eq_of_beq_eq_true ho
          simp only [cond_true] at h
          split at h
          · rename_i l2 u2 hset
            cases h
            obtain ⟨ob2, us2, ha1, ha2⟩ := adds_append u1 u2 ob us ob1 us' ha
            obtain ⟨mu1, hE1, hM1, hy⟩ := normF_step hM hn ha1 hv
            obtain ⟨cs, hcs, hcv⟩ := repV_cells (fits_spec hf).1 hy
            have hvc := cells_of_rep hcs hcv
            obtain ⟨p, m, q, e1, e2, e3, e4⟩ := repCL_at (repCL_mono hE1 fs _ hr) hold
            obtain ⟨fs1, f1, hS1, hf1, hT1⟩ := fieldTy_spec hT
            obtain ⟨fs2, f2, n2, hS2, hf2, hn2, _, hoff2⟩ := fieldOff_spec hoff
            rw [hS] at hS1; cases hS1
            rw [hS] at hS2; cases hS2
            rw [hf1] at hf2; cases hf2
            obtain ⟨_, d, hd, hsz, _⟩ := fits_spec hf
            rw [← hT1, hn2] at hsz
            cases hsz
            have hplace := hpl i f1 _ hf1 hn2
            rw [hoff2] at hplace
            obtain ⟨cells', g1, g2⟩ := fill_one (rest := vl) (v := v) hplace (by
              have := congrArg List.length hvc
              rw [repC_len y cs hcs] at this
              simpa using this) e1 (by rw [e2, ho]) (by rw [repC_len old m e3, hc])
            have hset' : ∀ (l : List (Nat × TV)) (vs : List (Nat × Value)), PartsRep (cx us ob mu R w) l vs → PartsRep (cx us2 ob2 mu1 R w) l vs := by
              intro l
              induction l with
              | nil => intro vs h; exact h
              | cons q l ih =>
                intro vs ⟨v, vl, e, h1, h2⟩
                exact ⟨v, vl, e, repV_mono hE1 _ _ h1, ih vl h2⟩
            obtain ⟨mu2, cells2, hE2, hM2, hfill, hr2⟩ := setParts_ok hS place hpl parts vl (fs.set i y) _ _ u2 cells' us2 ob2 mu1 hset us' ob1 ha2 hM1 (hset' _ _ hvl) (by rw [g1, hvc]; exact e4 y cs hcs)
            exact ⟨mu2, cells2, hE1.trans hE2, hM2, by rw [g2]; exact hfill, hr2⟩
          · cases h
    · cases h
theorem rowOf_len {t : Ty} : ∀ (l : List (Nat × TV)) (a b : List t.den), rowOf t a l = some b → b.length = a.length := by
  intro l
  induction l with
  | nil => intro a b h; simp only [rowOf] at h; cases h; rfl
  | cons q l ih =>
    intro a b h
    obtain ⟨i, x⟩ := q
    simp only [rowOf] at h
    split at h
    · cases hb : Nat.blt i a.length with
      | false => rw [hb] at h; cases h
      | true => rw [hb] at h; rw [ih _ _ h]; simp
    · cases h
theorem buildArrEv_sound (hM : Mem K.O K.R0 K.w0 (cx us ob mu R w)) (T : TypeId) (n : Nat) (et : TypeId) (z : Value) (hT : P.underlying T = some (.array n et)) (hz : (P.info? T).bind (·.zero) = some z) (parts : List (Nat × TV)) (vs : List (Nat × Value)) (e : Eff) (h : ((buildArrEv P n et z parts).run ob).to e) (hadd : adds ob us e.new = some (ob1, us')) (hv : PartsRep (cx us ob mu R w) parts vs) :
    ∃ v w', (Instr.build T vs.toArray).run P w = .ok v w' ∧ Does K us ob mu R w e us' ob1 v w' := by
  unfold buildArrEv at h
  split at h
  · rename_i t ps sz ht hps hsz
    split at h
    · rename_i xs0 hxs0
      cases hb : Nat.beq sz t.cells && (ps.all fun q => q.2.solid) with
      | false => rw [hb] at h; exact (Tr.to_fail h).elim
      | true =>
        rw [hb] at h
        simp only [Bool.and_eq_true] at hb
        have hs1 := Nat.eq_of_beq_eq_true hb.1
        subst hs1
        have hsol : ∀ q ∈ ps, q.2.solid = true := fun q hq => List.all_eq_true.1 hb.2 q hq
        obtain ⟨l, u, h, hi, hF⟩ := freezeAll_ok ob ps _ e h
        split at h
        · rename_i xs hx
          cases Tr.to_ret h
          simp only [adds, Option.some.injEq, Prod.mk.injEq] at hadd
          obtain ⟨rfl, rfl⟩ := hadd
          have hpc := PartsC_of (t := t) ps vs (normAll_ok parts ps vs hps hv) hsol
          obtain ⟨R1, hE1, hM1, hl⟩ := hF K us ob mu R w vs (fun _ _ => rfl) hM hpc
          obtain ⟨a, ha, hal, har⟩ := unCs_rep R1 w t n _ _ _ hxs0
          rw [List.append_nil] at ha
          obtain ⟨cells, f1, f2⟩ := fill_row l vs xs0 xs z.cells hl hx (by rw [ha]; exact har)
          refine ⟨.agg cells, w, ?_, mu, R1, hE1, hM1, cells.toList, rfl, by rw [rowOf_len _ _ _ hx, hal], f2⟩
          cases hi : P.info? T with
          | none => simp [hi] at hz
          | some i =>
            have hz' : i.zero = some z := by simpa [hi] using hz
            have hzv : (zeroValue T).run P w = .ok z w := by simp [zeroValue, typeInfo, hi, hz']
            simp only [Instr.build, Sem.run_bind, hzv, Result.andThen_ok, run_underlying hT, sizeOf_run hsz, f1, Sem.run_pure]
        · exact (Tr.to_fail h).elim
    · exact (Tr.to_fail h).elim
  · exact (Tr.to_fail h).elim
theorem fill_adrs {C : Cx} : ∀ (parts : List (Nat × TV)) (vs : List (Nat × Value)) (k : Nat) (l : List TV) (pre post : List Value) (cells : Array Value), adrParts k parts = some l → PartsRep C parts vs → cells.toList = pre ++ post → pre.length = k → post.length = l.length →
    ∃ (cells' : Array Value) (ms : List Value), Instr.fill (fun i => some (i * 1, 1)) cells vs = some cells' ∧ cells'.toList = pre ++ ms ∧ repCL C l ms
  | [], vs, k, l, pre, post, cells, ha, hv, hc, hp, hl => by
    unfold adrParts at ha
    cases ha
    cases (show vs = [] from hv)
    have : post = [] := List.eq_nil_of_length_eq_zero hl
    subst this
    exact ⟨cells, [], rfl, hc, rfl⟩
  | (i, x) :: parts, vs, k, l, pre, post, cells, ha, hv, hc, hp, hl => by
    unfold adrParts at ha
    split at ha
    · rename_i heq; cases heq
    · rename_i k' i' id p r heq
      simp only [List.cons.injEq, Prod.mk.injEq] at heq
      obtain ⟨⟨rfl, rfl⟩, rfl⟩ := heq
      rename_i kk _
      cases hik : Nat.beq i kk with
      | false => rw [hik] at ha; cases ha
      | true =>
        rw [hik] at ha
        simp only [cond_true] at ha
        have hik := Nat.eq_of_beq_eq_true hik
        subst hik
        split at ha
        · rename_i l' hl'
          cases ha
          obtain ⟨v, vl, e, h1, h2⟩ := hv
          subst e
          have h1' : repC C (.adr id p) [v] := h1
          obtain ⟨a, ea, _⟩ := h1'
          simp only [List.cons.injEq, and_true] at ea
          subst ea
          match post, hl with
          | m0 :: rest, hl =>
            obtain ⟨cells1, f1, f2⟩ := fill_one (place := fun i => some (i * 1, 1)) (i := i) (v := .pointer (some a)) (cells := cells) (rest := vl) (p := pre) (m := [m0]) (q := rest) rfl rfl (by rw [hc]; simp) (by omega) rfl
            obtain ⟨cells2, ms, g1, g2, g3⟩ := fill_adrs parts vl (i + 1) l' (pre ++ [.pointer (some a)]) rest cells1 hl' h2 (by rw [f1]; rfl) (by simp; omega) (by simpa using hl)
            exact ⟨cells2, .pointer (some a) :: ms, by rw [f2]; exact g1, by rw [g2]; simp, [.pointer (some a)], ms, rfl, h1, g3⟩
        · cases ha
    · cases ha
theorem buildPtrEv_sound (hM : Mem K.O K.R0 K.w0 (cx us ob mu R w)) (T : TypeId) (n : Nat) (et : TypeId) (z : Value) (hT : P.underlying T = some (.array n et)) (hz : (P.info? T).bind (·.zero) = some z) (parts : List (Nat × TV)) (vs : List (Nat × Value)) (e : Eff) (h : ((buildPtrEv P n et z parts).run ob).to e) (hadd : adds ob us e.new = some (ob1, us')) (hv : PartsRep (cx us ob mu R w) parts vs) :
    ∃ v w', (Instr.build T vs.toArray).run P w = .ok v w' ∧ Does K us ob mu R w e us' ob1 v w' := by
  unfold buildPtrEv at h
  split at h
  · rename_i l hsz hl
    cases hb : Nat.beq l.length n && Nat.beq z.cells.size n with
    | false => rw [hb] at h; exact (Tr.to_fail h).elim
    | true =>
      rw [hb] at h
      rw [Bool.and_eq_true] at hb
      have h1 := Nat.eq_of_beq_eq_true hb.1
      have h2 := Nat.eq_of_beq_eq_true hb.2
      cases Tr.to_ret h
      obtain ⟨cells, ms, f1, f2, f3⟩ := fill_adrs parts vs 0 l [] z.cells.toList z.cells hl hv rfl rfl (by rw [Array.length_toList, h2, h1])
      refine ⟨.agg cells, w, ?_, Does.quiet hM hadd rfl rfl ⟨ms, by rw [show ms = cells.toList by rw [f2]; rfl], f3⟩⟩
      cases hi : P.info? T with
      | none => simp [hi] at hz
      | some i =>
        have hz' : i.zero = some z := by simpa [hi] using hz
        have hzv : (zeroValue T).run P w = .ok z w := by simp [zeroValue, typeInfo, hi, hz']
        simp only [Instr.build, Sem.run_bind, hzv, Result.andThen_ok, run_underlying hT, sizeOf_run hsz, f1, Sem.run_pure]
  · exact (Tr.to_fail h).elim
theorem buildEv_sound (hM : Mem K.O K.R0 K.w0 (cx us ob mu R w)) (T : TypeId) (parts : List (Nat × TV)) (vs : List (Nat × Value)) (b : Nat) (e : Eff) (h : ((buildEv P T parts b).run ob).to e) (hadd : adds ob us e.new = some (ob1, us')) (hv : PartsRep (cx us ob mu R w) parts vs) :
    ∃ v w', (Instr.build T vs.toArray).run P w = .ok v w' ∧ Does K us ob mu R w e us' ob1 v w' := by
  unfold buildEv at h
  split at h
  · rename_i z fs hz hT
    split at h
    · rename_i l u b' hc
      cases hb : (fs.toList.all fun (f : Field) => (sizeT P f.type).isSome) with
      | false => rw [hb] at h; exact (Tr.to_fail h).elim
      | true =>
        rw [hb] at h
        simp only [cond_true] at h
        split at h
        · rename_i l' u' hset
          cases Tr.to_ret h
          obtain ⟨ob2, us2, ha1, ha2⟩ := adds_append u u' ob us ob1 us' hadd
          obtain ⟨mu1, hE1, hM1, hr1⟩ := ofCells_step hM hc ha1
          have hv1 : PartsRep (cx us2 ob2 mu1 R w) parts vs := by
            have : ∀ (l : List (Nat × TV)) (vs : List (Nat × Value)), PartsRep (cx us ob mu R w) l vs → PartsRep (cx us2 ob2 mu1 R w) l vs := by
              intro l
              induction l with
              | nil => intro vs h; exact h
              | cons q l ih =>
                intro vs ⟨v, vl, e, h1, h2⟩
                exact ⟨v, vl, e, repV_mono hE1 _ _ h1, ih vl h2⟩
            exact this _ _ hv
          obtain ⟨ps, hrun, hps⟩ := run_places fs.toList hb w
          obtain ⟨mu2, cells, hE2, hM2, hfill, hr2⟩ := setParts_ok hT (fun i => ps.toArray[i]?) (fun i f n h1 h2 => by
            have := hps i f n (by simpa using h1) h2
            simpa using this) parts vs l b' l' u' z.cells us2 ob2 mu1 hset us' ob1 ha2 hM1 hv1 hr1
          refine ⟨.agg cells, w, ?_, mu2, R, hE1.trans hE2, hM2, cells.toList, rfl, hr2⟩
          cases hi : P.info? T with
          | none => simp [hi] at hz
          | some i =>
            have hz' : i.zero = some z := by simpa [hi] using hz
            have hm : (fs.mapM fun (f : Field) => (do pure (f.offset, ← sizeOf f.type) : Sem (Nat × Nat))).run P w = .ok ps.toArray w := by
              rw [Array.mapM_eq_mapM_toList, Sem.run_map, hrun]
              rfl
            have hzv : (zeroValue T).run P w = .ok z w := by simp [zeroValue, typeInfo, hi, hz']
            simp only [Instr.build, Sem.run_bind, hzv, Result.andThen_ok, run_underlying hT, hm, hfill, Sem.run_pure]
        · exact (Tr.to_fail h).elim
    · exact (Tr.to_fail h).elim
  · rename_i z n et hz hT
    split at h
    · exact buildPtrEv_sound hM T n et z hT hz parts vs e h hadd hv
    · exact buildArrEv_sound hM T n et z hT hz parts vs e h hadd hv
  · exact (Tr.to_fail h).elim
theorem buildSliceEv_sound (hM : Mem K.O K.R0 K.w0 (cx us ob mu R w)) (T : TypeId) (n : Nat) (parts : List (Nat × TV)) (vs : List (Nat × Value)) (b : Nat) (e : Eff) (h : ((buildSliceEv P T n parts b).run ob).to e) (hadd : adds ob us e.new = some (ob1, us')) (hv : PartsRep (cx us ob mu R w) parts vs) :
    ∃ v w', (Instr.buildSlice T n vs.toArray).run P w = .ok v w' ∧ Does K us ob mu R w e us' ob1 v w' := by
  unfold buildSliceEv at h
  split at h
  · rename_i et hT
    split at h
    · rename_i t ps ht hps
      split at h
      · rename_i z hz
        cases hb : Nat.ble (n * t.cells) 16777216 && (ps.all fun q => q.2.solid) with
        | false => rw [hb] at h; exact (Tr.to_fail h).elim
        | true =>
          rw [hb] at h
          simp only [Bool.and_eq_true] at hb
          have hn := Nat.le_of_ble_eq_true hb.1
          have hsol : ∀ q ∈ ps, q.2.solid = true := fun q hq => List.all_eq_true.1 hb.2 q hq
          obtain ⟨l, u, h, hi, hF⟩ := freezeAll_ok ob ps _ e h
          split at h
          · rename_i xs hx
            cases Tr.to_ret h
            have hpc := PartsC_of (t := t) ps vs (normAll_ok parts ps vs hps hv) hsol
            obtain ⟨R1, hE1, hM1, hl⟩ := hF K us ob mu R w vs (fun _ _ => rfl) hM hpc
            obtain ⟨cells, hrun, hr, hlen⟩ := buildSlice_run hT hz hn hl hx w
            refine ⟨_, _, hrun, Does.mk (mu' := fun j => if j = b then some w.heap.size else mu j) (R' := R1) rfl hadd (fun q hq => hM.us q (hi q hq)) fun hbu => ?_⟩
            have hrng := new_range w cells et
            have hth := new_there w cells et
            have hcl : cells.size = n * t.cells := by
              have := repL_len (fun x vs hx => repD_len t x vs hx) xs _ hr
              rw [hlen] at this
              simpa using this
            rw [hcl] at hth
            have hg := Grow.alloc w (.cells cells et)
            have hE0 := Ext.grow (C := cx us (upds ob u) mu R1 w) hM1.rlt hg
            have := new_row (e := et) hM1 hbu hg (Nat.le_refl _) (by rw [alloc_size]; omega) (repL_mono (fun x vs hx => repD_mono hE0.R hE0.size hE0.blk t x vs hx) _ _ hr) hrng (c := n) (by omega) hth ⟨_, _, alloc_heap_new _ _⟩
            rw [hlen] at this
            exact ⟨hE1.trans this.1, this.2.1, this.2.2⟩
          · exact (Tr.to_fail h).elim
      · exact (Tr.to_fail h).elim
    · exact (Tr.to_fail h).elim
  · exact (Tr.to_fail h).elim
end
end
end Go.Am
namespace Go.Am
noncomputable section
variable [PI : Inhabited Program]
theorem tyCons_leaf {l : List (Option Ty)} {k : Ty} (h : tyCons l = some k) : k.leaf = false := by
  cases l with
  | nil => cases h; rfl
  | cons x l =>
    cases x with
    | none => cases h
    | some a =>
      unfold tyCons at h
      split at h
      · cases h; rfl
      · cases h
theorem leaf_under {P : Program} {K : TypeId} {k : Ty} (h : tyOf P dep K = some k) (hl : k.leaf = true) :
    ∃ d, P.underlying K = some d ∧ (∀ a, MapKept.IsKey d (leafV k a)) ∧ ∀ a b, Instr.sameNow d (leafV k a) (leafV k b) = some (eqL k a b) := by
  unfold dep tyOf at h
  split at h
  · rename_i hu
    cases h
    exact ⟨_, hu, fun a => trivial, fun a b => rfl⟩
  · rename_i q hu
    cases h
    refine ⟨_, hu, fun a => rfl, fun a b => ?_⟩
    show (if q = q then some ((a : Int) == b) else none) = _
    rw [if_pos rfl]
    rfl
  · rename_i hu
    cases h
    refine ⟨_, hu, fun a => trivial, fun a b => ?_⟩
    show some ((a : ByteArray) == b) = some (decide ((a : ByteArray) = b))
    congr 1
    rw [Bool.eq_iff_iff, MapKept.bytes_beq, decide_eq_true_eq]
  · split at h
    · cases h; cases hl
    · cases h
  · rw [tyCons_leaf h] at hl; cases hl
  · cases h
theorem eqL_iff : ∀ {k : Ty} {a b : k.den}, k.leaf = true → (eqL k a b = true ↔ leafV k a = leafV k b)
  | .int k, a, b, _ => by simp [eqL, leafV]
  | .bool, a, b, _ => by simp [eqL, leafV]
  | .str, a, b, _ => by simp [eqL, leafV]
  | .sl _, _, _, h => by cases h
  | .unit, _, _, h => by cases h
  | .cons .., _, _, h => by cases h
theorem mapTy_spec {P : Program} {T : TypeId} {k v : Ty} {V : TypeId} (h : mapTy P T = some (k, v, V)) : ∃ K, P.underlying T = some (.map K V) ∧ tyOf P dep K = some k ∧ tyOf P dep V = some v ∧ k.leaf = true ∧ v.leaf = true := by
  unfold mapTy at h
  split at h
  · rename_i K V' hu
    split at h
    · rename_i k' v' hk hv
      cases hb : k'.leaf && v'.leaf with
      | false => rw [hb] at h; cases h
      | true =>
        rw [hb] at h
        cases h
        rw [Bool.and_eq_true] at hb
        exact ⟨K, hu, hk, hv, hb.1, hb.2⟩
    · cases h
  · cases h
theorem unC_leaf : ∀ {v : Ty} {z : Value} {x : v.den}, v.leaf = true → unC v [z] = some (x, []) → z = leafV v x
  | .int k, z, x, _, h => by
    cases z with
    | int k' y =>
      have h : (if k' = k then some ((y : Int), ([] : List Value)) else none) = some (x, []) := h
      split at h
      · rename_i e; cases h; subst e; rfl
      · cases h
    | _ => cases h
  | .bool, z, x, _, h => by
    cases z with
    | bool b => cases h; rfl
    | _ => cases h
  | .str, z, x, _, h => by
    cases z with
    | string b => cases h; rfl
    | _ => cases h
  | .sl _, _, _, h, _ => by cases h
  | .unit, _, _, h, _ => by cases h
  | .cons .., _, _, h, _ => by cases h
theorem tvOf_leaf : ∀ {v : Ty} {x : v.den}, v.leaf = true → tvOf v x = .v (leafV v x)
  | .int k, _, _ => rfl
  | .bool, _, _ => rfl
  | .str, _, _ => rfl
  | .sl _, _, h => by cases h
  | .unit, _, h => by cases h
  | .cons .., _, h => by cases h
theorem unTv_leaf {C : Cx} : ∀ {v : Ty} {x : TV} {y : v.den} {val : Value}, v.leaf = true → unTv v x = some y → repV C x val → val = leafV v y
  | .int k, x, y, val, _, h, hv => by
    cases x with
    | v z =>
      cases z with
      | int k' q =>
        have h : (if k' = k then some (q : Int) else none) = some y := h
        split at h
        · rename_i e; cases h; subst e; exact hv
        · cases h
      | _ => cases h
    | _ => cases h
  | .bool, x, y, val, _, h, hv => by
    cases x with
    | v z =>
      cases z with
      | bool q => cases h; exact hv
      | _ => cases h
    | _ => cases h
  | .str, x, y, val, _, h, hv => by
    cases x with
    | v z =>
      cases z with
      | string q => cases h; exact hv
      | _ => cases h
    | _ => cases h
  | .sl _, _, _, _, h, _, _ => by cases h
  | .unit, _, _, _, h, _, _ => by cases h
  | .cons .., _, _, _, h, _, _ => by cases h
theorem find_rep {d : TypeDesc} {k v : Ty} (hs : ∀ a b, Instr.sameNow d (leafV k a) (leafV k b) = some (eqL k a b)) (a : k.den) :
    ∀ (xs : List (k.den × v.den)) (n i : Nat), Instr.findNow d (leafV k a) (entL k v n xs) i = some (match mapFnd k a xs with | some (j, y) => some (i + j, leafV v y) | none => none)
  | [], n, i => rfl
  | e :: l, n, i => by
    have ih := find_rep hs a l (n + 1) (i + 1)
    unfold entL Instr.findNow
    simp only [hs]
    unfold mapFnd
    cases he : eqL k a e.1 with
    | true => simp
    | false =>
      simp only [cond_false]
      rw [ih]
      cases mapFnd k a l with
      | none => rfl
      | some p => simp only [show i + 1 + p.1 = i + (p.1 + 1) by omega]
theorem entL_length (k v : Ty) : ∀ (xs : List (k.den × v.den)) (n : Nat), (entL k v n xs).length = xs.length
  | [], _ => rfl
  | _ :: l, n => by rw [entL, List.length_cons, List.length_cons, entL_length k v l]
theorem entL_append (k v : Ty) : ∀ (xs ys : List (k.den × v.den)) (n : Nat), entL k v n (xs ++ ys) = entL k v n xs ++ entL k v (n + xs.length) ys
  | [], ys, n => rfl
  | e :: l, ys, n => by
    rw [List.cons_append, entL, entL, entL_append k v l ys (n + 1), List.length_cons, show n + 1 + l.length = n + (l.length + 1) by omega]
    rfl
theorem entL_set {k v : Ty} (hk : k.leaf = true) (a : k.den) (b : v.den) : ∀ (xs : List (k.den × v.den)) (n j : Nat) (y : v.den), mapFnd k a xs = some (j, y) →
    (∃ e, (entL k v n xs)[j]? = some e ∧ e.key = leafV k a) ∧ entL k v n (xs.set j (a, b)) = (entL k v n xs).modify j fun e => { e with key := leafV k a, val := leafV v b }
  | [], n, j, y, h => by cases h
  | e :: l, n, j, y, h => by
    unfold mapFnd at h
    cases he : eqL k a e.1 with
    | true =>
      rw [he] at h
      cases h
      exact ⟨⟨_, rfl, ((eqL_iff hk).1 he).symm⟩, rfl⟩
    | false =>
      rw [he] at h
      simp only [cond_false] at h
      cases hm : mapFnd k a l with
      | none => rw [hm] at h; cases h
      | some p =>
        obtain ⟨j', y'⟩ := p
        rw [hm] at h
        cases h
        obtain ⟨h1, h2⟩ := entL_set hk a b l (n + 1) j' y hm
        refine ⟨h1, ?_⟩
        rw [List.set_cons_succ, entL, h2]
        rfl
section
variable {P : Program} {K : Ctx} {us us' : List Nat} {ob ob1 : List (Nat × Ob)} {mu : Nat → Option Nat} {R : Nat → Prop} {w : World}
theorem run_ti {t : TypeId} {i : TypeInfo} (h : P.info? t = some i) (w : World) : (typeInfo t).run P w = .ok i w := by
  unfold typeInfo
  simp only [Sem.run_bind]
  have hp : (program).run P w = .ok P w := rfl
  simp only [hp, Result.andThen_ok, h]
  rfl
theorem run_zeroL {V : TypeId} {v : Ty} {z : v.den} (hl : v.leaf = true) (h : zeroL P V v = some z) (w : World) : (zeroValue V).run P w = .ok (leafV v z) w := by
  unfold zeroL at h
  cases hi : P.info? V with
  | none => rw [hi] at h; cases h
  | some i =>
    rw [hi] at h
    simp only [Option.bind_some] at h
    cases hz : i.zero with
    | none => rw [hz] at h; cases h
    | some y =>
      rw [hz] at h
      simp only at h
      split at h
      · rename_i x hx
        cases h
        have := unC_leaf hl hx
        subst this
        unfold zeroValue
        rw [Sem.run_bind, run_ti hi w, Result.andThen_ok, hz]
        rfl
      · cases h
theorem lookupEv_sound (hM : Mem K.O K.R0 K.w0 (cx us ob mu R w)) (T : TypeId) (x i : TV) (vx vi : Value) (ok : Bool) (e : Eff) (h : ((lookupEv P T x i ok).run ob).to e) (hx : repV (cx us ob mu R w) x vx) (hi : repV (cx us ob mu R w) i vi) :
    ∃ v, (Instr.lookup T vx vi ok).run P w = .ok v w ∧ Quiet (cx us ob mu R w) e v := by
  unfold lookupEv at h
  split at h
  · rename_i k v V hT
    obtain ⟨Kt, hu, hk, hv, lk, lv⟩ := mapTy_spec hT
    obtain ⟨d, hd, hkey, hsame⟩ := leaf_under hk lk
    split at h
    · rename_i z hz
      have hzr := run_zeroL lv hz w
      have fin : ∀ (y : v.den) (f : Bool), ∃ val, (if ok = true then (.tuple #[leafV v y, .bool f] : Value) else leafV v y) = val ∧ repV (cx us ob mu R w) (lookTV v y f ok) val := fun y f => by
        cases ok with
        | true =>
          refine ⟨_, rfl, [leafV v y, .bool f], rfl, leafV v y, _, rfl, ?_, .bool f, _, rfl, rfl, rfl⟩
          rw [tvOf_leaf lv]; rfl
        | false =>
          refine ⟨_, rfl, ?_⟩
          show repV _ (tvOf v y) _
          rw [tvOf_leaf lv]; rfl
      split at h
      · rename_i a id ha
        have hkv := unTv_leaf lk ha hi
        rw [GTr.run_get] at h
        split at h
        · rename_i k' v' xs ho
          split at h
          · rename_i hkk
            obtain ⟨rfl, rfl⟩ := hkk
            cases Tr.to_ret h
            obtain ⟨_, _, r, es, h1, h2, h3⟩ := hM.obs id _ ho
            obtain ⟨r', e1, _, e2⟩ := hx
            have e2 := e2 (by simp [ho])
            rw [h1] at e2
            cases e2
            simp only [List.cons.injEq, and_true] at e1
            obtain ⟨val, hval, hrep⟩ := fin (mapGet k' a z xs) (mapHas k' a xs)
            refine ⟨val, ?_, rfl, rfl, hrep⟩
            have hfind := find_rep (v := v') hsame a xs 0 0
            rw [← h3] at hfind
            have hw : (cx us ob mu R w).w = w := rfl
            rw [hw] at h2
            cases hf : mapFnd k' a xs with
            | none =>
              rw [hf] at hfind
              simp only at hfind
              unfold Instr.lookup
              simp only [Sem.run_bind, run_underlying hu, Result.andThen_ok, e1, MapKept.run_getObj_map h2, hkv, MapKept.run_checkKey hd (hkey a), MapKept.run_findKey hd hfind, hzr, Sem.run_pure]
              rw [← hval]
              unfold mapGet mapHas
              rw [hf]
            | some p =>
              obtain ⟨j, y⟩ := p
              rw [hf] at hfind
              simp only at hfind
              unfold Instr.lookup
              simp only [Sem.run_bind, run_underlying hu, Result.andThen_ok, e1, MapKept.run_getObj_map h2, hkv, MapKept.run_checkKey hd (hkey a), MapKept.run_findKey hd hfind, Sem.run_pure]
              rw [← hval]
              unfold mapGet mapHas
              rw [hf]
          · exact (Tr.to_fail h).elim
        · exact (Tr.to_fail h).elim
      · rename_i a ha
        have hkv := unTv_leaf lk ha hi
        cases Tr.to_ret h
        have e1 : vx = .map none := hx
        obtain ⟨val, hval, hrep⟩ := fin z false
        refine ⟨val, ?_, rfl, rfl, hrep⟩
        have hfind : Instr.findNow d (leafV k a) [] 0 = some none := rfl
        unfold Instr.lookup
        simp only [Sem.run_bind, run_underlying hu, Result.andThen_ok, e1, Sem.run_pure, hkv, MapKept.run_checkKey hd (hkey a), MapKept.run_findKey hd hfind, hzr]
        rw [← hval]
      · exact (Tr.to_fail h).elim
    · exact (Tr.to_fail h).elim
  · exact (Tr.to_fail h).elim
theorem lenMEv_sound (hM : Mem K.O K.R0 K.w0 (cx us ob mu R w)) (T ty : TypeId) (x : TV) (vx : Value) (rest : List TypeId) (e : Eff) (h : ((lenMEv P T x).run ob).to e) (hx : repV (cx us ob mu R w) x vx) :
    ∃ v, (Builtin.len_ (T :: rest).toArray ty #[vx]).run P w = .ok v w ∧ Quiet (cx us ob mu R w) e v := by
  unfold lenMEv at h
  split at h
  · rename_i Kt Vt id hT
    rw [GTr.run_get] at h
    split at h
    · rename_i k v xs ho
      obtain ⟨z, h', he⟩ := pureT_to h; subst he; clear h; have h := h'; clear h'
      cases Tr.to_ret h
      obtain ⟨_, _, r, es, h1, h2, h3⟩ := hM.obs id _ ho
      obtain ⟨r', e1, _, e2⟩ := hx
      have e2 := e2 (by simp [ho])
      rw [h1] at e2
      cases e2
      simp only [List.cons.injEq, and_true] at e1
      have hn : es.size = xs.length := by
        have := congrArg List.length h3
        rw [entL_length] at this
        simpa using this
      have hw : (cx us ob mu R w).w = w := rfl
      rw [hw] at h2
      refine ⟨goInt es.size, ?_, ?_⟩
      · subst e1
        simp [Builtin.len_, run_underlying hT, MapKept.run_getObj_map h2]
      · rw [hn]
        exact ⟨rfl, rfl, rfl⟩
    · exact (failG_to h).elim
  · exact lenEv_sound (P := P) ob rfl T ty _ vx rest e h hx
theorem chg_step (hM : Mem K.O K.R0 K.w0 (cx us ob mu R w)) {id r : Nat} {o o' : Ob} (ho : fnd ob id = some o) (hk : o.like o') (hb : mu id = some r) {es : Array MapEntry} {n : Nat} (hr : w.heap[r]? = some (.map es n)) (x : Obj)
    (hn : ∀ w', w' = { w with heap := w.heap.setIfInBounds r x } → w'.heap[r]? = some x → repO (cx us (upd1 ob id (some o')) mu R w') id o') :
    Ext (cx us ob mu R w) (cx us (upd1 ob id (some o')) mu R { w with heap := w.heap.setIfInBounds r x }) ∧ Mem K.O K.R0 K.w0 (cx us (upd1 ob id (some o')) mu R { w with heap := w.heap.setIfInBounds r x }) := by
  obtain ⟨q1, q2⟩ := MapKept.heap_set (o' := x) hr
  have hi : ((cx us ob mu R w).fd id).isSome = true := by simp [ho]
  have hsz : (w.heap.setIfInBounds r x).size = w.heap.size := by simp
  have hth : ∀ b' o n, w.there b' o n → World.there { w with heap := w.heap.setIfInBounds r x } b' o n := fun b' o n h => by
    rcases Nat.eq_zero_or_pos n with rfl | hpos
    · intro j hj; omega
    · refine there_of_blk (q2 b' ?_) h
      intro e; subst e
      have := (h 0 hpos).1
      unfold World.cell? at this
      rw [hr] at this
      cases this
  have hE : Ext (cx us ob mu R w) (cx us (upd1 ob id (some o')) mu R { w with heap := w.heap.setIfInBounds r x }) := by
    refine ⟨fun _ h => h, fun j ob' hu h => ?_, fun _ h => h, by show w.heap.size ≤ (w.heap.setIfInBounds r x).size; omega, fun c hc => q2 c ?_, fun _ _ b' _ _ _ => ⟨fun o n h => hth b' o n h, fun rc hrc => (by
      by_cases e : b' = r
      · subst e; have hrc : w.heap[b']? = _ := hrc; rw [hr] at hrc; cases hrc
      · exact ⟨rc, (q2 b' e).trans hrc, rfl⟩)⟩⟩
    · simp only [fnd_upd1] at h
      by_cases e : j = id
      · subst e; simp at h; subst h; exact ⟨o, ho, rfl, hk⟩
      · simp [e] at h; exact ⟨ob', h, rfl, Ob.like.refl ob'⟩
    · intro e; subst e; exact hM.notR id c hi hb hc
  have hs : ∀ j, ((cx us (upd1 ob id (some o')) mu R { w with heap := w.heap.setIfInBounds r x }).fd j).isSome = true → ((cx us ob mu R w).fd j).isSome = true := fun j hj => by
    simp only [fnd_upd1] at hj
    by_cases e : j = id
    · subst e; exact hi
    · simpa [e] using hj
  have hown := hM.own id r hi hb
  refine ⟨hE, fun j hj => hM.us j (hs j hj), ?_, ?_, fun i j c hi' hj h1 h2 => hM.inj i j c (hs i hi') (hs j hj) h1 h2, fun i c hi' h1 => hM.notR i c (hs i hi') h1,
    fun i c hi' h1 => hM.own i c (hs i hi') h1, fun i c hi' h1 => by
      have := hM.lt i c (hs i hi') h1
      show c < (w.heap.setIfInBounds r x).size
      rw [hsz]; exact this, hM.ro, hM.ro0, fun c hc => by
      have := hM.rlt c hc
      show c < (w.heap.setIfInBounds r x).size
      rw [hsz]; exact this⟩
  · refine ⟨hM.fr.os, hM.fr.tape, hM.fr.output, ?_, fun k hk' hO => ?_⟩
    · show _ ≤ (w.heap.setIfInBounds r x).size
      rw [hsz]; exact hM.fr.size
    · refine (q2 k ?_).trans (hM.fr.block k hk' hO)
      intro e; subst e
      rcases hown with h | h
      · exact hO h
      · omega
  · intro j ob' h
    simp only [fnd_upd1] at h
    by_cases e : j = id
    · subst e; simp at h; subst h; exact hn _ rfl q1
    · simp [e] at h
      refine repO_of hE rfl (fun c hc => q2 c ?_) (hM.obs j ob' h)
      intro e'; subst e'
      exact e (hM.inj j id c (by simp [h]) hi hc hb)
theorem mapUpdateEv_sound (hM : Mem K.O K.R0 K.w0 (cx us ob mu R w)) (T : TypeId) (x i y : TV) (vx vi vy : Value) (e : Eff) (h : ((mapUpdateEv P T x i y).run ob).to e) (hadd : adds ob us e.new = some (ob1, us')) (hx : repV (cx us ob mu R w) x vx) (hi : repV (cx us ob mu R w) i vi) (hy : repV (cx us ob mu R w) y vy) :
    ∃ w', (Instr.mapUpdate T vx vi vy).run P w = .ok () w' ∧ Does K us ob mu R w e us' ob1 undef w' := by
  unfold mapUpdateEv at h
  split at h
  · rename_i k v V hT
    obtain ⟨Kt, hu, hk, hv, lk, lv⟩ := mapTy_spec hT
    obtain ⟨d, hd, hkey, hsame⟩ := leaf_under hk lk
    split at h
    · rename_i a b id ha hb'
      have hkv := unTv_leaf lk ha hi
      have hyv := unTv_leaf lv hb' hy
      rw [GTr.run_get] at h
      split at h
      · rename_i k' v' xs ho
        split at h
        · rename_i hkk
          obtain ⟨rfl, rfl⟩ := hkk
          cases Tr.to_ret h
          cases hadd
          obtain ⟨_, _, r, es, h1, h2, h3⟩ := hM.obs id _ ho
          obtain ⟨r', e1, _, e2⟩ := hx
          have e2 := e2 (by simp [ho])
          rw [h1] at e2
          cases e2
          simp only [List.cons.injEq, and_true] at e1
          have hfind := find_rep (v := v') hsame a xs 0 0
          rw [← h3] at hfind
          have hw : (cx us ob mu R w).w = w := rfl
          rw [hw] at h2
          have hmu : mu id = some r := h1
          cases hf : mapFnd k' a xs with
          | none =>
            rw [hf] at hfind
            simp only at hfind
            refine ⟨_, ?_, mu, R, chg_step hM ho (o' := .map k' v' (mapPut k' a b xs)) ⟨rfl, rfl⟩ hmu h2 (.map (es.push { key := leafV k' a, val := leafV v' b, born := xs.length }) (xs.length + 1)) (fun w' hw' hx' => ?_) |>.1, (chg_step hM ho (o' := .map k' v' (mapPut k' a b xs)) ⟨rfl, rfl⟩ hmu h2 (.map (es.push { key := leafV k' a, val := leafV v' b, born := xs.length }) (xs.length + 1)) (fun w' hw' hx' => ?_)).2, rfl⟩
            · unfold Instr.mapUpdate
              simp only [Sem.run_bind, run_underlying hu, Result.andThen_ok, e1, MapKept.run_getObj_map h2, hkv, hyv, MapKept.run_checkKey hd (hkey a), MapKept.run_findKey hd hfind, MapKept.run_setObj_map _ h2]
            all_goals
              have e0 : mapPut k' a b xs = xs ++ [(a, b)] := by unfold mapPut; rw [hf]
              refine ⟨lk, lv, r, es.push { key := leafV k' a, val := leafV v' b, born := xs.length }, hmu, ?_, ?_⟩
              · rw [e0, List.length_append]; exact hx'
              · rw [e0, entL_append, Array.toList_push, h3, Nat.zero_add]; rfl
          | some p =>
            obtain ⟨j, y0⟩ := p
            rw [hf] at hfind
            simp only [Nat.zero_add] at hfind
            obtain ⟨⟨e0, g1, g2⟩, g3⟩ := entL_set (v := v') lk a b xs 0 j y0 hf
            rw [← h3] at g1
            have g1' : es[j]? = some e0 := by rw [← g1]; simp
            refine ⟨_, ?_, mu, R, chg_step hM ho (o' := .map k' v' (mapPut k' a b xs)) ⟨rfl, rfl⟩ hmu h2 (.map (es.modify j fun e => { e with key := leafV k' a, val := leafV v' b }) xs.length) (fun w' hw' hx' => ?_) |>.1, (chg_step hM ho (o' := .map k' v' (mapPut k' a b xs)) ⟨rfl, rfl⟩ hmu h2 (.map (es.modify j fun e => { e with key := leafV k' a, val := leafV v' b }) xs.length) (fun w' hw' hx' => ?_)).2, rfl⟩
            · unfold Instr.mapUpdate
              have hst : (Instr.keyThatStays (((es[j]?).map (·.key)).getD (leafV k' a)) (leafV k' a)).run P w = .ok (leafV k' a) w := by
                rw [g1']
                simp only [Option.map_some, Option.getD_some, g2]
                exact MapKept.run_keyThatStays (hkey a)
              simp only [Sem.run_bind, run_underlying hu, Result.andThen_ok, e1, MapKept.run_getObj_map h2, hkv, hyv, MapKept.run_checkKey hd (hkey a), MapKept.run_findKey hd hfind, hst, MapKept.run_setObj_map _ h2]
            all_goals
              have e0 : mapPut k' a b xs = xs.set j (a, b) := by unfold mapPut; rw [hf]
              refine ⟨lk, lv, r, es.modify j fun e => { e with key := leafV k' a, val := leafV v' b }, hmu, ?_, ?_⟩
              · rw [e0, List.length_set]; exact hx'
              · rw [e0, g3, Array.toList_modify, h3]
        · exact (Tr.to_fail h).elim
      · exact (Tr.to_fail h).elim
    · exact (Tr.to_fail h).elim
  · exact (Tr.to_fail h).elim
theorem makeMapEv_sound (hM : Mem K.O K.R0 K.w0 (cx us ob mu R w)) (T : TypeId) (r : Option TV) (vr : Option Value) (b : Nat) (e : Eff) (h : ((makeMapEv P T r b).run ob).to e) (hadd : adds ob us e.new = some (ob1, us')) (hr : repO' (cx us ob mu R w) r vr) :
    ∃ v w', (Instr.makeMap T vr).run P w = .ok v w' ∧ Does K us ob mu R w e us' ob1 v w' := by
  have fin : ∀ (k v : Ty), k.leaf = true → v.leaf = true → e = ⟨.mp b, [], [(b, .map k v [])]⟩ → Does K us ob mu R w e us' ob1 (.map (some w.heap.size)) (w.alloc (.map #[] 0)) := fun k v lk lv he => by
    subst he
    refine Does.mk (mu' := fun j => if j = b then some w.heap.size else mu j) (R' := R) rfl hadd (by simp [ids]) fun hbu => ?_
    have hg := Grow.alloc w (.map #[] 0)
    obtain ⟨q1, q2⟩ := MapKept.heap_alloc w (.map #[] 0)
    have hE := Ext.addNew (C := cx us ob mu R w) (id := b) (ob := .map k v []) (m := some w.heap.size) hM.rlt hbu hg
    rw [show ({ cx us ob mu R w with w := w.alloc (.map #[] 0) } : Cx) = cx us ob mu R (w.alloc (.map #[] 0)) from rfl, cx_add] at hE
    have hN := hM.addNew (id := b) (ob := .map k v []) (b := w.heap.size) (w' := w.alloc (.map #[] 0)) hbu hg (Nat.le_refl _) (by rw [alloc_size]; omega)
    rw [show ({ cx us ob mu R w with w := w.alloc (.map #[] 0) } : Cx) = cx us ob mu R (w.alloc (.map #[] 0)) from rfl, cx_add] at hN
    refine ⟨hE, hN ⟨lk, lv, w.heap.size, #[], by simp, q1, rfl⟩, w.heap.size, rfl, by simp, fun _ => by simp⟩
  unfold makeMapEv at h
  split at h
  · rename_i k v V hT
    obtain ⟨Kt, hu, hk, hv, lk, lv⟩ := mapTy_spec hT
    cases Tr.to_ret h
    cases vr with
    | some z => exact hr.elim
    | none => exact ⟨_, _, by simp [Instr.makeMap, Result.andThen], fin k v lk lv rfl⟩
  · rename_i k v V q n hT
    obtain ⟨Kt, hu, hk, hv, lk, lv⟩ := mapTy_spec hT
    cases Tr.to_ret h
    cases vr with
    | none => exact hr.elim
    | some z =>
      cases (show z = _ from hr)
      exact ⟨_, _, by simp [Instr.makeMap, run_underlying hu, asInt, asIntOf, Result.andThen], fin k v lk lv rfl⟩
  · exact (Tr.to_fail h).elim
end
end
end Go.Am
namespace Go.Am
noncomputable section
variable [PI : Inhabited Program]
section
variable {P : Program} {K : Ctx} {us us' : List Nat} {ob ob1 : List (Nat × Ob)} {mu : Nat → Option Nat} {R : Nat → Prop} {w : World}
theorem copySrc_to (hM : Mem K.O K.R0 K.w0 (cx us ob mu R w)) {y : TV} {vy : Value} {t : Ty} {k : List t.den → GTr Eff} {e : Eff} (h : ((copySrc y t k).run ob).to e) (hy : repV (cx us ob mu R w) y vy) :
    ∃ ys, ((k ys).run ob).to e ∧ Elems R w t ys vy := by
  unfold copySrc at h
  split at h
  · rename_i id2 p2
    obtain ⟨a, n, c, ev, hu, hp⟩ := hy
    simp only [List.cons.injEq, and_true] at ev
    subst ev
    rw [GTr.run_get] at h
    split at h
    · rename_i t2 ee ys ho
      split at h
      · rename_i heq
        subst heq
        obtain ⟨t', e', xs', heq, hs⟩ := hp _ ho
        cases heq
        exact ⟨_, h, Elems.of_row (hM.obs id2 _ ho) hs⟩
      · exact (Tr.to_fail h).elim
    · exact (Tr.to_fail h).elim
  · rename_i t2 ys
    split at h
    · rename_i heq
      subst heq
      exact ⟨_, h, Elems.of_ro hy⟩
    · exact (Tr.to_fail h).elim
  · cases (show vy = _ from hy)
    exact ⟨[], h, none, 0, [], rfl, Nat.le_refl _, rfl, .inl rfl⟩
  · exact (Tr.to_fail h).elim
theorem upd1_same (ob : List (Nat × Ob)) (id : Nat) (o : Ob) (h : fnd ob id = some o) : fnd (upd1 ob id (some o)) = fnd ob := by
  funext j
  rw [fnd_upd1]
  by_cases e : j = id
  · subst e; rw [if_pos rfl, h]
  · rw [if_neg e]
theorem copyEv_sound (hM : Mem K.O K.R0 K.w0 (cx us ob mu R w)) (T1 T2 ty : TypeId) (x y : TV) (vx vy : Value) (e : Eff) (h : ((copyEv P T1 x y).run ob).to e) (hadd : adds ob us e.new = some (ob1, us'))
    (hx : repV (cx us ob mu R w) x vx) (hy : repV (cx us ob mu R w) y vy) :
    ∃ v w', (Builtin.copy_ #[T1, T2] ty #[vx, vy]).run P w = .ok v w' ∧ Does K us ob mu R w e us' ob1 v w' := by
  unfold copyEv at h
  split at h
  · rename_i et id p hT
    obtain ⟨a, n, c, ev, hu, hp⟩ := hx
    simp only [List.cons.injEq, and_true] at ev
    subst ev
    rw [GTr.run_get] at h
    split at h
    · rename_i t e' xs ho
      split at h
      · rename_i hsz
        cases hcb : Nat.beq t.cells 1 with
        | false => rw [hcb] at h; exact (Tr.to_fail h).elim
        | true =>
          rw [hcb] at h
          simp only [cond_true] at h
          have hc1 := Nat.eq_of_beq_eq_true hcb
          obtain ⟨ys, h, hel⟩ := copySrc_to hM h hy
          cases Tr.to_ret h
          cases hadd
          have hsz' : (P.info? et).map (·.size) = some 1 := hsz
          obtain ⟨t', e2, xs', heq, hs⟩ := hp _ ho
          cases heq
          obtain ⟨sa, sc, news, rfl, hle, hrep, hwh⟩ := hel
          have hnl : n = partN xs.length p := by
            match p, hs with
            | none, .inl ⟨_, h2, _, h3, _⟩ => cases h3; exact h2.symm
            | none, .inr ⟨_, _, _, h2, _⟩ => cases h2; rfl
            | some (o, m), ⟨_, _, _, h1, _⟩ => cases h1; rfl
          rw [← hnl]
          have hnews : news.length = ys.length := by
            have := repL_len (fun x vs hx => repD_len t x vs hx) ys news hrep
            rw [hc1, Nat.mul_one] at this
            exact this
          by_cases hm : min ys.length n = 0
          · -- nothing goes over
            refine ⟨_, w, run_copy_none w T1 T2 ty et a sa n c ys.length sc hT hsz' hm, ?_⟩
            have e1 : putL xs (partO p) (ys.take (min ys.length n)) = xs := by
              rw [hm]
              simp [putL]
            rw [e1, hm]
            refine ⟨mu, R, ?_, ?_, rfl⟩
            · show Ext _ (cx us (upd1 ob id (some (.row t e' xs))) mu R w)
              rw [cx_fd (upd1_same ob id _ ho)]
              exact Ext.refl _
            · show Mem _ _ _ (cx us (upd1 ob id (some (.row t e' xs))) mu R w)
              rw [cx_fd (upd1_same ob id _ ho)]
              exact hM
          · have hn0 : 0 < n := by omega
            have hy0 : ys ≠ [] := fun e => hm (by rw [e]; simp)
            obtain ⟨b2, off2, rfl, hrange⟩ := hwh.resolve_left hy0
            -- where it goes
            obtain ⟨g, hg, ha, hth, hole⟩ : ∃ g, mu id = some g ∧ a = some ⟨g, partO p, none⟩ ∧ w.there g 0 (partO p + c) ∧ partO p + n ≤ xs.length ∧ n ≤ c := by
              match p, hs with
              | none, .inl ⟨_, h2, _, h3, _⟩ => cases h3; omega
              | none, .inr ⟨g, c', h1, h2, h3, h4⟩ =>
                cases h2
                have h4 : w.there g 0 (c * t.cells) := h4
                rw [hc1, Nat.mul_one] at h4
                exact ⟨g, h1, rfl, by simpa [partO] using h4, by simp [partO], h3⟩
              | some (o, m), ⟨h0, _, _, h1, h2, h3⟩ =>
                cases h1
                rcases h3 with h3 | ⟨g, h3, h4, h5⟩
                · omega
                · have h5 : w.there g 0 ((o + c) * t.cells) := h5
                  rw [hc1, Nat.mul_one] at h4 h5
                  exact ⟨g, h3, h4, h5, h0, h2⟩
            subst ha
            have hcs : (news.take (min ys.length n)).length = min ys.length n := by rw [List.length_take]; omega
            have hO := hM.obs id _ ho
            rcases hO with ⟨h5, _⟩ | ⟨g', vs, h5, h6, h7, h8, h9, tc, tfr, hty⟩
            · have h5 : mu id = none := h5
              rw [hg] at h5; cases h5
            · have h5 : mu id = some g' := h5
              rw [hg] at h5; cases h5
              have hvl : vs.length = xs.length := by
                have := repL_len (fun x vs hx => repD_len t x vs hx) xs vs h6
                rw [hc1, Nat.mul_one] at this
                exact this
              have hrun := run_copy_cells (P := P) w T1 T2 ty et g (partO p) n c ⟨b2, off2, none⟩ ys.length sc (news.take (min ys.length n)) hT hsz' (by rw [hcs])
                (fun j v hv => by
                  rw [Addr.add_mid]
                  refine hrange j v ?_
                  rw [List.getElem?_take] at hv
                  split at hv
                  · exact hv
                  · cases hv)
                (fun j hj => by have := (hth (partO p + j) (by omega)).1; rwa [Nat.zero_add] at this)
                (fun j hj => by have := (hth (partO p + j) (by omega)).2; rwa [Nat.zero_add] at this)
                (fun v hv => repL_one (fun x vs hx => repD_one t x vs hx) ys news hrep v (List.mem_of_mem_take hv))
              refine ⟨_, _, hrun, ?_⟩
              -- elements
              obtain ⟨p1, m1, q1, e1, e2, e3⟩ := repL_cut (fun x vs hx => repD_len t x vs hx) h6 (partO p) (min ys.length n) (by omega)
              rw [hc1, Nat.mul_one] at e2
              subst e1
              have hm1 : m1.length = min ys.length n := by
                have := repL_len (fun x vs hx => repD_len t x vs hx) _ m1 e3
                rw [hc1, Nat.mul_one, List.length_take, List.length_drop] at this
                omega
              have hsplit : repL (repD R w t) (xs.take (partO p)) p1 ∧ repL (repD R w t) (xs.drop (partO p + min ys.length n)) q1 := by
                have hx : xs = xs.take (partO p) ++ ((xs.drop (partO p)).take (min ys.length n) ++ xs.drop (partO p + min ys.length n)) := by
                  rw [← List.drop_drop, List.take_append_drop, List.take_append_drop]
                have h6' := h6
                rw [hx] at h6'
                obtain ⟨a1, b1, k1, k2, k3⟩ := repL_split _ _ _ h6'
                obtain ⟨a2, b2, k4, k5, k6⟩ := repL_split _ _ _ k3
                have l1 := repL_len (fun x vs hx => repD_len t x vs hx) _ a1 k2
                rw [hc1, Nat.mul_one, List.length_take] at l1
                have l2 := repL_len (fun x vs hx => repD_len t x vs hx) _ a2 k5
                rw [hc1, Nat.mul_one, List.length_take, List.length_drop] at l2
                rw [k4, List.append_assoc] at k1
                have k1 := List.append_inj k1 (by omega)
                have k7 := List.append_inj k1.2 (by omega)
                rw [k1.1, k7.2]
                exact ⟨k2, k6⟩
              have hsrc : repL (repD R w t) (ys.take (min ys.length n)) (news.take (min ys.length n)) := by
                have hx : ys = ys.take (min ys.length n) ++ ys.drop (min ys.length n) := by rw [List.take_append_drop]
                have h6' := hrep
                rw [hx] at h6'
                obtain ⟨a1, b1, k1, k2, k3⟩ := repL_split _ _ _ h6'
                have l1 := repL_len (fun x vs hx => repD_len t x vs hx) _ a1 k2
                rw [hc1, Nat.mul_one, List.length_take] at l1
                have : news.take (min ys.length n) = a1 := by
                  rw [k1, List.take_append_of_le_length (by omega), List.take_of_length_le (by omega)]
                rw [this]
                exact k2
              have hput : putL xs (partO p) (ys.take (min ys.length n)) = xs.take (partO p) ++ ys.take (min ys.length n) ++ xs.drop (partO p + min ys.length n) := by
                unfold putL
                rw [List.length_take, show min (min ys.length n) ys.length = min ys.length n by omega]
              have hlen : xs.length = (putL xs (partO p) (ys.take (min ys.length n))).length := by
                rw [hput]
                simp
                omega
              obtain ⟨hE2, hM2⟩ := store_step hM ho (o' := .row t e' (putL xs (partO p) (ys.take (min ys.length n)))) ⟨rfl, rfl, hlen⟩ hg (off := partO p) (ys := news.take (min ys.length n)) fun hE2 => by
                have mono : ∀ (l : List t.den) (us : List Value), repL (repD R w t) l us → repL (repD R (w.setCells g (partO p) (news.take (min ys.length n))) t) l us := fun l us hl => repL_mono (fun x vs hx => repD_mono hE2.R hE2.size hE2.blk t x vs hx) l us hl
                refine .inr ⟨g, p1 ++ news.take (min ys.length n) ++ q1, hg, ?_, ?_, ?_, by show g < (w.setCells _ _ _).heap.size; rw [setCells_size]; exact h9, setCells_kind hty _ _⟩
                · rw [hput]
                  exact repL_append _ _ _ _ (repL_append _ _ _ _ (mono _ _ hsplit.1) (mono _ _ hsrc)) (mono _ _ hsplit.2)
                · have := rangeAt_setCells (ys := news.take (min ys.length n)) h7 h8 (by omega)
                  rw [Nat.zero_add, e2] at this
                  exact this
                · have : (p1 ++ news.take (min ys.length n) ++ q1).length = (p1 ++ m1 ++ q1).length := by simp; omega
                  rw [this]
                  exact World.there_setCells h8 g (partO p) _
              rw [hcs]
              exact ⟨mu, R, hE2, hM2, rfl⟩
      · exact (Tr.to_fail h).elim
    · exact (Tr.to_fail h).elim
  · exact (Tr.to_fail h).elim
end
end
end Go.Am
namespace Go.Am
noncomputable section
variable [PI : Inhabited Program]
section
variable {P : Program} {K : Ctx} {us us' : List Nat} {ob ob1 : List (Nat × Ob)} {mu : Nat → Option Nat} {R : Nat → Prop} {w : World}
def Ran (P : Program) (o : Oper) (a : Act) (w : World) (K : Ctx) (us : List Nat) (ob : List (Nat × Ob)) (mu : Nat → Option Nat) (R : Nat → Prop) (e : Eff) (us' : List Nat) (ob1 : List (Nat × Ob)) : Prop :=
  ∃ v w', ((execOp a.eval o).run P w = .ok (.value v) w' ∨ ((execOp a.eval o).run P w = .ok .skip w' ∧ v = undef)) ∧ Does K us ob mu R w e us' ob1 v w'
theorem Ran.wp {o : Oper} {a : Act} {e : Eff} (h : Ran P o a w K us ob mu R e us' ob1) {next : Act → World → Prop} {Q : Exit → Act → World → Prop} (hn : ∀ v w', Does K us ob mu R w e us' ob1 v w' → next (a.put o.dst v) w') : o.wp P a w next Q := by
  obtain ⟨v, w', hr | ⟨hr, rfl⟩, hD⟩ := h
  · unfold Oper.wp; rw [hr]; exact hn v w' hD
  · unfold Oper.wp; rw [hr]; exact hn undef w' hD
theorem run_v {s : Sem Value} {v : Value} {w w' : World} (h : s.run P w = .ok v w') : (do pure (.value (← s)) : Sem Next).run P w = .ok (.value v) w' := by
  rw [Sem.run_bind, h]; rfl
theorem run_u {s : Sem Unit} {w w' : World} (h : s.run P w = .ok () w') : (do s; pure .skip : Sem Next).run P w = .ok .skip w' := by
  rw [Sem.run_bind, h]; rfl
theorem Quiet.does (hM : Mem K.O K.R0 K.w0 (cx us ob mu R w)) {e : Eff} {v : Value} (h : Quiet (cx us ob mu R w) e v) (hadd : adds ob us e.new = some (ob1, us')) : Does K us ob mu R w e us' ob1 v w :=
  Does.quiet hM hadd h.1 h.2.1 h.2.2
theorem moveEv_sound (hM : Mem K.O K.R0 K.w0 (cx us ob mu R w)) {T : TypeId} {x : TV} {v : Value} {b : Nat} {e : Eff} (h : ((moveEv P T x b).run ob).to e) (hadd : adds ob us e.new = some (ob1, us')) (hv : repV (cx us ob mu R w) x v) : Does K us ob mu R w e us' ob1 v w := by
  unfold moveEv at h
  split at h
  · rename_i y u hn
    cases Tr.to_ret h
    obtain ⟨mu', h1, h2, h3⟩ := norm_step hM hn hadd hv
    exact ⟨mu', R, h1, h2, h3⟩
  · exact (Tr.to_fail h).elim
theorem PartsRep_map {C : Cx} {ρ : Operand → TV} {ev : Operand → Value} (h : ∀ x, repV C (ρ x) (ev x)) : ∀ (l : List (Nat × Operand)), PartsRep C (l.map fun (i, x) => (i, ρ x)) (l.map fun (i, x) => (i, ev x))
  | [] => rfl
  | (i, x) :: l => ⟨_, _, rfl, h x, PartsRep_map h l⟩
theorem repVL_map {C : Cx} {ρ : Operand → TV} {ev : Operand → Value} (h : ∀ x, repV C (ρ x) (ev x)) : ∀ (l : List Operand), repVL C (l.map ρ) (l.map ev)
  | [] => rfl
  | x :: l => ⟨_, _, rfl, h x, repVL_map h l⟩
theorem repVL_get {C : Cx} : ∀ (l : List TV) (vs : List Value) (i : Nat) (y : TV), repVL C l vs → l[i]? = some y → ∃ v, vs[i]? = some v ∧ repV C y v
  | [], vs, i, y, h, hi => by simp at hi
  | x :: l, _, 0, y, ⟨v, r, e, h1, h2⟩, hi => by simp at hi; subst hi; subst e; exact ⟨v, rfl, h1⟩
  | x :: l, _, i + 1, y, ⟨v, r, e, h1, h2⟩, hi => by
    simp at hi
    obtain ⟨v', h3, h4⟩ := repVL_get l r i y h2 hi
    subst e
    exact ⟨v', by simpa using h3, h4⟩
theorem builtin_sound (hM : Mem K.O K.R0 K.w0 (cx us ob mu R w)) (bi : Builtin) (Ts : List TypeId) (ty : TypeId) (cs : Array Bool) (xs : List TV) (vs : List Value) (b : Nat) (e : Eff) (h : ((builtinEv P bi Ts xs b).run ob).to e) (hadd : adds ob us e.new = some (ob1, us')) (hv : repVL (cx us ob mu R w) xs vs) :
    ∃ v w', (builtin bi Ts.toArray ty cs vs.toArray).run P w = .ok (.value v) w' ∧ Does K us ob mu R w e us' ob1 v w' := by
  unfold builtinEv at h
  split at h
  · obtain ⟨v1, r, e1, h1, v2, r2, e2, h2, h3⟩ := hv
    subst e1; subst e2
    cases (show r2 = [] from h3)
    rename_i T1 T2 x y
    unfold app2 at h
    split at h
    · rename_i kn k n hT2
      cases (show v1 = _ from h1)
      cases (show v2 = _ from h2)
      obtain ⟨v, w', hr, hD⟩ := zerosEv_sound (ob1 := ob1) (us' := us') hM T1 T2 ty k kn hT2 n b e h hadd
      exact ⟨v, w', run_v hr, hD⟩
    · obtain ⟨v, w', hr, hD⟩ := appEv_sound (ob1 := ob1) (us' := us') hM T1 T2 ty _ _ v1 v2 b e h hadd h1 h2
      exact ⟨v, w', run_v hr, hD⟩
  · rename_i T1 T2 x y
    obtain ⟨v1, r, e1, h1, v2, r2, e2, h2, h3⟩ := hv
    subst e1; subst e2
    cases (show r2 = [] from h3)
    obtain ⟨v, w', hr, hD⟩ := copyEv_sound (ob1 := ob1) (us' := us') hM T1 T2 ty _ _ v1 v2 e h hadd h1 h2
    exact ⟨v, w', run_v hr, hD⟩
  · rename_i T rest x
    obtain ⟨v1, r, e1, h1, h3⟩ := hv
    subst e1
    cases (show r = [] from h3)
    obtain ⟨v, hr, hQ⟩ := capEv_sound (P := P) ob T ty x v1 rest e h h1
    exact ⟨v, w, run_v hr, hQ.does hM hadd⟩
  · rename_i T rest x
    obtain ⟨v1, r, e1, h1, h3⟩ := hv
    subst e1
    cases (show r = [] from h3)
    obtain ⟨v, hr, hQ⟩ := lenMEv_sound (P := P) hM T ty x v1 rest e h h1
    exact ⟨v, w, run_v hr, hQ.does hM hadd⟩
  · obtain ⟨z, hz, he⟩ := pureT_to h
    subst he
    obtain ⟨v, hr, hz⟩ := mxEv_sound (P := P) true Ts.toArray ty xs vs z hz hv w
    exact ⟨v, w, run_v hr, Does.quiet hM hadd rfl rfl hz⟩
  · obtain ⟨z, hz, he⟩ := pureT_to h
    subst he
    obtain ⟨v, hr, hz⟩ := mxEv_sound (P := P) false Ts.toArray ty xs vs z hz hv w
    exact ⟨v, w, run_v hr, Does.quiet hM hadd rfl rfl hz⟩
  · exact (Tr.to_fail h).elim
theorem allocEv_sound (hM : Mem K.O K.R0 K.w0 (cx us ob mu R w)) {T : TypeId} {b : Nat} {e : Eff} (h : ((allocEv P T b).run ob).to e) (hadd : adds ob us e.new = some (ob1, us')) :
    ∃ v w', (Instr.alloc T true (.tuple #[])).run P w = .ok v w' ∧ Does K us ob mu R w e us' ob1 v w' := by
  unfold allocEv at h
  split at h
  · rename_i z hz
    split at h
    · rename_i x u _ hc
      cases Tr.to_ret h
      cases hi : P.info? T with
      | none => simp [hi] at hz
      | some i =>
        have hz' : i.zero = some z := by simpa [hi] using hz
        obtain ⟨ob2, us2, ha1, ha2⟩ := adds_append _ _ _ _ _ _ hadd
        obtain ⟨mu1, hE1, hM1, hr1⟩ := ofCells_step hM hc ha1
        obtain ⟨hb, rfl, rfl⟩ := adds_one ha2
        obtain ⟨hE2, hM2, hv2⟩ := new_var_cells (T := T) hM1 hb hr1
        exact ⟨_, _, run_alloc hi hz' w, _, R, hE1.trans hE2, hM2, hv2⟩
    · exact (Tr.to_fail h).elim
  · exact (Tr.to_fail h).elim
theorem single_rep {C : Cx} {x : TV} {v : Value} (hs : single x = true) : repV C x v ↔ repC C x [v] := by
  cases x with
  | v c => exact ⟨fun h => by rw [show v = c from h]; exact ⟨rfl, oneC_iff c hs⟩, fun h => by have h1 := h.1; simp at h1; exact h1⟩
  | agg fs => cases hs
  | arr t n xs => cases hs
  | tup l => cases hs
  | dead => cases hs
  | adr id p => exact Iff.rfl
  | sl id p => exact Iff.rfl
  | ro t xs => exact Iff.rfl
  | radr t xs p => exact Iff.rfl
  | clo g cap => exact Iff.rfl
  | mp id => exact Iff.rfl
  | yv id => exact Iff.rfl
  | fv n => exact Iff.rfl
theorem single_cells {x : TV} (hs : single x = true) : x.cells = 1 := by
  cases x <;> first | rfl | cases hs
theorem singles_V {C : Cx} : ∀ (l : List TV) (vs : List Value), l.all single = true → repCL C l vs → repVL C l vs
  | [], _, _, h => h
  | x :: l, _, hs, ⟨a, b, e, h1, h2⟩ => by
    rw [List.all_cons, Bool.and_eq_true] at hs
    have hl := repC_len x a h1
    rw [single_cells hs.1] at hl
    obtain ⟨v, rfl⟩ := List.length_eq_one_iff.1 hl
    exact ⟨v, b, e, (single_rep hs.1).2 h1, singles_V l b hs.2 h2⟩
theorem singles_C {C : Cx} : ∀ (l : List TV) (vs : List Value), l.all single = true → repVL C l vs → repCL C l vs
  | [], _, _, h => h
  | x :: l, _, hs, ⟨v, r, e, h1, h2⟩ => by
    rw [List.all_cons, Bool.and_eq_true] at hs
    exact ⟨[v], r, e, (single_rep hs.1).1 h1, singles_C l r hs.2 h2⟩
theorem fnOf_spec {C : Cx} {x : TV} {g : FuncId} {cap : List TV} (h : fnOf x = some (g, cap)) {v : Value} (hv : repV C x v) : ∃ cs : List Value, v = .func (.func g) #[] cs.toArray ∧ repVL C cap cs := by
  unfold fnOf at h
  split at h
  · rename_i f a c
    split at h
    · rename_i ha hc
      cases h
      have e1 : a = #[] := by cases a; simp at ha; subst ha; rfl
      have e2 : c = #[] := by cases c; simp at hc; subst hc; rfl
      exact ⟨[], by rw [show v = _ from hv, e1, e2], rfl⟩
    · cases h
  · rename_i g' cap'
    cases hs : cap'.all single with
    | false => rw [hs] at h; cases h
    | true =>
      rw [hs] at h
      cases h
      obtain ⟨cs, e, h1⟩ := hv
      exact ⟨cs, by simpa using e, singles_V _ _ hs h1⟩
  · cases h
theorem binGEv_sound (hM : Mem K.O K.R0 K.w0 (cx us ob mu R w)) (op : BinOp) (T : TypeId) (x y : Operand) (X Y : TV) (vx vy : Value) (e : Eff) (h : ((binGEv P op T X Y).run ob).to e) (hx : repV (cx us ob mu R w) X vx) (hy : repV (cx us ob mu R w) Y vy) :
    ∃ v, (do eqGuard op T x y vx vy; binOp op T vx vy : Sem Value).run P w = .ok v w ∧ Quiet (cx us ob mu R w) e v := by
  unfold binGEv at h
  split at h
  · rename_i i p j q
    unfold ptrEqEv at h
    rw [GTr.run_get] at h
    split at h
    · rename_i o ho
      cases hb : Nat.beq i j && (stsB p q && ptrOk P T) with
      | false => rw [hb] at h; exact (Tr.to_fail h).elim
      | true =>
        rw [hb] at h
        simp only [Bool.and_eq_true] at hb
        have e1 := Nat.eq_of_beq_eq_true hb.1
        subst e1
        have e2 := stsB_eq hb.2.1
        subst e2
        obtain ⟨a, ea, _, ha⟩ := hx
        obtain ⟨a', ea', _, ha'⟩ := hy
        obtain ⟨b1, g1, g2⟩ := ha (by show (fnd ob i).isSome = true; rw [ho]; rfl)
        obtain ⟨b2, g3, g4⟩ := ha' (by show (fnd ob i).isSome = true; rw [ho]; rfl)
        cases g1.symm.trans g3
        cases ea
        cases ea'
        rw [← g2] at g4
        subst g4
        have hp := hb.2.2
        unfold ptrOk at hp
        split at hp
        · rename_i te hT
          obtain ⟨jj, hj⟩ := Option.isSome_iff_exists.1 hp
          have h0 : ∀ d : Nat, (Op.equalIn (d + 1) T (.pointer (some a')) (.pointer (some a'))).run P w = .ok true w := fun d => by
            simp [Op.equalIn, run_underlying hT, sizeOf, typeInfo, hj, run_sameAddr_same]
          split at h
          · cases Tr.to_ret h
            refine ⟨_, ?_, rfl, rfl, rfl⟩
            simp only [Sem.run_bind, eqGuard_ptr, Result.andThen_ok]
            simp only [binOp]
            simp [Op.equal, Op.maxDepth, h0 9999]
          · cases Tr.to_ret h
            refine ⟨_, ?_, rfl, rfl, rfl⟩
            simp only [Sem.run_bind, eqGuard_ptr, Result.andThen_ok]
            simp only [binOp]
            simp [Op.equal, Op.maxDepth, h0 9999]
          · exact (Tr.to_fail h).elim
        · cases hp
    · exact (Tr.to_fail h).elim
  · obtain ⟨z, hz, he⟩ := pureT_to h
    subst he
    obtain ⟨v, hr, hv⟩ := binEv2_sound op T x y _ _ z _ _ hz hx hy w
    exact ⟨v, hr, rfl, rfl, hv⟩
theorem convGEv_sound (hM : Mem K.O K.R0 K.w0 (cx us ob mu R w)) (S T : TypeId) (X : TV) (vx : Value) (b : Nat) (e : Eff) (h : ((convGEv P S T X b).run ob).to e) (hx : repV (cx us ob mu R w) X vx) :
    (∃ v, (convert S T vx).run P w = .ok v w ∧ Quiet (cx us ob mu R w) e v) ∨ ((convEv P S T X b).run ob).to e := by
  unfold convGEv at h
  split at h
  · rename_i id p
    left
    unfold convPEv at h
    rw [GTr.run_get] at h
    split at h
    · rename_i U x ho
      have hx' := hx
      obtain ⟨a, ea, _, ha⟩ := hx
      obtain ⟨bl, g1, g2⟩ := ha (by show (fnd ob id).isSome = true; rw [ho]; rfl)
      cases ea
      subst g2
      obtain ⟨bl', vs, k1, k2, k3, k4, c, fr, k5, k6⟩ := hM.obs id _ ho
      cases k1.symm.trans g1
      have hsh : w.shape? bl = some (U, c.size) := by
        unfold World.shape?
        rw [show w.heap[bl]? = _ from k5]
      have hlen := repC_len x vs k2
      split at h
      · rename_i t hS hT
        split at h
        · rename_i m hm
          cases hb : Nat.blt (offP p) x.cells with
          | false => rw [hb] at h; exact (Tr.to_fail h).elim
          | true =>
            rw [hb] at h
            have hlt : offP p < x.cells := by rw [Nat.blt_eq] at hb; exact hb
            cases Tr.to_ret h
            obtain ⟨jj, hj, hjs⟩ := Option.map_eq_some_iff.1 hm
            exact ⟨_, Lib.run_to_unsafe w ⟨bl, offP p, none⟩ hS hT hj (by rw [hjs]; omega) hsh (by show offP p < c.size; omega), rfl, rfl, hx'⟩
        · exact (Tr.to_fail h).elim
      · rename_i u hS hT
        cases hb : (P.info? u).isSome && lies P U x.cells (offP p) u with
        | false => rw [hb] at h; exact (Tr.to_fail h).elim
        | true =>
          rw [hb] at h
          rw [Bool.and_eq_true] at hb
          cases Tr.to_ret h
          obtain ⟨jj, hj⟩ := Option.isSome_iff_exists.1 hb.1
          refine ⟨_, Lib.run_from_unsafe w ⟨bl, offP p, none⟩ hS hT hj hsh ?_, rfl, rfl, hx'⟩
          have := hb.2
          unfold lies at this
          rw [show c.size = x.cells by omega]
          exact this
      · exact (Tr.to_fail h).elim
    · exact (Tr.to_fail h).elim
  · exact .inr h
theorem op_ran (E : Env) {st : St} {a : Act} (hS : Sim K st a mu R w) (o : Oper) (b : Nat) (e : Eff) (h : ((opEv E (tvE st.tm) o b).run st.ob).to e) (hadd : adds st.ob st.us e.new = some (ob1, us')) :
    Ran E.P o a w K st.us st.ob mu R e us' ob1 ∨ ∃ c f, o.op = .call c ∧ c.callee = .value f ∧ ((callvEv E (tvE st.tm f) c.argTypes.toList (c.args.toList.map (tvE st.tm)) b).run st.ob).to e := by
  have hM := hS.mem
  unfold opEv at h
  split at h
  · -- move
    rename_i x ho
    refine .inl ⟨_, w, .inl (by unfold execOp; simp only [ho]; rfl), ?_⟩
    unfold move0Ev at h
    cases hr : rawNil (tvE st.tm x) with
    | false => rw [hr] at h; exact moveEv_sound hM h hadd (hS.eval x)
    | true =>
      rw [hr] at h
      cases Tr.to_ret h
      exact Does.quiet hM hadd rfl rfl (hS.eval x)
  · rename_i x ho
    exact .inl ⟨_, w, .inl (by unfold execOp; simp only [ho]; rfl), moveEv_sound hM h hadd (hS.eval x)⟩
  · -- pick
    rename_i c x y ho
    unfold pickEv at h
    split at h
    · rename_i q hq
      have hc := hS.eval c
      rw [hq] at hc
      have hc : a.eval c = .bool q := hc
      rcases Tr.to_ite h with ⟨hb, h⟩ | ⟨hb, h⟩
      · cases Tr.to_ret h
        subst hb
        exact .inl ⟨a.eval x, w, .inl (by unfold execOp; simp only [ho, hc]; rfl), Does.quiet hM hadd rfl rfl (hS.eval x)⟩
      · cases Tr.to_ret h
        subst hb
        exact .inl ⟨a.eval y, w, .inl (by unfold execOp; simp only [ho, hc]; rfl), Does.quiet hM hadd rfl rfl (hS.eval y)⟩
    · exact (Tr.to_fail h).elim
  · -- alloc
    rename_i T ho
    obtain ⟨v, w', hr, hD⟩ := allocEv_sound hM h hadd
    exact .inl ⟨v, w', .inl (by unfold execOp; simp only [ho]; exact run_v hr), hD⟩
  · -- box
    rename_i T x ho
    unfold boxEv at h
    split at h
    · rename_i y u hn
      cases hs : y.solid with
      | false => rw [hs] at h; exact (Tr.to_fail h).elim
      | true =>
        rw [hs] at h
        cases Tr.to_ret h
        obtain ⟨mu', h1, h2, h3⟩ := box_sound (T := T) hM hn hs (hS.eval x) hadd
        exact .inl ⟨_, _, .inl (by unfold execOp; simp only [ho]; exact run_v (run_box T _ w)), mu', R, h1, h2, h3⟩
    · exact (Tr.to_fail h).elim
  · -- build
    rename_i T parts ho
    obtain ⟨v, w', hr, hD⟩ := buildEv_sound hM T _ _ b e h hadd (PartsRep_map hS.eval parts.toList)
    refine .inl ⟨v, w', .inl ?_, hD⟩
    unfold execOp; simp only [ho]
    refine run_v ?_
    rw [← hr]
    congr 2
    apply Array.ext'
    simp
  · -- buildSlice
    rename_i T n parts ho
    obtain ⟨v, w', hr, hD⟩ := buildSliceEv_sound hM T n _ _ b e h hadd (PartsRep_map hS.eval parts.toList)
    refine .inl ⟨v, w', .inl ?_, hD⟩
    unfold execOp; simp only [ho]
    refine run_v ?_
    rw [← hr]
    congr 2
    apply Array.ext'
    simp
  · -- load
    rename_i T x ho
    obtain ⟨h1, h2, v, hr, hv⟩ := loadEv_sound st.ob rfl hM T _ _ e h (hS.eval x)
    exact .inl ⟨v, w, .inl (by unfold execOp; simp only [ho]; exact run_v hr), Does.quiet hM hadd h1 h2 hv⟩
  · -- store
    rename_i T x y ho
    obtain ⟨w', hr, hD⟩ := storeEv_sound hM T _ _ _ _ b e h hadd (hS.eval x) (hS.eval y)
    exact .inl ⟨undef, w', .inr ⟨by unfold execOp; simp only [ho]; exact run_u hr, rfl⟩, hD⟩
  · -- nilCheck
    rename_i x ho
    have hx := hS.eval x
    unfold nilEv at h
    split at h
    · rename_i id p hq
      rw [hq] at hx
      cases Tr.to_ret h
      have hx' := hx
      obtain ⟨ad, e1, _⟩ := hx'
      simp only [List.cons.injEq, and_true] at e1
      exact .inl ⟨a.eval x, w, .inl (by unfold execOp; simp only [ho, e1]; rfl), Does.quiet hM hadd rfl rfl hx⟩
    · rename_i t xs p hq
      rw [hq] at hx
      cases Tr.to_ret h
      have hx' := hx
      obtain ⟨b, off, cs, e1, _⟩ := hx'
      simp only [List.cons.injEq, and_true] at e1
      exact .inl ⟨a.eval x, w, .inl (by unfold execOp; simp only [ho, e1]; rfl), Does.quiet hM hadd rfl rfl hx⟩
    · rename_i f aa cc hq
      rw [hq] at hx
      cases Tr.to_ret h
      have e1 : a.eval x = .func (.func f) aa cc := hx
      exact .inl ⟨a.eval x, w, .inl (by unfold execOp; simp only [ho, e1]; rfl), Does.quiet hM hadd rfl rfl hx⟩
    · rename_i g cap hq
      rw [hq] at hx
      cases Tr.to_ret h
      have hx' := hx
      obtain ⟨cs, e1, _⟩ := hx'
      simp only [List.cons.injEq, and_true] at e1
      exact .inl ⟨a.eval x, w, .inl (by unfold execOp; simp only [ho, e1]; rfl), Does.quiet hM hadd rfl rfl hx⟩
    · exact (Tr.to_fail h).elim
  · -- binOp
    rename_i op T x y _ ho
    obtain ⟨v, hr, hQ⟩ := binGEv_sound hM op T x y _ _ _ _ e h (hS.eval x) (hS.eval y)
    exact .inl ⟨v, w, .inl (by unfold execOp; simp only [ho]; exact run_v hr), hQ.does hM hadd⟩
  · -- unOp
    rename_i op _ x ho
    have hx := hS.eval x
    unfold unEv at h
    split at h
    · rename_i k n hq
      rw [hq] at hx
      have e1 : a.eval x = .int k n := hx
      obtain ⟨z, hz, he⟩ := pureT_to h
      subst he
      cases Tr.to_ret hz
      exact .inl ⟨_, w, .inl (by unfold execOp; simp only [ho, e1]; exact run_v rfl), Does.quiet hM hadd rfl rfl rfl⟩
    · rename_i q hq
      rw [hq] at hx
      have e1 : a.eval x = .bool q := hx
      obtain ⟨z, hz, he⟩ := pureT_to h
      subst he
      cases Tr.to_ret hz
      exact .inl ⟨_, w, .inl (by unfold execOp; simp only [ho, e1]; exact run_v rfl), Does.quiet hM hadd rfl rfl rfl⟩
    · rename_i k n hq
      rw [hq] at hx
      have e1 : a.eval x = .int k n := hx
      obtain ⟨z, hz, he⟩ := pureT_to h
      subst he
      cases Tr.to_ret hz
      exact .inl ⟨_, w, .inl (by unfold execOp; simp only [ho, e1]; exact run_v rfl), Does.quiet hM hadd rfl rfl rfl⟩
    · exact (Tr.to_fail h).elim
  · -- convert
    rename_i S T x ho
    rcases convGEv_sound hM S T _ _ b e h (hS.eval x) with ⟨v, hr, hQ⟩ | h
    · exact .inl ⟨v, w, .inl (by unfold execOp; simp only [ho]; exact run_v hr), hQ.does hM hadd⟩
    rcases convQuiet_sound (P := E.P) (C := cx st.us st.ob mu R w) st.ob rfl hM S T _ _ b e h (hS.eval x) with ⟨v, hr, hQ⟩ | ⟨s, et, e1, hS', hT, hE, hb, he⟩
    · exact .inl ⟨v, w, .inl (by unfold execOp; simp only [ho]; exact run_v hr), hQ.does hM hadd⟩
    · subst he
      obtain ⟨v, w', hr, hD⟩ := conv_bytes hM hS' hT hE hadd
      exact .inl ⟨v, w', .inl (by unfold execOp; simp only [ho, e1]; exact run_v hr), hD⟩
  · -- makeSlice
    rename_i T n c ho
    obtain ⟨v, w', hr, hD⟩ := makeEv_sound hM T _ _ _ _ b e h hadd (hS.eval n) (hS.eval c)
    exact .inl ⟨v, w', .inl (by unfold execOp; simp only [ho]; exact run_v hr), hD⟩
  · -- slice
    rename_i T x lo hi ho
    have hopt : ∀ o : Option Operand, repO' (cx st.us st.ob mu R w) (o.map (tvE st.tm)) (o.map a.eval) := fun o => by
      cases o with
      | none => trivial
      | some x => exact hS.eval x
    obtain ⟨v, hr, hQ⟩ := sliceEv_sound st.ob rfl T _ _ _ _ _ _ (hopt lo) (hopt hi) e h (hS.eval x)
    exact .inl ⟨v, w, .inl (by unfold execOp; simp only [ho]; exact run_v hr), hQ.does hM hadd⟩
  · -- slice, of three
    rename_i T x hi mx ho
    obtain ⟨v, hr, hQ⟩ := slice3Ev_sound st.ob rfl T _ _ _ _ _ _ e h (hS.eval x) (hS.eval hi) (hS.eval mx)
    exact .inl ⟨v, w, .inl (by unfold execOp; simp only [ho]; exact run_v hr), hQ.does hM hadd⟩
  · -- slice, of four
    rename_i T x lo hi mx ho
    obtain ⟨v, hr, hQ⟩ := slice4Ev_sound st.ob rfl T _ _ _ _ _ _ _ _ e h (hS.eval x) (hS.eval lo) (hS.eval hi) (hS.eval mx)
    exact .inl ⟨v, w, .inl (by unfold execOp; simp only [ho]; exact run_v hr), hQ.does hM hadd⟩
  · -- fieldAddr
    rename_i S x k ho
    obtain ⟨z, hz, he⟩ := pureT_to h
    subst he
    obtain ⟨v, hr, hv⟩ := fieldAddrEv_sound S _ z k _ hz (hS.eval x) w
    exact .inl ⟨v, w, .inl (by unfold execOp; simp only [ho]; exact run_v hr), Does.quiet hM hadd rfl rfl hv⟩
  · -- field
    rename_i S x k ho
    obtain ⟨z, hz, he⟩ := pureT_to h
    subst he
    obtain ⟨v, hr, hv⟩ := fieldEv_sound S _ z k _ hz (hS.eval x) w
    exact .inl ⟨v, w, .inl (by unfold execOp; simp only [ho]; exact run_v hr), Does.quiet hM hadd rfl rfl hv⟩
  · -- indexAddr
    rename_i T x i ho
    obtain ⟨v, hr, hQ⟩ := idxAddrEv_sound st.ob rfl T _ _ _ _ e h (hS.eval x) (hS.eval i)
    exact .inl ⟨v, w, .inl (by unfold execOp; simp only [ho]; exact run_v hr), hQ.does hM hadd⟩
  · -- index
    rename_i T x i ho
    obtain ⟨v, hr, hQ⟩ := idxEv_sound st.ob T _ _ _ _ e h (hS.eval x) (hS.eval i) w
    exact .inl ⟨v, w, .inl (by unfold execOp; simp only [ho]; exact run_v hr), hQ.does hM hadd⟩
  · -- extract
    rename_i x i ho
    have hx := hS.eval x
    unfold extractEv at h
    split at h
    · rename_i vs hq
      rw [hq] at hx
      obtain ⟨l, e1, hl⟩ := hx
      split at h
      · rename_i y hy
        cases Tr.to_ret h
        obtain ⟨v, h1, h2⟩ := repVL_get vs l i y hl hy
        exact .inl ⟨v, w, .inl (by unfold execOp; simp only [ho, e1]; exact run_v (by simp [Instr.extract, h1])), Does.quiet hM hadd rfl rfl h2⟩
      · exact (Tr.to_fail h).elim
    · exact (Tr.to_fail h).elim
  · -- call
    rename_i c ho
    split at h
    · rename_i bi hb
      obtain ⟨v, w', hr, hD⟩ := builtin_sound (P := E.P) hM bi c.argTypes.toList o.type (c.args.map fun | .const _ => true | _ => false) _ _ b e h hadd (repVL_map hS.eval c.args.toList)
      refine .inl ⟨v, w', .inl ?_, hD⟩
      unfold execOp; simp only [ho]
      rw [Sem.run_bind]
      simp only [resolve, hb, Sem.run_pure, Result.andThen_ok, invoke]
      rw [← hr]
      congr 2
      apply Array.ext'
      simp
    · rename_i f hf
      exact .inr ⟨c, f, ho, hf, h⟩
    · exact (Tr.to_fail h).elim
  · -- makeFunc
    rename_i fn first cap ho
    unfold makeFuncEv at h
    split at h
    · rename_i g hf
      have hf' : first = #[] := by
        cases first with
        | mk l => cases l with
          | nil => rfl
          | cons x l => simp at hf
      have hc := repVL_map hS.eval cap.toList
      split at h
      · rename_i hcap
        cases Tr.to_ret h
        rw [hcap] at hc
        have hc' : cap = #[] := by
          cases cap with
          | mk l => cases l with
            | nil => rfl
            | cons x l => simp at hcap
        refine .inl ⟨.func (.func g) #[] #[], w, .inl (by unfold execOp; simp only [ho]; exact run_v (by rw [hf', hc']; simp [Instr.makeFunc])), Does.quiet hM hadd rfl rfl rfl⟩
      · cases hs : (cap.toList.map (tvE st.tm)).all single with
        | false => rw [hs] at h; exact (Tr.to_fail h).elim
        | true =>
          rw [hs] at h
          cases Tr.to_ret h
          refine .inl ⟨.func (.func g) #[] (cap.map a.eval), w, .inl (by unfold execOp; simp only [ho]; exact run_v (by rw [hf']; simp [Instr.makeFunc])), Does.quiet hM hadd rfl rfl ?_⟩
          refine ⟨cap.toList.map a.eval, ?_, singles_C _ _ hs hc⟩
          congr 2
          apply Array.ext'
          simp
    · exact (Tr.to_fail h).elim
  · -- makeMap
    rename_i T r ho
    have hopt : ∀ o : Option Operand, repO' (cx st.us st.ob mu R w) (o.map (tvE st.tm)) (o.map a.eval) := fun o => by
      cases o with
      | none => trivial
      | some x => exact hS.eval x
    obtain ⟨v, w', hr, hD⟩ := makeMapEv_sound hM T _ _ b e h hadd (hopt r)
    exact .inl ⟨v, w', .inl (by unfold execOp; simp only [ho]; exact run_v hr), hD⟩
  · -- lookup
    rename_i T x i ok ho
    obtain ⟨v, hr, hQ⟩ := lookupEv_sound hM T _ _ _ _ ok e h (hS.eval x) (hS.eval i)
    exact .inl ⟨v, w, .inl (by unfold execOp; simp only [ho]; exact run_v hr), hQ.does hM hadd⟩
  · -- mapUpdate
    rename_i T x i y ho
    obtain ⟨w', hr, hD⟩ := mapUpdateEv_sound hM T _ _ _ _ _ _ e h hadd (hS.eval x) (hS.eval i) (hS.eval y)
    exact .inl ⟨undef, w', .inr ⟨by unfold execOp; simp only [ho]; exact run_u hr, rfl⟩, hD⟩
  · exact (Tr.to_fail h).elim
def fen (ro : Option Nat) : Fence := { Fence.wide with round := ro }
theorem fen_calls {ro : Option Nat} {n : Nat} {P : Program} {f : FuncId} {args : Array Value} {w : World} {R : Ending → World → Prop} (h : Calls P f args w R) : CallsIn (fen ro) n P f args w R := callsIn_wide.2 h
theorem op_fen {ro : Option Nat} {P : Program} {o : Oper} {a : Act} {w : World} {next : Act → World → Prop} {Q : Exit → Act → World → Prop} (hd : ∀ c, o.op ≠ .defer c) (h : o.wp P a w next Q) : o.wpIn (fen ro) 0 P a w next Q := by
  refine ⟨fun _ _ => trivial, ?_⟩
  rw [Oper.semAt_eq _ _ _ hd]
  unfold Oper.wp at h
  generalize (execOp a.eval o).run P w = r at *
  cases r with
  | ok x w' =>
    cases x <;> simp only [Oper.upon, Oper.uponIn] at h ⊢
    case value => exact h
    case skip => exact h
    case defer => exact h
    case enter f args => exact ⟨fun hh => (by cases hh), fen_calls h⟩
    case row row args => exact ⟨fun hh => (by cases hh), fun c cs _ => by
      obtain ⟨v, w'', h1, h2⟩ := h c cs
      exact ⟨v, w'', h1, stepsIn_wide.2 h2⟩⟩
  | halt x w' => cases x <;> simp only [Oper.upon, Oper.uponIn] at h ⊢ <;> exact h
theorem opEv_defer {E : Env} {ρ : Operand → TV} {o : Oper} {b : Nat} {ob : List (Nat × Ob)} {e : Eff} (h : ((opEv E ρ o b).run ob).to e) : ∀ c, o.op ≠ .defer c := by
  intro c hc
  unfold opEv at h
  rw [hc] at h
  exact Tr.to_fail h
end
end
end Go.Am
namespace Go.Am
noncomputable section
variable [PI : Inhabited Program]
structure Ren (C D : Cx) (f : Nat → Nat) (S : Nat → Prop) : Prop where
  U : ∀ id, S id → D.U (f id)
  fd : ∀ id, S id → D.fd (f id) = (C.fd id).map (Ob.ren f)
  mu : ∀ id, S id → (C.fd id).isSome = true → D.mu (f id) = C.mu id
  R : ∀ b, C.R b → D.R b
  size : C.w.heap.size ≤ D.w.heap.size
  blk : ∀ b, C.R b → D.w.heap[b]? = C.w.heap[b]?
  there : ∀ b o n, C.w.there b o n → D.w.there b o n
theorem ren_like (f : Nat → Nat) : ∀ o : Ob, (o.ren f).like o
  | .row .. => ⟨rfl, rfl, rfl⟩
  | .map .. => ⟨rfl, rfl⟩
  | .lp .. => trivial
  | .var .. => rfl
def subL (l : List Nat) (S : Nat → Prop) : Prop := ∀ i ∈ l, S i
mutual
theorem repC_ren {C D : Cx} {f : Nat → Nat} {S : Nat → Prop} (h : Ren C D f S) : ∀ (x : TV) (vs : List Value), subL x.ids S → repC C x vs → repC D (x.ren f) vs
  | .v _, _, _, hv => hv
  | .adr id p, _, hs, ⟨a, e, hu, h1⟩ => by
    have hS : S id := hs id (by simp [TV.ids])
    refine ⟨a, e, h.U id hS, fun hi => ?_⟩
    rw [h.fd id hS, Option.isSome_map] at hi
    rw [h.mu id hS hi]; exact h1 hi
  | .sl id part, _, hs, ⟨a, n, c, e, hu, h1⟩ => by
    have hS : S id := hs id (by simp [TV.ids])
    refine ⟨a, n, c, e, h.U id hS, fun ob ho => ?_⟩
    rw [h.fd id hS] at ho
    cases hc : C.fd id with
    | none => rw [hc] at ho; cases ho
    | some o =>
      rw [hc] at ho
      cases ho
      obtain ⟨t, e', xs, rfl, h2⟩ := h1 o hc
      refine ⟨t, e', xs, rfl, ?_⟩
      rw [h.mu id hS (by simp [hc])]
      exact slRep_mono (fun b o n _ ht => h.there b o n ht) h2
  | .ro t xs, _, _, hv => repD_mono h.R h.size h.blk (.sl t) xs _ hv
  | .radr t xs p, _, _, ⟨b, off, cs, h1, h2, h3, h4, h5⟩ => ⟨b, off, cs, h1, h.R b h2, by have := h.size; omega, repL_mono (fun x vs hx => repD_mono h.R h.size h.blk t x vs hx) xs cs h4, rangeAt_of_blk (h.blk b h2) h5⟩
  | .agg fs, vs, hs, hv => repCL_ren h fs vs hs hv
  | .clo g cap, _, hs, ⟨cs, e, h1⟩ => ⟨cs, e, repCL_ren h cap cs hs h1⟩
  | .mp id, _, hs, ⟨r, e, hu, h1⟩ => by
    have hS : S id := hs id (by simp [TV.ids])
    refine ⟨r, e, h.U id hS, fun hi => ?_⟩
    rw [h.fd id hS, Option.isSome_map] at hi
    rw [h.mu id hS hi]; exact h1 hi
  | .yv id, _, hs, ⟨r, e, hu, h1⟩ => by
    have hS : S id := hs id (by simp [TV.ids])
    refine ⟨r, e, h.U id hS, fun hi => ?_⟩
    rw [h.fd id hS, Option.isSome_map] at hi
    rw [h.mu id hS hi]; exact h1 hi
  | .fv _, _, _, hv => hv
  | .arr t _ xs, vs, _, ⟨h1, h2⟩ => ⟨h1, repL_mono (fun x vs hx => repD_mono h.R h.size h.blk t x vs hx) xs vs h2⟩
  | .tup _, _, _, hv => hv.elim
  | .dead, _, _, hv => hv
theorem repCL_ren {C D : Cx} {f : Nat → Nat} {S : Nat → Prop} (h : Ren C D f S) : ∀ (l : List TV) (vs : List Value), subL (idsL l) S → repCL C l vs → repCL D (renL f l) vs
  | [], _, _, hv => hv
  | x :: l, _, hs, ⟨a, b, e, h1, h2⟩ => ⟨a, b, e, repC_ren h x a (fun i hi => hs i (by simp [idsL, hi])) h1, repCL_ren h l b (fun i hi => hs i (by simp [idsL, hi])) h2⟩
end
mutual
theorem repV_ren {C D : Cx} {f : Nat → Nat} {S : Nat → Prop} (h : Ren C D f S) : ∀ (x : TV) (v : Value), subL x.ids S → repV C x v → repV D (x.ren f) v
  | .v _, _, _, hv => hv
  | .adr id p, v, hs, hv => repC_ren h (.adr id p) [v] hs hv
  | .sl id part, v, hs, hv => repC_ren h (.sl id part) [v] hs hv
  | .ro t xs, v, hs, hv => repC_ren h (.ro t xs) [v] hs hv
  | .radr t xs p, v, hs, hv => repC_ren h (.radr t xs p) [v] hs hv
  | .clo g cap, v, hs, hv => repC_ren h (.clo g cap) [v] hs hv
  | .mp id, v, hs, hv => repC_ren h (.mp id) [v] hs hv
  | .yv id, v, hs, hv => repC_ren h (.yv id) [v] hs hv
  | .fv n, v, hs, hv => repC_ren h (.fv n) [v] hs hv
  | .agg fs, _, hs, ⟨cs, e, h1⟩ => ⟨cs, e, repCL_ren h fs cs hs h1⟩
  | .arr t _ xs, _, _, ⟨cs, e, h1, h2⟩ => ⟨cs, e, h1, repL_mono (fun x vs hx => repD_mono h.R h.size h.blk t x vs hx) xs cs h2⟩
  | .tup l, _, hs, ⟨vs, e, h1⟩ => ⟨vs, e, repVL_ren h l vs hs h1⟩
  | .dead, _, _, hv => hv
theorem repVL_ren {C D : Cx} {f : Nat → Nat} {S : Nat → Prop} (h : Ren C D f S) : ∀ (l : List TV) (vs : List Value), subL (idsL l) S → repVL C l vs → repVL D (renL f l) vs
  | [], _, _, hv => hv
  | x :: l, _, hs, ⟨v, r, e, h1, h2⟩ => ⟨v, r, e, repV_ren h x v (fun i hi => hs i (by simp [idsL, hi])) h1, repVL_ren h l r (fun i hi => hs i (by simp [idsL, hi])) h2⟩
end
theorem repCap_ren {C D : Cx} {f : Nat → Nat} {S : Nat → Prop} (h : Ren C D f S) {tmps : Array Value} : ∀ (lv : List Nat) (cap : List TV), subL (idsL cap) S → repCap C tmps lv cap → repCap D tmps lv (renL f cap)
  | [], [], _, h => h
  | _ :: lv, x :: cap, hs, ⟨h1, h2⟩ => ⟨repV_ren h x _ (fun i hi => hs i (by simp [idsL, hi])) h1, repCap_ren h lv cap (fun i hi => hs i (by simp [idsL, hi])) h2⟩
  | [], _ :: _, _, h => h.elim
  | _ :: _, [], _, h => h.elim
theorem repO_ren {C D : Cx} {f : Nat → Nat} {S : Nat → Prop} (h : Ren C D f S) {id : Nat} (hS : S id) {o : Ob} (ho : C.fd id = some o) (hs : subL o.ids S) (hb : ∀ b, C.mu id = some b → D.w.heap[b]? = C.w.heap[b]?) (hr : repO C id o) : repO D (f id) (o.ren f) := by
  have hm : D.mu (f id) = C.mu id := h.mu id hS (by simp [ho])
  match o, hr with
  | .var T x, ⟨b, vs, h1, h2, h3, h4, c, fr, h5, h6⟩ =>
    exact ⟨b, vs, hm.trans h1, repC_ren h x vs hs h2, rangeAt_of_blk (hb b h1) h3, there_of_blk (hb b h1) h4, c, fr, (hb b h1).trans h5, h6⟩
  | .row t e xs, .inl ⟨h1, h2⟩ => exact .inl ⟨hm.trans h1, h2⟩
  | .map k v xs, ⟨h1, h2, r, es, h3, h4, h5⟩ => exact ⟨h1, h2, r, es, hm.trans h3, (hb r h3).trans h4, h5⟩
  | .lp k lv cap j, ⟨l, r, h1, h2, h3, h4, h5⟩ => exact ⟨l, r, hm.trans h1, (hb l h1).trans h2, h3, repCap_ren h lv cap hs h4, h5⟩
  | .row t e xs, .inr ⟨b, vs, h1, h2, h3, h4, h5, c, fr, h6⟩ =>
    exact .inr ⟨b, vs, hm.trans h1, repL_mono (fun x vs hx => repD_mono h.R h.size h.blk t x vs hx) xs vs h2, rangeAt_of_blk (hb b h1) h3, there_of_blk (hb b h1) h4, Nat.lt_of_lt_of_le h5 h.size, c, fr, (hb b h1).trans h6⟩
theorem reach_to {γ : Type} (ob : List (Nat × Ob)) : ∀ (n : Nat) (todo ren : List Nat) (obs : List (Option Ob)) (k : List Nat → List (Option Ob) → GTr γ) (r : γ),
    ((reach n todo ren obs k).run ob).to r → ren.Nodup → obs = ren.map (fnd ob) → (∀ i ∈ ren, ∀ o, fnd ob i = some o → ∀ j ∈ o.ids, j ∈ ren ∨ j ∈ todo) →
    ∃ ren', ((k ren' (ren'.map (fnd ob))).run ob).to r ∧ ren'.Nodup ∧ (∃ ext, ren' = ren ++ ext) ∧ (∀ j ∈ todo, j ∈ ren') ∧ (∀ i ∈ ren', ∀ o, fnd ob i = some o → ∀ j ∈ o.ids, j ∈ ren') ∧
      (∀ j ∈ ren', j ∈ ren ∨ j ∈ todo ∨ ∃ i o, fnd ob i = some o ∧ j ∈ o.ids)
  | n, [], ren, obs, k, r, h, hn, ho, hc => by
    unfold reach at h
    subst ho
    refine ⟨ren, h, hn, ⟨[], by simp⟩, fun j hj => (by cases hj), fun i hi o hio j hj => ?_, fun j hj => .inl hj⟩
    rcases hc i hi o hio j hj with h | h
    · exact h
    · cases h
  | 0, id :: todo, ren, obs, k, r, h, hn, ho, hc => by
    unfold reach at h
    exact (Tr.to_fail h).elim
  | n + 1, id :: todo, ren, obs, k, r, h, hn, ho, hc => by
    unfold reach at h
    cases hb : ren.contains id with
    | true =>
      rw [hb] at h
      simp only [if_true] at h
      have hid : id ∈ ren := by simpa using hb
      obtain ⟨ren', h1, h2, ⟨ext, h3⟩, h4, h5, h6⟩ := reach_to ob n todo ren obs k r h hn ho (fun i hi o hio j hj => by
        rcases hc i hi o hio j hj with h | h
        · exact .inl h
        · rcases List.mem_cons.1 h with rfl | h
          · exact .inl hid
          · exact .inr h)
      refine ⟨ren', h1, h2, ⟨ext, h3⟩, fun j hj => ?_, h5, fun j hj => (h6 j hj).imp (fun h => h) (Or.imp (List.mem_cons_of_mem _) (fun h => h))⟩
      rcases List.mem_cons.1 hj with rfl | hj
      · rw [h3]; exact List.mem_append_left _ hid
      · exact h4 j hj
    | false =>
      rw [hb] at h
      simp only [Bool.false_eq_true, if_false] at h
      rw [GTr.run_get] at h
      have hid : ¬ id ∈ ren := by simpa using hb
      obtain ⟨ren', h1, h2, ⟨ext, h3⟩, h4, h5, h6⟩ := reach_to ob n _ (ren ++ [id]) (obs ++ [fnd ob id]) k r h (by
          rw [List.nodup_append]
          exact ⟨hn, by simp, fun a ha b hb => by simp at hb; subst hb; intro e; subst e; exact hid ha⟩) (by rw [ho]; simp) (fun i hi o hio j hj => by
        rcases List.mem_append.1 hi with hi | hi
        · rcases hc i hi o hio j hj with h | h
          · exact .inl (List.mem_append_left _ h)
          · rcases List.mem_cons.1 h with rfl | h
            · exact .inl (by simp)
            · exact .inr (List.mem_append_left _ h)
        · simp at hi
          subst hi
          right
          rw [hio]
          exact List.mem_append_right _ hj)
      refine ⟨ren', h1, h2, ⟨[id] ++ ext, by rw [h3]; simp⟩, fun j hj => ?_, h5, fun j hj => ?_⟩
      rotate_left
      · rcases h6 j hj with h | h | h
        · rcases List.mem_append.1 h with h | h
          · exact .inl h
          · simp at h; subst h; exact .inr (.inl (List.mem_cons_self ..))
        · rcases List.mem_append.1 h with h | h
          · exact .inr (.inl (List.mem_cons_of_mem _ h))
          · cases ho2 : fnd ob id with
            | none => rw [ho2] at h; cases h
            | some o => rw [ho2] at h; exact .inr (.inr ⟨id, o, ho2, h⟩)
        · exact .inr (.inr h)
      rcases List.mem_cons.1 hj with rfl | hj
      · rw [h3]; simp
      · exact h4 j (List.mem_append_left _ hj)
def pkCx (pk : Pk) (mu : Nat → Option Nat) (R : Nat → Prop) (w : World) : Cx := ⟨fun i => i < pk.obs.length, pk.fd, mu, R, w⟩
theorem idxOf_get {l : List Nat} (h : l.Nodup) {i : Nat} (hi : i < l.length) : l.idxOf l[i] = i := h.idxOf_getElem i hi
theorem get_idxOf {l : List Nat} {a : Nat} (h : a ∈ l) : l[l.idxOf a]? = some a := by
  have := List.idxOf_lt_length_iff.2 h
  rw [List.getElem?_eq_getElem this, List.getElem_idxOf]
mutual
theorem repC_U {C : Cx} : ∀ (x : TV) (vs : List Value), repC C x vs → ∀ i ∈ x.ids, C.U i
  | .v _, _, _ => by simp [TV.ids]
  | .adr id p, _, ⟨_, _, hu, _⟩ => by simp [TV.ids]; exact hu
  | .sl id part, _, ⟨_, _, _, _, hu, _⟩ => by simp [TV.ids]; exact hu
  | .ro t xs, _, _ => by simp [TV.ids]
  | .radr t xs p, _, _ => by simp [TV.ids]
  | .agg fs, vs, hv => fun i hi => repCL_U fs vs hv i hi
  | .clo g cap, _, ⟨cs, e, h1⟩ => fun i hi => repCL_U cap cs h1 i hi
  | .mp id, _, ⟨_, _, hu, _⟩ => by simp [TV.ids]; exact hu
  | .yv id, _, ⟨_, _, hu, _⟩ => by simp [TV.ids]; exact hu
  | .fv _, _, _ => by simp [TV.ids]
  | .arr t n xs, _, _ => by simp [TV.ids]
  | .tup _, _, hv => hv.elim
  | .dead, _, hv => hv.elim
theorem repCL_U {C : Cx} : ∀ (l : List TV) (vs : List Value), repCL C l vs → ∀ i ∈ idsL l, C.U i
  | [], _, _ => by simp [idsL]
  | x :: l, _, ⟨a, b, e, h1, h2⟩ => fun i hi => by
    simp only [idsL, List.mem_append] at hi
    rcases hi with hi | hi
    · exact repC_U x a h1 i hi
    · exact repCL_U l b h2 i hi
end
mutual
theorem repV_U {C : Cx} : ∀ (x : TV) (v : Value), repV C x v → ∀ i ∈ x.ids, C.U i
  | .v _, _, _ => by simp [TV.ids]
  | .adr id p, v, hv => repC_U (.adr id p) [v] hv
  | .sl id part, v, hv => repC_U (.sl id part) [v] hv
  | .ro t xs, v, hv => by simp [TV.ids]
  | .radr t xs p, v, hv => by simp [TV.ids]
  | .agg fs, _, ⟨cs, e, h1⟩ => fun i hi => repCL_U fs cs h1 i hi
  | .clo g cap, v, hv => repC_U (.clo g cap) [v] hv
  | .mp id, v, hv => repC_U (.mp id) [v] hv
  | .yv id, v, hv => repC_U (.yv id) [v] hv
  | .fv _, _, _ => by simp [TV.ids]
  | .arr t n xs, _, _ => by simp [TV.ids]
  | .tup l, _, ⟨vs, e, h1⟩ => fun i hi => repVL_U l vs h1 i hi
  | .dead, _, _ => by simp [TV.ids]
theorem repVL_U {C : Cx} : ∀ (l : List TV) (vs : List Value), repVL C l vs → ∀ i ∈ idsL l, C.U i
  | [], _, _ => by simp [idsL]
  | x :: l, _, ⟨v, r, e, h1, h2⟩ => fun i hi => by
    simp only [idsL, List.mem_append] at hi
    rcases hi with hi | hi
    · exact repV_U x v h1 i hi
    · exact repVL_U l r h2 i hi
end
theorem repCap_U {C : Cx} {tmps : Array Value} : ∀ (lv : List Nat) (cap : List TV), repCap C tmps lv cap → ∀ i ∈ idsL cap, C.U i
  | [], [], _ => by simp [idsL]
  | _ :: lv, x :: cap, ⟨h1, h2⟩ => fun i hi => by
    simp only [idsL, List.mem_append] at hi
    exact hi.elim (repV_U x _ h1 i) (repCap_U lv cap h2 i)
  | [], _ :: _, h => h.elim
  | _ :: _, [], h => h.elim
theorem repO_U {C : Cx} {id : Nat} : ∀ (o : Ob), repO C id o → ∀ i ∈ o.ids, C.U i
  | .var _ x, ⟨_, vs, _, h, _⟩ => repC_U x vs h
  | .row .., _ => by simp [Ob.ids]
  | .map .., _ => by simp [Ob.ids]
  | .lp k lv cap j, ⟨_, r, _, _, _, h, _⟩ => repCap_U lv cap h
structure Packed (ob : List (Nat × Ob)) (pin rs : List TV) (ren : List Nat) (pk : Pk) : Prop where
  nodup : ren.Nodup
  roots : pk.roots = renL (idx ren) rs
  obs : pk.obs = ren.map fun i => (fnd ob i).map (Ob.ren (idx ren))
  pins : ∀ j ∈ idsL pin, j ∈ ren
  ids : ∀ j ∈ idsL rs, j ∈ ren
  closed : ∀ i ∈ ren, ∀ o, fnd ob i = some o → ∀ j ∈ o.ids, j ∈ ren
  origin : ∀ j ∈ ren, j ∈ idsL pin ∨ j ∈ idsL rs ∨ ∃ i o, fnd ob i = some o ∧ j ∈ o.ids
theorem packG_to {γ : Type} {ob : List (Nat × Ob)} {pin roots : List TV} {k : List Nat → Pk → GTr γ} {r : γ} (h : ((packG pin roots k).run ob).to r) : ∃ ren pk, ((k ren pk).run ob).to r ∧ Packed ob pin roots ren pk := by
  unfold packG at h
  obtain ⟨ren, h1, h2, _, h4, h5, h6⟩ := reach_to ob _ _ [] [] _ r h (by simp) (by simp) (fun i hi => by cases hi)
  refine ⟨ren, _, h1, h2, rfl, ?_, fun j hj => h4 j (List.mem_append_left _ hj), fun j hj => h4 j (List.mem_append_right _ hj), h5, fun j hj => ?_⟩
  rotate_left
  · rcases h6 j hj with h | h | h
    · cases h
    · rcases List.mem_append.1 h with h | h
      · exact .inl h
      · exact .inr (.inl h)
    · exact .inr (.inr h)
  simp only [List.map_map]
  apply List.map_congr_left
  intro i _
  simp only [Function.comp]
  cases fnd ob i <;> rfl
theorem Packed.fd {ob : List (Nat × Ob)} {pin roots : List TV} {ren : List Nat} {pk : Pk} (h : Packed ob pin roots ren pk) {i : Nat} (hi : i ∈ ren) : pk.fd (idx ren i) = (fnd ob i).map (Ob.ren (idx ren)) := by
  unfold Pk.fd
  rw [h.obs, List.getElem?_map]
  unfold idx
  rw [get_idxOf hi]
  rfl
theorem Packed.len {ob : List (Nat × Ob)} {pin roots : List TV} {ren : List Nat} {pk : Pk} (h : Packed ob pin roots ren pk) : pk.obs.length = ren.length := by rw [h.obs, List.length_map]
theorem Packed.ren {ob : List (Nat × Ob)} {pin roots : List TV} {ren : List Nat} {pk : Pk} (h : Packed ob pin roots ren pk) (us : List Nat) (mu : Nat → Option Nat) (R R' : Nat → Prop) (w : World) (hR : ∀ b, R b → R' b) :
    Ren (cx us ob mu R w) (pkCx pk (fun i => mu (ren.getD i 0)) R' w) (idx ren) (· ∈ ren) := by
  refine ⟨fun i hi => ?_, fun i hi => h.fd hi, fun i hi _ => ?_, hR, Nat.le_refl _, fun _ _ => rfl, fun _ _ _ h => h⟩
  · show idx ren i < pk.obs.length
    rw [h.len]
    exact List.idxOf_lt_length_iff.2 hi
  · show mu (ren.getD (idx ren i) 0) = mu i
    unfold idx
    rw [List.getD, get_idxOf hi]
    rfl
theorem Packed.back {ob : List (Nat × Ob)} {pin roots : List TV} {ren : List Nat} {pk : Pk} (h : Packed ob pin roots ren pk) {i : Nat} (hi : i < pk.obs.length) : ∃ j, j ∈ ren ∧ ren.getD i 0 = j ∧ idx ren j = i ∧ ren[i]? = some j := by
  rw [h.len] at hi
  refine ⟨ren[i], List.getElem_mem hi, by simp [List.getD, hi], ?_, List.getElem?_eq_getElem hi⟩
  exact idxOf_get h.nodup hi
end
end Go.Am
namespace Go.Am
noncomputable section
variable [PI : Inhabited Program]
theorem idsL_append : ∀ (a b : List TV), idsL (a ++ b) = idsL a ++ idsL b
  | [], b => rfl
  | x :: a, b => by rw [List.cons_append, idsL, idsL, idsL_append a b, List.append_assoc]
mutual
theorem adr1_ids : ∀ (x : TV), ∀ i ∈ idsL (adr1 x), i ∈ x.ids
  | .adr j p, i, h => by simpa [adr1, idsL] using h
  | .mp j, i, h => by simpa [adr1, idsL] using h
  | .yv j, i, h => by simpa [adr1, idsL] using h
  | .sl j (some q), i, h => by simpa [adr1, idsL] using h
  | .agg fs, i, h => adrs_ids fs i h
  | .clo _ cap, i, h => adrs_ids cap i h
  | .v _, _, h | .sl _ none, _, h | .ro .., _, h | .radr .., _, h | .arr .., _, h | .tup _, _, h | .fv _, _, h | .dead, _, h => by cases h
theorem adrs_ids : ∀ (l : List TV), ∀ i ∈ idsL (adrs l), i ∈ idsL l
  | [], i, h => by cases h
  | x :: l, i, h => by
    rw [adrs, idsL_append] at h
    rw [idsL]
    exact List.mem_append.2 ((List.mem_append.1 h).imp (adr1_ids x i) (adrs_ids l i))
end
mutual
theorem adrA_ids : ∀ (x : TV), ∀ i ∈ idsL (adrA x), i ∈ x.ids
  | .adr j p, i, h => by simpa [adrA, idsL, TV.ids] using h
  | .yv j, i, h => by simpa [adrA, idsL, TV.ids] using h
  | .agg fs, i, h => adrAL_ids fs i h
  | .clo _ cap, i, h => adrAL_ids cap i h
  | .v _, _, h | .sl _ _, _, h | .mp _, _, h | .ro .., _, h | .radr .., _, h | .arr .., _, h | .tup _, _, h | .fv _, _, h | .dead, _, h => by cases h
theorem adrAL_ids : ∀ (l : List TV), ∀ i ∈ idsL (adrAL l), i ∈ idsL l
  | [], i, h => by cases h
  | x :: l, i, h => by
    rw [adrAL, idsL_append] at h
    rw [idsL]
    exact List.mem_append.2 ((List.mem_append.1 h).imp (adrA_ids x i) (adrAL_ids l i))
end
theorem obA_ids : ∀ (o : Ob), ∀ i ∈ idsL (obA o), i ∈ o.ids
  | .var _ x, i, h => adrA_ids x i h
  | .lp _ _ cap _, i, h => adrAL_ids cap i h
  | .row .., _, h | .map .., _, h => by cases h
theorem obsA_mem : ∀ (l : List (Option Ob)), ∀ i ∈ idsL (obsA l), ∃ o, some o ∈ l ∧ i ∈ o.ids
  | [], i, h => by cases h
  | none :: l, i, h => by
    obtain ⟨o, h1, h2⟩ := obsA_mem l i h
    exact ⟨o, List.mem_cons_of_mem _ h1, h2⟩
  | some o :: l, i, h => by
    rw [obsA, idsL_append] at h
    rcases List.mem_append.1 h with h | h
    · exact ⟨o, List.mem_cons_self .., obA_ids o i h⟩
    · obtain ⟨o, h1, h2⟩ := obsA_mem l i h
      exact ⟨o, List.mem_cons_of_mem _ h1, h2⟩
theorem pins_lt {O R0 : Nat → Prop} {w0 : World} {pk : Pk} {mu : Nat → Option Nat} {R : Nat → Prop} {w : World} (hM : Mem O R0 w0 (pkCx pk mu R w)) {vs : List Value} (hv : repVL (pkCx pk mu R w) pk.roots vs) {i : Nat} (hi : i ∈ idsL pk.pins) : i < pk.obs.length := by
  unfold Pk.pins at hi
  rw [idsL_append] at hi
  rcases List.mem_append.1 hi with h | h
  · exact repVL_U pk.roots _ hv i (adrs_ids _ i h)
  · obtain ⟨o, h1, h2⟩ := obsA_mem _ i h
    obtain ⟨q, hq, hqo⟩ := List.getElem_of_mem h1
    have ho : (pkCx pk mu R w).fd q = some o := by
      show pk.fd q = some o
      unfold Pk.fd
      rw [List.getElem?_eq_getElem hq, hqo]
      rfl
    exact repO_U o (hM.obs q o ho) i h2
theorem reachA_to {γ : Type} (ob : List (Nat × Ob)) : ∀ (n : Nat) (todo acc : List Nat) (k : List Nat → GTr γ) (r : γ), ((reachA n todo acc k).run ob).to r → ∃ ps, ((k ps).run ob).to r ∧ ∀ j ∈ ps, j ∈ acc ∨ j ∈ todo ∨ ∃ i o, fnd ob i = some o ∧ j ∈ o.ids
  | n, [], acc, k, r, h => by
    unfold reachA at h
    exact ⟨acc, h, fun j hj => .inl hj⟩
  | 0, id :: todo, acc, k, r, h => by
    unfold reachA at h
    exact (Tr.to_fail h).elim
  | n + 1, id :: todo, acc, k, r, h => by
    unfold reachA at h
    cases hb : acc.contains id with
    | true =>
      rw [hb] at h
      simp only [if_true] at h
      obtain ⟨ps, h1, h2⟩ := reachA_to ob n todo acc k r h
      exact ⟨ps, h1, fun j hj => (h2 j hj).imp (fun h => h) (Or.imp (List.mem_cons_of_mem _) (fun h => h))⟩
    | false =>
      rw [hb] at h
      simp only [Bool.false_eq_true, if_false] at h
      rw [GTr.run_get] at h
      obtain ⟨ps, h1, h2⟩ := reachA_to ob n _ _ k r h
      refine ⟨ps, h1, fun j hj => ?_⟩
      rcases h2 j hj with h | h | h
      · rcases List.mem_append.1 h with h | h
        · exact .inl h
        · simp at h; subst h; exact .inr (.inl (List.mem_cons_self ..))
      · rcases List.mem_append.1 h with h | h
        · exact .inr (.inl (List.mem_cons_of_mem _ h))
        · cases ho2 : fnd ob id with
          | none => rw [ho2] at h; cases h
          | some o => rw [ho2] at h; exact .inr (.inr ⟨id, o, ho2, obA_ids o j h⟩)
      · exact .inr (.inr h)
theorem packA_to {γ : Type} {ob : List (Nat × Ob)} {ys : List TV} {k : List Nat → Pk → GTr γ} {r : γ} (h : ((packA ys k).run ob).to r) : ∃ ren pk, ((k ren pk).run ob).to r ∧ Packed ob ys ys ren pk := by
  unfold packA at h
  obtain ⟨ps, h1, h2⟩ := reachA_to ob _ _ _ _ r h
  obtain ⟨ren, pk, h3, hP⟩ := packG_to h1
  refine ⟨ren, pk, h3, hP.nodup, hP.roots, hP.obs, hP.ids, hP.ids, hP.closed, fun j hj => ?_⟩
  rcases hP.origin j hj with h | h | h
  · have hjp : j ∈ ps := by
      have : ∀ l : List Nat, idsL (l.map fun i => TV.adr i []) = l := by
        intro l
        induction l with
        | nil => rfl
        | cons a l ih => rw [List.map_cons, idsL, ih]; rfl
      rwa [this] at h
    rcases h2 j hjp with h | h | h
    · cases h
    · exact .inl (adrs_ids _ j h)
    · exact .inr (.inr h)
  · exact .inl h
  · exact .inr (.inr h)
def ownB (pk : Pk) (mu : Nat → Option Nat) : Nat → Prop := fun b => ∃ i, (pk.fd i).isSome = true ∧ mu i = some b
structure CallOK (P : Program) (f : FuncId) (pk r : Pk) : Prop where
  enters : ∃ fn, P.funcs[f]? = some fn ∧ fn.body.isNone = false ∧ (fn.name == "runtime.NumGoroutine") = false
  runs : ∀ (w : World) (mu : Nat → Option Nat) (R : Nat → Prop) (vs : List Value), Mem (ownB pk mu) R w (pkCx pk mu R w) → repVL (pkCx pk mu R w) pk.roots vs →
    Calls P f vs.toArray w fun e w' => ∃ v mu' R', e = .returned v ∧ Mem (ownB pk mu) R w (pkCx r mu' R' w') ∧ repV (pkCx r mu' R' w') (r.roots.headD .dead) v ∧
      ∀ i ∈ idsL pk.pins, ∀ o', r.fd i = some o' → ∃ o, pk.fd i = some o ∧ mu' i = mu i ∧ o.like o' ∧ ∀ b, mu i = some b → keeps w w' b
structure RndOK (P : Program) (k : Nat) (pk r : Pk) : Prop where
  size : ∀ rec, LoopAt k rec → ∀ i lv cap j, pk.roots.headD .dead = .yv i → pk.fd i = some (.lp k lv cap j) → pk.roots.length = 1 + rec.params.size + cap.length
  runs : ∀ (w : World) (mu : Nat → Option Nat) (R : Nat → Prop) (l : Nat) (rec : Loop) (xs ys : List Value), Mem (ownB pk mu) R w (pkCx pk mu R w) → repVL (pkCx pk mu R w) pk.roots (.func (.yield l) #[] #[] :: (xs ++ ys)) → xs.length = rec.params.size →
    w.heap[l]? = some (.loop rec) →
    RoundIn Fence.wide 0 P l rec.fn ((rec.params.zip xs.toArray).foldl (fun tmps (t, a) => tmps.setIfInBounds t a) rec.tmps) rec.assign rec.body w fun e w' => ∃ v mu' R', e = .returned v ∧ Mem (ownB pk mu) R w (pkCx r mu' R' w') ∧ repV (pkCx r mu' R' w') (r.roots.headD .dead) v ∧
      ∀ i ∈ idsL pk.pins, ∀ o', r.fd i = some o' → ∃ o, pk.fd i = some o ∧ mu' i = mu i ∧ o.like o' ∧ ∀ b, mu i = some b → keeps w w' b
def StrOK1 (P : Program) (g : FuncId) (e : TypeId) : Prop := ∀ (b o n c : Nat) (w : World) (gk : Nat) (cs : Array Value) (fr : Nat × Nat) (xs : List Int),
  w.cell? ⟨b, o + 1, none⟩ = some (.slice (some ⟨gk, 0, none⟩) n c) → 0 < n → n ≤ maxRow → n ≤ c → w.heap[gk]? = some (.cells cs e fr) → xs.length = n → w.rangeAt gk 0 (xs.map (.int .u8)) →
    Calls P g #[.pointer (some ⟨b, o, none⟩)] w fun r w' => r = .returned (.string (stringOf xs)) ∧ w' = w.drew.freeze ⟨gk, 0, none⟩ n
def StrOK0 (P : Program) (g : FuncId) (e : TypeId) : Prop := ∀ (b o c : Nat) (w : World) (a : Option Addr),
  w.cell? ⟨b, o + 1, none⟩ = some (.slice a 0 c) → (a = none ∨ ∃ gk cs fr, a = some ⟨gk, 0, none⟩ ∧ w.heap[gk]? = some (.cells cs e fr)) →
    Calls P g #[.pointer (some ⟨b, o, none⟩)] w fun r w' => r = .returned (.string ByteArray.empty) ∧ Grow w w'
def RepOK (P : Program) (g : FuncId) : Prop := ∀ (s : ByteArray) (c : Int) (w : World), 0 ≤ c → c ≤ 9223372036854775807 → s.size * c.toNat ≤ maxRow →
    Calls P g #[.string s, .int .i64 c] w fun r w' => r = .returned (.string (repS s c)) ∧ Grow w w'
def CloneOK (P : Program) (g : FuncId) (T2 : TypeId) : Prop := ∀ (a : Option Addr) (n c : Nat) (w : World),
  (a = none → n = 0 → Calls P g #[.slice a n c] w fun r w' => r = .returned (.slice none 0 0) ∧ Grow w w') ∧
  ∀ ad, a = some ad → ∃ w1 a1, Grow w w1 ∧ ∀ v w', (Builtin.append_ #[T2, T2] T2 #[.slice (some a1) 0 0, .slice a n c]).run P w1 = .ok v w' → Calls P g #[.slice a n c] w fun r w'' => r = .returned v ∧ w'' = w'
def StrOK (P : Program) (g : FuncId) (e : TypeId) : Prop := (e = 0 → RepOK P g) ∧ (1000000 ≤ e → CloneOK P g (e - 1000000)) ∧ (e ≠ 0 → e < 1000000 → StrOK1 P g e ∧ StrOK0 P g e)
structure EnvOK (E : Env) : Prop where
  prog : PI.default = E.P
  ne : ∀ g, is77 (E.own g) = true → ∀ x w, (callFunc g #[x]).run E.P w = .ok (.value x) w
  str : ∀ g e, is78 (E.own g) = some e → StrOK E.P g e ∧ ∃ fn, E.P.funcs[g]? = some fn ∧ fn.body.isNone = false ∧ (fn.name == "runtime.NumGoroutine") = false
  call : ∀ f pk r, f < bigK → (E.call f pk).to r → CallOK E.P f pk r
  rnd : ∀ k pk r, bigK ≤ k → (E.call k pk).to r → RndOK E.P k pk r
  mixed : E.P.follows .mixedOrders = true
mutual
theorem slIds_ids : ∀ (x : TV), ∀ i ∈ slIds x, i ∈ x.ids
  | .v _ => by simp [slIds]
  | .adr _ _ => by simp [slIds]
  | .sl _ _ => by simp [slIds, TV.ids]
  | .ro _ _ => by simp [slIds]
  | .radr _ _ _ => by simp [slIds]
  | .clo _ _ => by simp [slIds]
  | .mp _ => by simp [slIds]
  | .yv _ => by simp [slIds]
  | .fv _ => by simp [slIds]
  | .agg fs => fun i hi => slIdsL_ids fs i hi
  | .arr _ _ _ => by simp [slIds]
  | .tup _ => by simp [slIds]
  | .dead => by simp [slIds]
theorem slIdsL_ids : ∀ (l : List TV), ∀ i ∈ slIdsL l, i ∈ idsL l
  | [] => by simp [slIdsL]
  | x :: l => fun i hi => by
    simp only [slIdsL, List.mem_append] at hi
    simp only [idsL, List.mem_append]
    rcases hi with hi | hi
    · exact .inl (slIds_ids x i hi)
    · exact .inr (slIdsL_ids l i hi)
end
theorem lend_ok {γ : Type} (ob : List (Nat × Ob)) : ∀ (n : Nat) (x : TV) (k : TV → GTr γ) (r : γ), ((lend n x k).run ob).to r → ∃ y, ((k y).run ob).to r ∧
    ∀ (K : Ctx) (us : List Nat) (mu : Nat → Option Nat) (R R' : Nat → Prop) (w : World), Mem K.O K.R0 K.w0 (cx us ob mu R w) → (∀ b, R b → R' b) → (∀ id ∈ slIds x, ∀ b, (fnd ob id).isSome = true → mu id = some b → R' b) →
      (∀ cs, repC (cx us ob mu R w) x cs → repC (cx us ob mu R' w) y cs) ∧ (∀ v, repV (cx us ob mu R w) x v → repV (cx us ob mu R' w) y v) := by
  have same : ∀ (x : TV) (us : List Nat) (mu : Nat → Option Nat) (R R' : Nat → Prop) (w : World), (∀ b, R b → R' b) → Ext (cx us ob mu R w) (cx us ob mu R' w) := fun x us mu R R' w hR =>
    ⟨fun _ h => h, fun _ o _ h => ⟨o, h, rfl, Ob.like.refl o⟩, hR, Nat.le_refl _, fun _ _ => rfl, fun _ _ b _ _ _ => keeps.refl _ b⟩
  intro n
  induction n with
  | zero => intro x k r h; unfold lend at h; exact (Tr.to_fail h).elim
  | succ n ih =>
    intro x k r h
    cases x with
    | sl id p =>
      unfold lend at h
      rw [GTr.run_get] at h
      split at h
      · rename_i t e xs ho
        refine ⟨_, h, fun K us mu R R' w hM hR hL => ?_⟩
        have key : ∀ cs, repC (cx us ob mu R w) (.sl id p) cs → repD R' w (.sl t) (partL xs p) cs := by
          intro cs hr
          obtain ⟨a, n, c, ev, hu, hp⟩ := hr
          subst ev
          obtain ⟨t', e', xs', heq, hs⟩ := hp _ ho
          cases heq
          exact part_ro (C := cx us ob mu R w) (R' := R') hR (fun b hb => hL id (by simp [slIds]) b (by simp [ho]) hb) (hM.obs id _ ho) hs
            (fun x vs h => repD_mono hR (Nat.le_refl _) (fun _ _ => rfl) t x vs h)
        exact ⟨key, fun v hv => key [v] hv⟩
      · exact (Tr.to_fail h).elim
    | agg fs =>
      have go : ∀ (fs : List TV) (k : List TV → GTr γ), ((lend.go n fs k).run ob).to r → ∃ l, ((k l).run ob).to r ∧
          ∀ (K : Ctx) (us : List Nat) (mu : Nat → Option Nat) (R R' : Nat → Prop) (w : World), Mem K.O K.R0 K.w0 (cx us ob mu R w) → (∀ b, R b → R' b) → (∀ id ∈ slIdsL fs, ∀ b, (fnd ob id).isSome = true → mu id = some b → R' b) →
            ∀ cs, repCL (cx us ob mu R w) fs cs → repCL (cx us ob mu R' w) l cs := by
        intro fs
        induction fs with
        | nil => intro k h; unfold lend.go at h; exact ⟨[], h, fun _ _ _ _ _ _ _ _ _ cs hc => hc⟩
        | cons x fs ih2 =>
          intro k h
          unfold lend.go at h
          obtain ⟨y, h1, h2⟩ := ih x _ r h
          obtain ⟨l, h3, h4⟩ := ih2 _ h1
          refine ⟨_, h3, fun K us mu R R' w hM hR hL cs hc => ?_⟩
          obtain ⟨a, b, e, hx, hl⟩ := hc
          exact ⟨a, b, e, (h2 K us mu R R' w hM hR (fun id hi => hL id (by simp [slIdsL, hi]))).1 a hx, h4 K us mu R R' w hM hR (fun id hi => hL id (by simp [slIdsL, hi])) b hl⟩
      unfold lend at h
      obtain ⟨l, h1, h2⟩ := go fs _ h
      refine ⟨_, h1, fun K us mu R R' w hM hR hL => ⟨fun cs hc => h2 K us mu R R' w hM hR hL cs hc, fun v hv => ?_⟩⟩
      obtain ⟨cs, e, hc⟩ := hv
      exact ⟨cs, e, h2 K us mu R R' w hM hR hL cs hc⟩
    | _ => exact ⟨_, h, fun K us mu R R' w hM hR _ => ⟨fun cs hc => repC_mono (same .dead us mu R R' w hR) _ cs hc, fun v hv => repV_mono (same .dead us mu R R' w hR) _ v hv⟩⟩
theorem lendP_ok {γ : Type} {P : Program} (ob : List (Nat × Ob)) (T : TypeId) (x : TV) (k : TV → List Nat → GTr γ) (r : γ) (h : ((lendP P T x k).run ob).to r) : ∃ z ids, ((k z ids).run ob).to r ∧
    ∀ (K : Ctx) (us : List Nat) (mu : Nat → Option Nat) (R R' : Nat → Prop) (w : World), Mem K.O K.R0 K.w0 (cx us ob mu R w) → (∀ b, R b → R' b) → (∀ id ∈ ids, ∀ b, (fnd ob id).isSome = true → mu id = some b → R' b) →
      ∀ v, repV (cx us ob mu R w) x v → repV (cx us ob mu R' w) z v ∧ ∀ id ∈ ids, id ∈ us := by
  unfold lendP at h
  split at h
  · rename_i id _
    split at h
    · rename_i t ht
      rw [GTr.run_get] at h
      split at h
      · rename_i y ho
        obtain ⟨z, h1, h2⟩ := lend_ok ob 8 y _ r h
        split at h1
        · rename_i d hd
          refine ⟨_, _, h1, fun K us mu R R' w hM hR hL v hv => ?_⟩
          obtain ⟨a, e, hu, ha⟩ := hv
          obtain ⟨b, hb, rfl⟩ := ha (by show (fnd ob id).isSome = true; rw [ho]; rfl)
          obtain ⟨b', vs, g1, g2, g3, g4⟩ := hM.obs id _ ho
          have hbb : b' = b := by have := g1.symm.trans hb; cases this; rfl
          subst hbb
          have hs : (fnd ob id).isSome = true := by rw [ho]; rfl
          have hz := (h2 K us mu R R' w hM hR (fun i hi => hL i (List.mem_cons_of_mem _ hi))).1 vs g2
          have hdd := unTv_rep t z d vs hd hz
          refine ⟨⟨b', 0, vs, by rw [e]; simp [offP, Step.off], hL id (List.mem_cons_self ..) b' hs hb, hM.lt id b' hs hb, ⟨vs, [], by simp, hdd, rfl⟩, g3⟩, fun i hi => ?_⟩
          rcases List.mem_cons.1 hi with rfl | hi
          · exact hu
          · exact repC_U y vs g2 i (slIds_ids y i hi)
        · exact (Tr.to_fail h1).elim
      · exact (Tr.to_fail h).elim
    · exact (Tr.to_fail h).elim
  · refine ⟨_, _, h, fun K us mu R R' w hM hR hL v hv => ⟨?_, fun i hi => by cases hi⟩⟩
    have hE : Ext (cx us ob mu R w) (cx us ob mu R' w) := ⟨fun _ h => h, fun _ o _ h => ⟨o, h, rfl, Ob.like.refl o⟩, hR, Nat.le_refl _, fun _ _ => rfl, fun _ _ b _ _ _ => keeps.refl _ b⟩
    exact repV_mono hE _ _ hv
  · exact (Tr.to_fail h).elim
theorem lendC_ok {γ : Type} {P : Program} (ob : List (Nat × Ob)) (x : TV) (k : TV → List Nat → GTr γ) (r : γ) (h : ((lendC P x k).run ob).to r) : ∃ z ids, ((k z ids).run ob).to r ∧
    ∀ (K : Ctx) (us : List Nat) (mu : Nat → Option Nat) (R R' : Nat → Prop) (w : World), Mem K.O K.R0 K.w0 (cx us ob mu R w) → (∀ b, R b → R' b) → (∀ id ∈ ids, ∀ b, (fnd ob id).isSome = true → mu id = some b → R' b) →
      ∀ v, repV (cx us ob mu R w) x v → repV (cx us ob mu R' w) z v ∧ ∀ id ∈ ids, id ∈ us := by
  unfold lendC at h
  split at h
  · rename_i id
    rw [GTr.run_get] at h
    split at h
    · rename_i T y ho
      split at h
      · rename_i t ht
        obtain ⟨z, h1, h2⟩ := lend_ok ob 8 y _ r h
        split at h1
        · rename_i d hd
          refine ⟨_, _, h1, fun K us mu R R' w hM hR hL v hv => ?_⟩
          obtain ⟨a, e, hu, ha⟩ := hv
          obtain ⟨b, hb, rfl⟩ := ha (by show (fnd ob id).isSome = true; rw [ho]; rfl)
          obtain ⟨b', vs, g1, g2, g3, g4⟩ := hM.obs id _ ho
          have hbb : b' = b := by have := g1.symm.trans hb; cases this; rfl
          subst hbb
          have hs : (fnd ob id).isSome = true := by rw [ho]; rfl
          have hz := (h2 K us mu R R' w hM hR (fun i hi => hL i (List.mem_cons_of_mem _ hi))).1 vs g2
          have hdd := unTv_rep t z d vs hd hz
          refine ⟨⟨b', 0, vs, by rw [e]; simp [offP, Step.off], hL id (List.mem_cons_self ..) b' hs hb, hM.lt id b' hs hb, ⟨vs, [], by simp, hdd, rfl⟩, g3⟩, fun i hi => ?_⟩
          rcases List.mem_cons.1 hi with rfl | hi
          · exact hu
          · exact repC_U y vs g2 i (slIds_ids y i hi)
        · exact (Tr.to_fail h1).elim
      · exact (Tr.to_fail h).elim
    · exact (Tr.to_fail h).elim
  · refine ⟨_, _, h, fun K us mu R R' w hM hR hL v hv => ⟨?_, fun i hi => by cases hi⟩⟩
    have hE : Ext (cx us ob mu R w) (cx us ob mu R' w) := ⟨fun _ h => h, fun _ o _ h => ⟨o, h, rfl, Ob.like.refl o⟩, hR, Nat.le_refl _, fun _ _ => rfl, fun _ _ b _ _ _ => keeps.refl _ b⟩
    exact repV_mono hE _ _ hv
  · exact (Tr.to_fail h).elim
theorem keepG_ok {γ : Type} (ob : List (Nat × Ob)) (x : TV) (k : TV → GTr γ) (r : γ) (h : ((keepG x k).run ob).to r) : ∃ z, ((k z).run ob).to r ∧ ∀ (us : List Nat) (mu : Nat → Option Nat) (R : Nat → Prop) (w : World) (v : Value), repV (cx us ob mu R w) x v → repV (cx us ob mu R w) z v := by
  unfold keepG at h
  split at h
  · rename_i id
    rw [GTr.run_get] at h
    split at h
    · rename_i t e xs ho
      refine ⟨_, h, fun us mu R w v hv => ?_⟩
      obtain ⟨a, n, c, ev, hu, hp⟩ := hv
      simp only [List.cons.injEq, and_true] at ev
      subst ev
      refine ⟨a, n, c, rfl, hu, fun o' ho' => ?_⟩
      cases ho.symm.trans ho'
      obtain ⟨t', e', xs', heq, hs⟩ := hp _ ho
      cases heq
      refine ⟨t, e, xs, rfl, ?_⟩
      rcases hs with ⟨h1, h2, a', h3, _⟩ | ⟨b, c', h1, h2, h3, h4⟩
      · cases h3
        exact ⟨by omega, a, 0, by rw [h2], by omega, .inl rfl⟩
      · cases h2
        exact ⟨by omega, _, c, rfl, h3, .inr ⟨b, h1, by rw [Nat.zero_mul], by rw [Nat.zero_add]; exact h4⟩⟩
    · exact (Tr.to_fail h).elim
  · exact ⟨_, h, fun us mu R w v hv => hv⟩
  · exact ⟨_, h, fun us mu R w v hv => hv⟩
  · exact (Tr.to_fail h).elim
theorem argsG_ok {γ : Type} {P : Program} (ob : List (Nat × Ob)) : ∀ (xs : List TV) (os : List Nat) (Ts : List TypeId) (k : List TV → List Nat → GTr γ) (r : γ), ((argsG P os Ts xs k).run ob).to r → ∃ ys lent, ((k ys lent).run ob).to r ∧
    ∀ (K : Ctx) (us : List Nat) (mu : Nat → Option Nat) (R R' : Nat → Prop) (w : World), Mem K.O K.R0 K.w0 (cx us ob mu R w) → (∀ b, R b → R' b) → (∀ id ∈ lent, ∀ b, (fnd ob id).isSome = true → mu id = some b → R' b) →
      ∀ vs, repVL (cx us ob mu R w) xs vs → repVL (cx us ob mu R' w) ys vs ∧ ∀ id ∈ lent, id ∈ us := by
  intro xs
  induction xs with
  | nil => intro os Ts k r h; unfold argsG at h; exact ⟨[], [], h, fun _ _ _ _ _ _ _ _ _ vs hv => ⟨hv, fun _ hi => (by cases hi)⟩⟩
  | cons x xs ih =>
    intro os Ts k r h
    cases Ts with
    | nil => unfold argsG at h; exact (Tr.to_fail h).elim
    | cons T Ts =>
      unfold argsG at h
      cases hraw : Nat.beq (os.headD 0) 3 with
      | true =>
        rw [hraw] at h
        cases hx3 : rawNil x with
        | false => rw [hx3] at h; exact (Tr.to_fail h).elim
        | true =>
          rw [hx3] at h
          obtain ⟨l, w, h3, h4⟩ := ih _ _ _ r h
          refine ⟨_, _, h3, fun K us mu R R' w' hM hR hL vs hv => ?_⟩
          obtain ⟨v, rs, e, hx, hl⟩ := hv
          have hE : Ext (cx us ob mu R w') (cx us ob mu R' w') := ⟨fun _ h => h, fun _ o _ h => ⟨o, h, rfl, Ob.like.refl o⟩, hR, Nat.le_refl _, fun _ _ => rfl, fun _ _ b _ _ _ => keeps.refl _ b⟩
          obtain ⟨k1, k2⟩ := h4 K us mu R R' w' hM hR hL rs hl
          exact ⟨⟨v, rs, e, repV_mono hE _ _ hx, k1⟩, k2⟩
      | false =>
      rw [hraw] at h
      simp only [cond_false] at h
      cases hkeep : Nat.beq (os.headD 0) 4 with
      | true =>
        rw [hkeep] at h
        obtain ⟨z, h1, h2⟩ := keepG_ok ob x (fun y => argsG P os.tail Ts xs fun l w => k (y :: l) w) r h
        obtain ⟨l, w, h3, h4⟩ := ih _ _ _ r h1
        refine ⟨_, _, h3, fun K us mu R R' w' hM hR hL vs hv => ?_⟩
        obtain ⟨v, rs, e, hx, hl⟩ := hv
        have hE : Ext (cx us ob mu R w') (cx us ob mu R' w') := ⟨fun _ h => h, fun _ o _ h => ⟨o, h, rfl, Ob.like.refl o⟩, hR, Nat.le_refl _, fun _ _ => rfl, fun _ _ b _ _ _ => keeps.refl _ b⟩
        obtain ⟨k1, k2⟩ := h4 K us mu R R' w' hM hR hL rs hl
        exact ⟨⟨v, rs, e, repV_mono hE _ _ (h2 us mu R w' v hx), k1⟩, k2⟩
      | false =>
      rw [hkeep] at h
      simp only [cond_false] at h
      cases hcap : Nat.beq (os.headD 0) 5 with
      | true =>
        rw [hcap] at h
        obtain ⟨z, h1, h2⟩ := lend_ok ob 8 x _ r h
        obtain ⟨l, w, h3, h4⟩ := ih _ _ _ r h1
        refine ⟨_, _, h3, fun K us mu R R' w' hM hR hL vs hv => ?_⟩
        obtain ⟨v, rs, e, hx, hl⟩ := hv
        obtain ⟨k1, k2⟩ := h4 K us mu R R' w' hM hR (fun id hi => hL id (List.mem_append_right _ hi)) rs hl
        refine ⟨⟨v, rs, e, (h2 K us mu R R' w' hM hR (fun id hi => hL id (List.mem_append_left _ hi))).2 v hx, k1⟩, fun id hi => ?_⟩
        rcases List.mem_append.1 hi with hi | hi
        · exact repV_U x v hx id (slIds_ids x id hi)
        · exact k2 id hi
      | false =>
      rw [hcap] at h
      simp only [cond_false] at h
      cases hlc : Nat.beq (os.headD 0) 6 with
      | true =>
        rw [hlc] at h
        obtain ⟨z, w1, h1, h2⟩ := lendC_ok ob x (fun z w' => argsG P os.tail Ts xs fun l w => k (z :: l) (w' ++ w)) r h
        obtain ⟨l, w, h3, h4⟩ := ih _ _ _ r h1
        refine ⟨_, _, h3, fun K us mu R R' w' hM hR hL vs hv => ?_⟩
        obtain ⟨v, rs, e, hx, hl⟩ := hv
        obtain ⟨k1, k2⟩ := h4 K us mu R R' w' hM hR (fun id hi => hL id (List.mem_append_right _ hi)) rs hl
        obtain ⟨g1, g2⟩ := h2 K us mu R R' w' hM hR (fun id hi => hL id (List.mem_append_left _ hi)) v hx
        exact ⟨⟨v, rs, e, g1, k1⟩, fun id hi => (List.mem_append.1 hi).elim (g2 id) (k2 id)⟩
      | false =>
      rw [hlc] at h
      simp only [cond_false] at h
      split at h
      · rename_i y hn
        have hny : ∀ {C : Cx} {v : Value}, repV C x v → repV C y v := fun {C v} hv => (norm_ok hn).2 (Ext.refl C) (fun q hq => by cases hq) hv
        split at h
        · obtain ⟨z, h1, h2⟩ := lend_ok ob 8 y _ r h
          obtain ⟨l, w, h3, h4⟩ := ih _ _ _ r h1
          refine ⟨_, _, h3, fun K us mu R R' w' hM hR hL vs hv => ?_⟩
          obtain ⟨v, rs, e, hx, hl⟩ := hv
          obtain ⟨k1, k2⟩ := h4 K us mu R R' w' hM hR (fun id hi => hL id (List.mem_append_right _ hi)) rs hl
          refine ⟨⟨v, rs, e, (h2 K us mu R R' w' hM hR (fun id hi => hL id (List.mem_append_left _ hi))).2 v (hny hx), k1⟩, fun id hi => ?_⟩
          rcases List.mem_append.1 hi with hi | hi
          · exact repV_U y v (hny hx) id (slIds_ids y id hi)
          · exact k2 id hi
        · obtain ⟨l, w, h3, h4⟩ := ih _ _ _ r h
          refine ⟨_, _, h3, fun K us mu R R' w' hM hR hL vs hv => ?_⟩
          obtain ⟨v, rs, e, hx, hl⟩ := hv
          have hE : Ext (cx us ob mu R w') (cx us ob mu R' w') := ⟨fun _ h => h, fun _ o _ h => ⟨o, h, rfl, Ob.like.refl o⟩, hR, Nat.le_refl _, fun _ _ => rfl, fun _ _ b _ _ _ => keeps.refl _ b⟩
          obtain ⟨k1, k2⟩ := h4 K us mu R R' w' hM hR hL rs hl
          exact ⟨⟨v, rs, e, repV_mono hE _ _ (hny hx), k1⟩, k2⟩
        · obtain ⟨z, w1, h1, h2⟩ := lendP_ok ob T y _ r h
          obtain ⟨l, w, h3, h4⟩ := ih _ _ _ r h1
          refine ⟨_, _, h3, fun K us mu R R' w' hM hR hL vs hv => ?_⟩
          obtain ⟨v, rs, e, hx, hl⟩ := hv
          obtain ⟨k1, k2⟩ := h4 K us mu R R' w' hM hR (fun id hi => hL id (List.mem_append_right _ hi)) rs hl
          obtain ⟨g1, g2⟩ := h2 K us mu R R' w' hM hR (fun id hi => hL id (List.mem_append_left _ hi)) v (hny hx)
          exact ⟨⟨v, rs, e, g1, k1⟩, fun id hi => (List.mem_append.1 hi).elim (g2 id) (k2 id)⟩
      · split at h
        · rename_i z hz _
          obtain ⟨l, w, h3, h4⟩ := ih _ _ _ r h
          refine ⟨_, _, h3, fun K us mu R R' w' hM hR hL vs hv => ?_⟩
          obtain ⟨v, rs, e, hx, hl⟩ := hv
          obtain ⟨k1, k2⟩ := h4 K us mu R R' w' hM hR hL rs hl
          refine ⟨⟨v, rs, e, ?_, k1⟩, k2⟩
          cases (show v = _ from hx)
          unfold nilRo at hz
          split at hz
          · split at hz
            · cases hz
              exact ⟨none, 0, rfl, Nat.le_refl _, .inl rfl⟩
            · cases hz
          · cases hz
        · exact (Tr.to_fail h).elim
      · exact (Tr.to_fail h).elim
theorem repD_R {R1 R2 : Nat → Prop} {w : World} : ∀ (t : Ty) (x : t.den) (vs : List Value), t.noSl = true → repD R1 w t x vs → repD R2 w t x vs
  | .int _, _, _, _, h => h
  | .bool, _, _, _, h => h
  | .str, _, _, _, h => h
  | .unit, _, _, _, h => h
  | .cons a r, x, _, hn, ⟨p, q, e, h1, h2⟩ => by
    simp only [Ty.noSl, Bool.and_eq_true] at hn
    exact ⟨p, q, e, repD_R a x.1 p hn.1 h1, repD_R r x.2 q hn.2 h2⟩
  | .sl t, _, _, hn, _ => by cases hn
mutual
theorem repC_R {U : Nat → Prop} {fd : Nat → Option Ob} {mu : Nat → Option Nat} {R1 R2 : Nat → Prop} {w : World} : ∀ (x : TV) (vs : List Value), x.noRo = true → repC ⟨U, fd, mu, R1, w⟩ x vs → repC ⟨U, fd, mu, R2, w⟩ x vs
  | .v _, _, _, hv => hv
  | .adr id p, _, _, hv => hv
  | .sl id part, _, _, hv => hv
  | .agg fs, vs, hn, hv => repCL_R fs vs hn hv
  | .clo g cap, _, hn, ⟨cs, e, h1⟩ => ⟨cs, e, repCL_R cap cs hn h1⟩
  | .mp id, _, _, hv => hv
  | .yv id, _, _, hv => hv
  | .fv _, _, _, hv => hv
  | .arr t _ xs, vs, hn, ⟨h1, h2⟩ => ⟨h1, repL_mono (fun x vs hx => repD_R t x vs hn hx) xs vs h2⟩
  | .tup _, _, _, hv => hv.elim
  | .dead, _, _, hv => hv
theorem repCL_R {U : Nat → Prop} {fd : Nat → Option Ob} {mu : Nat → Option Nat} {R1 R2 : Nat → Prop} {w : World} : ∀ (l : List TV) (vs : List Value), noRoL l = true → repCL ⟨U, fd, mu, R1, w⟩ l vs → repCL ⟨U, fd, mu, R2, w⟩ l vs
  | [], _, _, hv => hv
  | x :: l, _, hn, ⟨a, b, e, h1, h2⟩ => by
    simp only [noRoL, Bool.and_eq_true] at hn
    exact ⟨a, b, e, repC_R x a hn.1 h1, repCL_R l b hn.2 h2⟩
end
mutual
theorem repV_R {U : Nat → Prop} {fd : Nat → Option Ob} {mu : Nat → Option Nat} {R1 R2 : Nat → Prop} {w : World} : ∀ (x : TV) (v : Value), x.noRo = true → repV ⟨U, fd, mu, R1, w⟩ x v → repV ⟨U, fd, mu, R2, w⟩ x v
  | .v _, _, _, hv => hv
  | .adr id p, v, hn, hv => repC_R (.adr id p) [v] hn hv
  | .sl id part, v, hn, hv => repC_R (.sl id part) [v] hn hv
  | .agg fs, _, hn, ⟨cs, e, h1⟩ => ⟨cs, e, repCL_R fs cs hn h1⟩
  | .clo g cap, v, hn, hv => repC_R (.clo g cap) [v] hn hv
  | .mp id, v, hn, hv => repC_R (.mp id) [v] hn hv
  | .yv id, v, hn, hv => repC_R (.yv id) [v] hn hv
  | .fv _, _, _, hv => hv
  | .arr t _ xs, _, hn, ⟨cs, e, h1, h2⟩ => ⟨cs, e, h1, repL_mono (fun x vs hx => repD_R t x vs hn hx) xs cs h2⟩
  | .tup l, _, hn, ⟨vs, e, h1⟩ => ⟨vs, e, repVL_R l vs hn h1⟩
  | .dead, _, _, hv => hv
theorem repVL_R {U : Nat → Prop} {fd : Nat → Option Ob} {mu : Nat → Option Nat} {R1 R2 : Nat → Prop} {w : World} : ∀ (l : List TV) (vs : List Value), noRoL l = true → repVL ⟨U, fd, mu, R1, w⟩ l vs → repVL ⟨U, fd, mu, R2, w⟩ l vs
  | [], _, _, hv => hv
  | x :: l, _, hn, ⟨v, r, e, h1, h2⟩ => by
    simp only [noRoL, Bool.and_eq_true] at hn
    exact ⟨v, r, e, repV_R x v hn.1 h1, repVL_R l r hn.2 h2⟩
end
theorem repCap_R {U : Nat → Prop} {fd : Nat → Option Ob} {mu : Nat → Option Nat} {R1 R2 : Nat → Prop} {w : World} {tmps : Array Value} : ∀ (lv : List Nat) (cap : List TV), noRoL cap = true → repCap ⟨U, fd, mu, R1, w⟩ tmps lv cap → repCap ⟨U, fd, mu, R2, w⟩ tmps lv cap
  | [], [], _, h => h
  | _ :: lv, x :: cap, hn, ⟨h1, h2⟩ => by
    simp only [noRoL, Bool.and_eq_true] at hn
    exact ⟨repV_R x _ hn.1 h1, repCap_R lv cap hn.2 h2⟩
  | [], _ :: _, _, h => h.elim
  | _ :: _, [], _, h => h.elim
theorem repO_R {U : Nat → Prop} {fd : Nat → Option Ob} {mu : Nat → Option Nat} {R1 R2 : Nat → Prop} {w : World} {id : Nat} : ∀ (o : Ob), obNoRo (some o) = true → repO ⟨U, fd, mu, R1, w⟩ id o → repO ⟨U, fd, mu, R2, w⟩ id o
  | .var _ x, hn, ⟨b, vs, h1, h2, h3, h4⟩ => ⟨b, vs, h1, repC_R x vs hn h2, h3, h4⟩
  | .row t e xs, hn, .inl h => .inl h
  | .map .., _, h => h
  | .lp k lv cap j, hn, ⟨l, r, h1, h2, h3, h4, h5⟩ => ⟨l, r, h1, h2, h3, repCap_R lv cap hn h4, h5⟩
  | .row t e xs, hn, .inr ⟨b, vs, h1, h2, h3, h4, h5⟩ => .inr ⟨b, vs, h1, repL_mono (fun x vs hx => repD_R t x vs hn hx) xs vs h2, h3, h4, h5⟩
theorem adds_fnd : ∀ (u : List (Nat × Ob)) (ob : List (Nat × Ob)) (us : List Nat) (ob1 : List (Nat × Ob)) (us' : List Nat), adds ob us u = some (ob1, us') →
    (∀ q ∈ u, fnd ob1 q.1 = some q.2 ∧ ¬ q.1 ∈ us) ∧ (∀ j, (∀ q ∈ u, q.1 ≠ j) → fnd ob1 j = fnd ob j) ∧ (∀ j, j ∈ us' ↔ j ∈ us ∨ ∃ q ∈ u, q.1 = j)
  | [], ob, us, ob1, us', h => by
    cases h
    exact ⟨fun q hq => (by cases hq), fun j _ => rfl, fun j => by simp⟩
  | (i, o) :: u, ob, us, ob1, us', h => by
    simp only [adds] at h
    cases hh : has us i with
    | true => rw [hh] at h; cases h
    | false =>
      rw [hh] at h
      have hni : ¬ i ∈ us := fun hm => by rw [(has_iff us i).2 hm] at hh; cases hh
      obtain ⟨h1, h2, h3⟩ := adds_fnd u _ _ ob1 us' h
      refine ⟨fun q hq => ?_, fun j hj => ?_, fun j => ?_⟩
      · rcases List.mem_cons.1 hq with rfl | hq
        · refine ⟨?_, hni⟩
          rw [h2 i (fun q hq e => (h1 q hq).2 (by rw [e]; exact List.mem_cons_self ..)), fnd_cons, if_pos rfl]
        · exact ⟨(h1 q hq).1, fun hm => (h1 q hq).2 (List.mem_cons_of_mem _ hm)⟩
      · rw [h2 j (fun q hq => hj q (List.mem_cons_of_mem _ hq)), fnd_cons, if_neg (fun e => hj (i, o) (List.mem_cons_self ..) e.symm)]
      · rw [h3 j]
        simp only [List.mem_cons, exists_eq_or_imp]
        constructor
        · rintro ((rfl | h) | h)
          · exact .inr (.inl rfl)
          · exact .inl h
          · exact .inr (.inr h)
        · rintro (h | rfl | h)
          · exact .inl (.inr h)
          · exact .inl (.inl rfl)
          · exact .inr h
theorem fnd_upds_map (g : Nat → Option Ob) : ∀ (l : List Nat) (ob : List (Nat × Ob)) (j : Nat), l.Nodup → fnd (upds ob (l.map fun id => (id, g id))) j = if j ∈ l then g j else fnd ob j
  | [], ob, j, _ => by simp [upds]
  | i :: l, ob, j, hn => by
    rw [List.nodup_cons] at hn
    rw [List.map_cons, upds, fnd_upds_map g l _ j hn.2, fnd_upd1]
    by_cases h1 : j ∈ l
    · simp [h1]
    · by_cases h2 : j = i
      · subst h2; simp [h1]
      · simp [h1, h2]
theorem fnd_upds_del : ∀ (l : List Nat) (ob : List (Nat × Ob)) (j : Nat), fnd (upds ob (l.map fun id => (id, none))) j = if j ∈ l then none else fnd ob j
  | [], ob, j => by simp [upds]
  | i :: l, ob, j => by
    rw [List.map_cons, upds, fnd_upds_del l _ j, fnd_upd1]
    by_cases h1 : j ∈ l
    · simp [h1]
    · by_cases h2 : j = i
      · subst h2; simp [h1]
      · simp [h1, h2]
theorem like_symm : ∀ {a b : Ob}, a.like b → b.like a
  | .var .., .var .., h => Eq.symm h
  | .row .., .row .., ⟨h1, h2, h3⟩ => ⟨h1.symm, h2.symm, h3.symm⟩
  | .map .., .map .., ⟨h1, h2⟩ => ⟨h1.symm, h2.symm⟩
  | .lp .., .lp .., _ => trivial
end
end Go.Am
namespace Go.Am
noncomputable section
variable [PI : Inhabited Program]
structure Sh (w w' : World) (l : Nat) : Prop where
  size : w'.heap.size = w.heap.size
  cell : ∀ a, w'.cell? a = w.cell? a
  froz : ∀ a : Addr, a.block ≠ l → w'.frozen? a = w.frozen? a
  obj : ∀ k : Nat, k ≠ l → w'.heap[k]? = w.heap[k]?
theorem Sh.range {w w' : World} {l : Nat} (h : Sh w w' l) {b o : Nat} {cs : List Value} (hr : w.rangeAt b o cs) : w'.rangeAt b o cs := fun j v hv => (h.cell _).trans (hr j v hv)
theorem Sh.there {w w' : World} {l : Nat} (h : Sh w w' l) {b o n : Nat} (hb : b ≠ l) (hr : w.there b o n) : w'.there b o n := fun j hj => ⟨by rw [h.cell]; exact (hr j hj).1, by rw [h.froz _ hb]; exact (hr j hj).2⟩
theorem Sh.keeps {w w' : World} {l : Nat} (h : Sh w w' l) {b : Nat} (hb : b ≠ l) : keeps w w' b := ⟨fun _ _ ht => h.there hb ht, fun r hr => ⟨r, (h.obj b hb).trans hr, rfl⟩⟩
theorem repD_sh {R : Nat → Prop} {w w' : World} {l : Nat} (h : Sh w w' l) : ∀ (t : Ty) (x : t.den) (vs : List Value), repD R w t x vs → repD R w' t x vs
  | .int _, _, _, h => h
  | .bool, _, _, h => h
  | .str, _, _, h => h
  | .unit, _, _, h => h
  | .cons a r, x, _, ⟨p, q, e, h1, h2⟩ => ⟨p, q, e, repD_sh h a x.1 p h1, repD_sh h r x.2 q h2⟩
  | .sl t, xs, _, ⟨a, c, e, hle, hh⟩ => ⟨a, c, e, hle, hh.imp id fun ⟨b, off, cs, h1, h2, h3, h4, h5⟩ =>
      ⟨b, off, cs, h1, h2, by rw [h.size]; exact h3, repL_mono (fun x vs hx => repD_sh h t x vs hx) xs cs h4, h.range h5⟩⟩
abbrev Cx.at (C : Cx) (w : World) : Cx := { C with w := w }
mutual
theorem repC_sh {C : Cx} {w' : World} {l : Nat} (h : Sh C.w w' l) (hne : ∀ i, (C.fd i).isSome = true → C.mu i ≠ some l) : ∀ (x : TV) (vs : List Value), repC C x vs → repC (C.at w') x vs
  | .v _, _, hv => hv
  | .adr id p, _, hv => hv
  | .sl id part, _, ⟨a, n, c, e, hu, h1⟩ => ⟨a, n, c, e, hu, fun ob ho => by
      obtain ⟨t, e', xs, rfl, h2⟩ := h1 ob ho
      exact ⟨t, e', xs, rfl, slRep_mono (fun b _ _ hb => h.there (fun e => hne id (Option.isSome_iff_exists.2 ⟨_, ho⟩) (e ▸ hb))) h2⟩⟩
  | .ro t xs, _, hv => repD_sh h (.sl t) xs _ hv
  | .radr t xs p, _, ⟨b, off, cs, h1, h2, h3, h4, h5⟩ => ⟨b, off, cs, h1, h2, by show b < w'.heap.size; rw [h.size]; exact h3, repL_mono (fun x vs hx => repD_sh h t x vs hx) xs cs h4, h.range h5⟩
  | .agg fs, vs, hv => repCL_sh h hne fs vs hv
  | .arr t _ xs, vs, ⟨h1, h2⟩ => ⟨h1, repL_mono (fun x vs hx => repD_sh h t x vs hx) xs vs h2⟩
  | .tup _, _, hv => hv
  | .clo g cap, _, ⟨cs, e, h1⟩ => ⟨cs, e, repCL_sh h hne cap cs h1⟩
  | .mp id, _, hv => hv
  | .yv id, _, hv => hv
  | .fv _, _, hv => hv
  | .dead, _, hv => hv
theorem repCL_sh {C : Cx} {w' : World} {l : Nat} (h : Sh C.w w' l) (hne : ∀ i, (C.fd i).isSome = true → C.mu i ≠ some l) : ∀ (l : List TV) (vs : List Value), repCL C l vs → repCL (C.at w') l vs
  | [], _, hv => hv
  | x :: l, _, ⟨a, b, e, h1, h2⟩ => ⟨a, b, e, repC_sh h hne x a h1, repCL_sh h hne l b h2⟩
end
mutual
theorem repV_sh {C : Cx} {w' : World} {l : Nat} (h : Sh C.w w' l) (hne : ∀ i, (C.fd i).isSome = true → C.mu i ≠ some l) : ∀ (x : TV) (v : Value), repV C x v → repV (C.at w') x v
  | .v _, _, hv => hv
  | .adr id p, v, hv => repC_sh h hne (.adr id p) [v] hv
  | .sl id part, v, hv => repC_sh h hne (.sl id part) [v] hv
  | .ro t xs, v, hv => repC_sh h hne (.ro t xs) [v] hv
  | .radr t xs p, v, hv => repC_sh h hne (.radr t xs p) [v] hv
  | .agg fs, _, ⟨cs, e, h1⟩ => ⟨cs, e, repCL_sh h hne fs cs h1⟩
  | .arr t _ xs, _, ⟨cs, e, h1, h2⟩ => ⟨cs, e, h1, repL_mono (fun x vs hx => repD_sh h t x vs hx) xs cs h2⟩
  | .tup l, _, ⟨vs, e, h1⟩ => ⟨vs, e, repVL_sh h hne l vs h1⟩
  | .clo g cap, v, hv => repC_sh h hne (.clo g cap) [v] hv
  | .mp id, v, hv => hv
  | .yv id, v, hv => hv
  | .fv n, v, hv => hv
  | .dead, _, hv => hv
theorem repVL_sh {C : Cx} {w' : World} {l : Nat} (h : Sh C.w w' l) (hne : ∀ i, (C.fd i).isSome = true → C.mu i ≠ some l) : ∀ (l : List TV) (vs : List Value), repVL C l vs → repVL (C.at w') l vs
  | [], _, hv => hv
  | x :: l, _, ⟨v, r, e, h1, h2⟩ => ⟨v, r, e, repV_sh h hne x v h1, repVL_sh h hne l r h2⟩
end
theorem repCap_sh {C : Cx} {w' : World} {l : Nat} (h : Sh C.w w' l) (hne : ∀ i, (C.fd i).isSome = true → C.mu i ≠ some l) {tmps : Array Value} : ∀ (lv : List Nat) (cap : List TV), repCap C tmps lv cap → repCap (C.at w') tmps lv cap
  | [], [], h => h
  | _ :: lv, _ :: cap, ⟨h1, h2⟩ => ⟨repV_sh h hne _ _ h1, repCap_sh h hne lv cap h2⟩
  | [], _ :: _, h => h.elim
  | _ :: _, [], h => h.elim
theorem repO_sh {C : Cx} {w' : World} {l : Nat} (h : Sh C.w w' l) (hne : ∀ i, (C.fd i).isSome = true → C.mu i ≠ some l) {id : Nat} (hi : C.mu id ≠ some l) : ∀ (o : Ob), repO C id o → repO (C.at w') id o
  | .var _ x, ⟨b, vs, h1, h2, h3, h4, c, fr, h5, h6⟩ => ⟨b, vs, h1, repC_sh h hne x vs h2, h.range h3, h.there (fun e => hi (e ▸ h1)) h4, c, fr, (h.obj b fun e => hi (e ▸ h1)).trans h5, h6⟩
  | .row t e xs, .inl hh => .inl hh
  | .map k v xs, ⟨h1, h2, r, es, h3, h4, h5⟩ => ⟨h1, h2, r, es, h3, (h.obj r fun e => hi (e ▸ h3)).trans h4, h5⟩
  | .lp k lv cap j, ⟨l', r, h1, h2, h3, h4, h5⟩ => ⟨l', r, h1, (h.obj l' fun e => hi (e ▸ h1)).trans h2, h3, repCap_sh h hne lv cap h4, h5⟩
  | .row t e xs, .inr ⟨b, vs, h1, h2, h3, h4, h5, c, fr, h6⟩ => .inr ⟨b, vs, h1, repL_mono (fun x vs hx => repD_sh h t x vs hx) xs vs h2, h.range h3, h.there (fun e => hi (e ▸ h1)) h4, by show b < w'.heap.size; rw [h.size]; exact h5, c, fr, (h.obj b fun e => hi (e ▸ h1)).trans h6⟩
theorem Mem.sh {O R0 : Nat → Prop} {w0 : World} {C : Cx} (hM : Mem O R0 w0 C) {w' : World} {l : Nat} (h : Sh C.w w' l) (hne : ∀ i, (C.fd i).isSome = true → C.mu i ≠ some l) (hfr : Fr O w0 w') : Mem O R0 w0 (C.at w') :=
  ⟨hM.us, hfr, fun id ob ho => repO_sh h hne (hne id (Option.isSome_iff_exists.2 ⟨ob, ho⟩)) ob (hM.obs id ob ho), hM.inj, hM.notR, hM.own, fun i b h1 h2 => by show b < w'.heap.size; rw [h.size]; exact hM.lt i b h1 h2, hM.ro, hM.ro0, fun b hb => by show b < w'.heap.size; rw [h.size]; exact hM.rlt b hb⟩
theorem putSh {w : World} {r : Nat} {o o' : Obj} (h : w.heap[r]? = some o) (ho : ∀ c t f, o ≠ .cells c t f) (ho' : ∀ c t f, o' ≠ .cells c t f) : Sh w (w.putObj r o') r := by
  refine ⟨World.putObj_size, fun a => ?_, fun a e => ?_, fun k hk => World.putObj_heap_other hk⟩
  · by_cases e : a.block = r
    · unfold World.cell?
      rw [e, h, World.putObj_heap_same (Array.getElem?_eq_some_iff.1 h).1]
      cases o <;> cases o' <;> first | rfl | exact (ho _ _ _ rfl).elim | exact (ho' _ _ _ rfl).elim
    · unfold World.cell?
      rw [World.putObj_heap_other e]
  · unfold World.frozen?
    rw [World.putObj_heap_other e]
theorem shut {w : World} {r : Nat} (h : w.heap[r]? = some (.deferred (some []))) : Sh w (w.putObj r (.deferred none)) r := putSh h (fun _ _ _ e => by cases e) (fun _ _ _ e => by cases e)
end
end Go.Am
namespace Go.Am
noncomputable section
variable [PI : Inhabited Program]
theorem getF_rep {C : Cx} : ∀ (p : List Step) (x y : TV) (vs : List Value), getF x p = some y → repC C x vs → ∃ a m b, vs = a ++ m ++ b ∧ a.length = offP p ∧ repC C y m
  | [], x, y, vs, h, hr => by
    cases h
    exact ⟨[], vs, [], by simp, rfl, hr⟩
  | .f k o :: p, x, y, vs, h, hr => by
    cases x <;> first | (cases h) | skip
    rename_i fs
    unfold getF at h
    split at h
    · rename_i u hu
      cases hb : Nat.beq (cellsL (fs.take k)) o with
      | false => rw [hb] at h; cases h
      | true =>
        rw [hb] at h
        obtain ⟨a, m, b, e, h1, h2, _⟩ := repCL_at (C := C) hr hu
        obtain ⟨a', m', b', e', h1', h2'⟩ := getF_rep p u y m h h2
        refine ⟨a ++ a', m', b' ++ b, by rw [e, e']; simp, ?_, h2'⟩
        rw [List.length_append, h1, h1', Nat.eq_of_beq_eq_true hb]; rfl
    · cases h
  | .i j sz :: p, x, y, vs, h, hr => by
    cases x <;> cases h
theorem freeze_sh {w : World} {g n : Nat} (hn : 0 < n) : Sh w (w.drew.freeze ⟨g, 0, none⟩ n) g := by
  have hne : n ≠ 0 := by omega
  refine ⟨?_, fun a => ?_, fun a ha => ?_, fun k hk => ?_⟩
  · unfold World.freeze
    rw [if_neg hne]
    show (Array.modify w.heap _ _).size = _
    rw [Array.size_modify]
  · unfold World.cell? World.freeze
    rw [if_neg hne]
    show (match (Array.modify w.heap g _)[a.block]? with | some (.cells c _ _) => if a.spot.isSome then none else c[a.off]? | _ => none) = _
    rw [Array.getElem?_modify]
    by_cases e : g = a.block
    · subst e
      rw [if_pos rfl]
      cases w.heap[a.block]? with
      | none => rfl
      | some o => cases o <;> rfl
    · rw [if_neg e]; rfl
  · unfold World.frozen? World.freeze
    rw [if_neg hne]
    show (match (Array.modify w.heap g _)[a.block]? with | some (.cells _ _ (lo, hi)) => decide (lo ≤ a.off) && decide (a.off < hi) | _ => false) = _
    rw [Array.getElem?_modify, if_neg (Ne.symm ha)]
    rfl
  · unfold World.freeze
    rw [if_neg hne]
    show (Array.modify w.heap g _)[k]? = _
    rw [Array.getElem?_modify, if_neg (Ne.symm hk)]
theorem bytes_cells {R : Nat → Prop} {w : World} : ∀ (xs : List Int) (vs : List Value), repL (repD R w (.int .u8)) xs vs → vs = xs.map (.int .u8)
  | [], _, h => h
  | x :: xs, _, ⟨a, b, e, h1, h2⟩ => by
    rw [e, show a = _ from h1, bytes_cells xs b h2]
    rfl
section
variable {P : Program} {K : Ctx} {us us' : List Nat} {ob ob1 : List (Nat × Ob)} {mu : Nat → Option Nat} {R : Nat → Prop} {w : World}
theorem does_grow {w' : World} (hM : Mem K.O K.R0 K.w0 (cx us ob mu R w)) (g : Grow w w') {s : ByteArray} (hadd : adds ob us [] = some (ob1, us')) :
    Does K us ob mu R w ⟨.v (.string s), [], []⟩ us' ob1 (.string s) w' := by
  cases hadd
  exact ⟨mu, R, Ext.grow (C := cx us ob mu R w) hM.rlt g, hM.grow (C := cx us ob mu R w) g, rfl⟩
theorem repEv_runs {g : FuncId} (hS : RepOK P g) (hM : Mem K.O K.R0 K.w0 (cx us ob mu R w)) {X : List TV} {vs : List Value} (hvs : repVL (cx us ob mu R w) X vs) {e : Eff} (h : ((repEv X).run ob).to e) (hadd : adds ob us e.new = some (ob1, us')) :
    Calls P g vs.toArray w fun r w' => ∃ v, r = .returned v ∧ Does K us ob mu R w e us' ob1 v w' := by
  unfold repEv at h
  split at h
  · rename_i s c
    obtain ⟨v0, r0, ev, hi, v1, r1, ev1, hi1, hnil⟩ := hvs
    cases (show r1 = [] from hnil)
    subst ev1
    subst ev
    cases (show v0 = _ from hi)
    cases (show v1 = _ from hi1)
    rcases Tr.to_ite h with ⟨hc, h⟩ | ⟨_, h⟩
    · have hc := of_decide_eq_true hc
      cases Tr.to_ret h
      refine (hS s c w hc.1 hc.2.1 hc.2.2).mono fun r w' hr => ?_
      obtain ⟨rfl, hg⟩ := hr
      exact ⟨_, rfl, does_grow hM hg hadd⟩
    · exact (Tr.to_fail h).elim
  · exact (Tr.to_fail h).elim
theorem strEv1_runs {g : FuncId} {et : TypeId} (hS : StrOK1 P g et) (hZ : StrOK0 P g et) (hM : Mem K.O K.R0 K.w0 (cx us ob mu R w)) {X : List TV} {vs : List Value} (hvs : repVL (cx us ob mu R w) X vs) {e : Eff} (h : ((strEv1 et X).run ob).to e) (hadd : adds ob us e.new = some (ob1, us')) :
    Calls P g vs.toArray w fun r w' => ∃ v, r = .returned v ∧ Does K us ob mu R w e us' ob1 v w' := by
  unfold strEv1 at h
  split at h
  · rename_i i p
    obtain ⟨v0, r0, ev, hi, hnil⟩ := hvs
    cases (show r0 = [] from hnil)
    subst ev
    rw [GTr.run_get] at h
    split at h
    · rename_i T x ho
      split at h
      · rename_i a j hgf
        rw [GTr.run_get] at h
        unfold strRow at h
        split at h
        · rename_i e' xs hoj
          cases hb : Nat.beq et e' && Nat.beq a.cells 1 with
          | false => rw [hb] at h; exact (Tr.to_fail h).elim
          | true =>
            rw [hb] at h
            rw [Bool.and_eq_true] at hb
            have hee := Nat.eq_of_beq_eq_true hb.1
            subst hee
            have hac := Nat.eq_of_beq_eq_true hb.2
            rcases Tr.to_ite h with ⟨hlen, h⟩ | ⟨_, h⟩
            · have hlen := of_decide_eq_true hlen
              obtain ⟨z, hz, h⟩ := Tr.to_bind h
              cases Tr.to_ret h
              cases hadd
              -- the builder's cells
              obtain ⟨ad, ea, hu, had⟩ := hi
              obtain ⟨b, hmb, hadb⟩ := had (by show (fnd ob i).isSome = true; rw [ho]; rfl)
              cases ea
              subst hadb
              obtain ⟨b', ws, k1, k2, k3, k4, c0, fr0, k5, k6⟩ := hM.obs i _ ho
              cases k1.symm.trans hmb
              obtain ⟨A, m, B, e1, e2, e3⟩ := getF_rep p x _ ws hgf k2
              obtain ⟨m1, m2, e4, e5, m3, m4, e6, e7, e8⟩ := (show repCL _ _ _ from e3)
              cases (show m4 = [] from e8)
              rw [List.append_nil] at e6
              subst e6
              have hm1 : m1.length = 1 := by rw [repC_len a m1 e5]; exact hac
              obtain ⟨sa, sn, sc, esl, huj, hsl⟩ := e7
              obtain ⟨t', e'', xs', heq, hsr⟩ := hsl _ hoj
              cases heq
              rcases hsr with ⟨_, h0, _, _⟩ | ⟨gk, c', hmj, hv, hle, hth⟩
              · omega
              · cases hv
                have hcell : w.cell? ⟨b, offP p + 1, none⟩ = some (.slice (some ⟨gk, 0, none⟩) xs.length sc) := by
                  have := k3 (offP p + 1) (.slice (some ⟨gk, 0, none⟩) xs.length sc) (by
                    rw [e1, e4, esl]
                    have : offP p + 1 = (A ++ m1).length := by rw [List.length_append, e2, hm1]
                    rw [this]
                    simp)
                  rwa [Nat.zero_add] at this
                have hjs : (fnd ob j).isSome = true := by rw [hoj]; rfl
                have his : (fnd ob i).isSome = true := by rw [ho]; rfl
                rcases hM.obs j _ hoj with ⟨h5, _⟩ | ⟨g', vs2, h5, h6, h7, h8, h9, tc, tfr, h10⟩
                · have h5 : mu j = none := h5
                  have hmj : mu j = some gk := hmj
                  rw [hmj] at h5; cases h5
                · have h5 : mu j = some g' := h5
                  have hmj : mu j = some gk := hmj
                  rw [hmj] at h5; cases h5
                  have hvs2 := bytes_cells xs vs2 h6
                  refine (hS b (offP p) xs.length sc w gk tc tfr xs hcell hlen.1 hlen.2 hle h10 rfl (hvs2 ▸ h7)).mono fun r w' hr => ?_
                  obtain ⟨rfl, rfl⟩ := hr
                  refine ⟨_, rfl, mu, fun k => k = gk ∨ R k, ?_⟩
                  -- what is given up
                  have hbg : b ≠ gk := fun e => by
                    have := hM.inj i j gk his hjs (e ▸ hmb) hmj
                    subst this
                    rw [ho] at hoj; cases hoj
                  obtain ⟨hM1, hE1⟩ := hM.freeze (id := j) (b := gk) hjs hmj
                  rw [cx_del] at hM1 hE1
                  have hro := part_ro (C := cx us ob mu R w) (R' := fun k => k = gk ∨ R k) (fun _ h => .inr h) (fun b' hb => by cases hmj.symm.trans hb; exact .inl rfl) (hM.obs j _ hoj) (p := none) (a := some ⟨gk, 0, none⟩) (n := xs.length) (c := sc) (.inr ⟨gk, sc, hmj, rfl, hle, hth⟩)
                    (fun x vs h => repD_mono (fun _ h => .inr h) (Nat.le_refl _) (fun _ _ => rfl) _ x vs h)
                  have sh : Sh w (w.drew.freeze ⟨gk, 0, none⟩ xs.length) gk := freeze_sh hlen.1
                  have neG : ∀ q, (fnd (del1 ob j) q).isSome = true → mu q ≠ some gk := fun q hq e => by
                    rw [fnd_del1] at hq
                    by_cases eq : q = j
                    · rw [if_pos eq] at hq; cases hq
                    · rw [if_neg eq] at hq
                      exact eq (hM.inj q j gk hq hjs e hmj)
                  have hown := hM.own j gk hjs hmj
                  have hfr : Fr K.O K.w0 (w.drew.freeze ⟨gk, 0, none⟩ xs.length) := by
                    have fr := hM.fr
                    refine ⟨?_, ?_, ?_, by rw [sh.size]; exact fr.size, fun k hk hO => (sh.obj k fun e => ?_).trans (fr.block k hk hO)⟩
                    · unfold World.freeze; split <;> exact fr.os
                    · unfold World.freeze; split <;> exact fr.tape
                    · unfold World.freeze; split <;> exact fr.output
                    · subst e
                      rcases hown with hh | hh
                      · exact hO hh
                      · omega
                  have hM2 : Mem K.O K.R0 K.w0 (cx us (del1 ob j) mu (fun k => k = gk ∨ R k) (w.drew.freeze ⟨gk, 0, none⟩ xs.length)) := hM1.sh (C := cx us (del1 ob j) mu (fun k => k = gk ∨ R k) w) sh neG hfr
                  have hE2 : Ext (cx us ob mu R w) (cx us (del1 ob j) mu (fun k => k = gk ∨ R k) (w.drew.freeze ⟨gk, 0, none⟩ xs.length)) := by
                    refine ⟨hE1.U, hE1.fd, hE1.R, by show w.heap.size ≤ _; rw [sh.size]; exact Nat.le_refl _, fun k hk => sh.obj k fun e => hM.notR j gk hjs hmj (e ▸ hk), fun id ob' b' hu' hob hmb' => sh.keeps (fun e => ?_)⟩
                    exact neG id (Option.isSome_iff_exists.2 ⟨ob', hob⟩) (e ▸ hmb')
                  have hro2 : repC (cx us (del1 ob j) mu (fun k => k = gk ∨ R k) (w.drew.freeze ⟨gk, 0, none⟩ xs.length)) (.ro (.int .u8) xs) [.slice (some ⟨gk, 0, none⟩) xs.length sc] :=
                    repC_sh (C := cx us (del1 ob j) mu (fun k => k = gk ∨ R k) w) sh neG (.ro (.int .u8) xs) _ hro
                  have hx2 := repC_mono hE2 x ws k2
                  have hy2 : repC (cx us (del1 ob j) mu (fun k => k = gk ∨ R k) (w.drew.freeze ⟨gk, 0, none⟩ xs.length)) (.agg [a, .ro (.int .u8) xs]) m := by
                    refine ⟨m1, [.slice (some ⟨gk, 0, none⟩) xs.length sc], by rw [e4, esl], repC_mono hE2 a m1 e5, [.slice (some ⟨gk, 0, none⟩) xs.length sc], [], by simp, hro2, rfl⟩
                  obtain ⟨A', m', B', f1, f2, f3, f4⟩ := setP_rep p x _ z ws m hz hx2 hy2
                  have hws : A' ++ m ++ B' = ws := by
                    rw [e1] at f1
                    rw [List.append_assoc, List.append_assoc] at f1
                    have i1 := List.append_inj f1 (by rw [e2, f2])
                    have i2 := List.append_inj i1.2 (by rw [f3])
                    rw [e1, ← i1.1, ← i2.2]
                  rw [hws] at f4
                  have hoi : fnd (del1 ob j) i = some (.var T x) := by
                    rw [fnd_del1, if_neg (fun e => by rw [e] at ho; rw [ho] at hoj; cases hoj)]
                    exact ho
                  have hst := store_step hM2 hoi (o' := .var T z) rfl hmb (off := 0) (ys := []) fun hE3 => by
                    refine ⟨b, ws, hmb, repC_mono hE3 z ws f4, sh.range k3, sh.there hbg k4, c0, fr0, (sh.obj b hbg).trans k5, k6⟩
                  exact ⟨hE2.trans hst.1, hst.2, rfl⟩
            · rcases Tr.to_ite h with ⟨hlen, h⟩ | ⟨_, h⟩
              · have hlen := of_decide_eq_true hlen
                cases Tr.to_ret h
                obtain ⟨ad, ea, hu, had⟩ := hi
                obtain ⟨b, hmb, hadb⟩ := had (by show (fnd ob i).isSome = true; rw [ho]; rfl)
                cases ea
                subst hadb
                obtain ⟨b', ws, k1, k2, k3, k4, c0, fr0, k5, k6⟩ := hM.obs i _ ho
                cases k1.symm.trans hmb
                obtain ⟨A, m, B, e1, e2, e3⟩ := getF_rep p x _ ws hgf k2
                obtain ⟨m1, m2, e4, e5, m3, m4, e6, e7, e8⟩ := (show repCL _ _ _ from e3)
                cases (show m4 = [] from e8)
                rw [List.append_nil] at e6
                subst e6
                have hm1 : m1.length = 1 := by rw [repC_len a m1 e5]; exact hac
                obtain ⟨sa, sn, sc, esl, huj, hsl⟩ := e7
                obtain ⟨t', e'', xs', heq, hsr⟩ := hsl _ hoj
                cases heq
                have hcell : w.cell? ⟨b, offP p + 1, none⟩ = some (.slice sa sn sc) := by
                  have := k3 (offP p + 1) (.slice sa sn sc) (by
                    rw [e1, e4, esl]
                    have : offP p + 1 = (A ++ m1).length := by rw [List.length_append, e2, hm1]
                    rw [this]
                    simp)
                  rwa [Nat.zero_add] at this
                have key : sn = 0 ∧ (sa = none ∨ ∃ gk cs fr, sa = some ⟨gk, 0, none⟩ ∧ w.heap[gk]? = some (.cells cs et fr)) := by
                  rcases hsr with ⟨_, h0, aa, hv, hq⟩ | ⟨gk, c', hmj, hv, hle, hth⟩
                  · cases hv
                    rcases hq with hq | hq
                    · exact ⟨rfl, .inl hq⟩
                    · cases hq
                  · cases hv
                    rcases hM.obs j _ hoj with ⟨h5, _⟩ | ⟨g', vs2, h5, h6, h7, h8, h9, tc, tfr, h10⟩
                    · have h5 : mu j = none := h5
                      have hmj : mu j = some gk := hmj
                      rw [hmj] at h5; cases h5
                    · have h5 : mu j = some g' := h5
                      have hmj : mu j = some gk := hmj
                      rw [hmj] at h5; cases h5
                      exact ⟨hlen, .inr ⟨gk, tc, tfr, rfl, h10⟩⟩
                obtain ⟨rfl, hsa⟩ := key
                refine (hZ b (offP p) sc w sa hcell hsa).mono fun r w' hr => ?_
                obtain ⟨rfl, hg⟩ := hr
                exact ⟨_, rfl, does_grow hM hg hadd⟩
              · exact (Tr.to_fail h).elim
        · exact (Tr.to_fail h).elim
      · exact (Tr.to_fail h).elim
    · exact (Tr.to_fail h).elim
  · exact (Tr.to_fail h).elim
theorem cloneK_runs {g : FuncId} {T2 : TypeId} (hC : CloneOK P g T2) (hM : Mem K.O K.R0 K.w0 (cx us ob mu R w)) {t : Ty} {ys : List t.den} {vy : Value} (hy : ∀ w1, Grow w w1 → Elems R w1 t ys vy) {b : Nat} {e : Eff} (h : ((cloneK P T2 b t ys).run ob).to e) (hadd : adds ob us e.new = some (ob1, us')) :
    Calls P g #[vy] w fun r w' => ∃ v, r = .returned v ∧ Does K us ob mu R w e us' ob1 v w' := by
  unfold cloneK at h
  split at h
  · rename_i et hT
    split at h
    · rename_i t' info x0 ht hinfo hz
      cases hu8 : t.isU8 with
      | true => rw [hu8] at h; exact (Tr.to_fail h).elim
      | false =>
        rw [hu8] at h
        simp only [cond_false] at h
        split at h
        · rcases Tr.to_ite h with ⟨hlen, h⟩ | ⟨_, h⟩
          · have hlen := of_decide_eq_true hlen
            cases Tr.to_ret h
            have hnb := (adds_one hadd).1
            obtain ⟨a, c, news, rfl, _, _, hwh⟩ := hy w (Grow.refl w)
            cases a with
            | none =>
              have hys : ys = [] := by
                rcases hwh with h | ⟨_, _, h, _⟩
                · exact h
                · cases h
              subst hys
              refine ((hC none 0 c w).1 rfl rfl).mono fun r w' hr => ?_
              obtain ⟨rfl, hg⟩ := hr
              refine ⟨_, rfl, Does.mk (mu' := fun j => if j = b then none else mu j) (R' := R) rfl hadd (by simp [ids]) fun hb => ?_⟩
              have hM1 := hM.grow (C := cx us ob mu R w) hg
              have hE1 := Ext.grow (C := cx us ob mu R w) hM.rlt hg
              have hE2 := Ext.add (C := cx us ob mu R w') (id := b) (.row t et []) none hb
              rw [cx_add] at hE2
              have hM2 := hM1.add (C := cx us ob mu R w') (id := b) (ob := .row t et []) (m := none) hb (fun b hb => by cases hb) (.inl ⟨add_mu_self, rfl⟩)
              rw [cx_add] at hM2
              refine ⟨hE1.trans hE2, hM2, none, 0, 0, rfl, List.mem_cons_self .., fun ob' ho' => ?_⟩
              simp [fnd_cons] at ho'
              subst ho'
              exact ⟨t, et, [], rfl, .inl ⟨by simp, rfl, none, rfl, .inl rfl⟩⟩
            | some ad =>
              obtain ⟨w1, a1, hg, hrun⟩ := (hC (some ad) ys.length c w).2 ad rfl
              have hM1 := hM.grow (C := cx us ob mu R w) hg
              have hE1 := Ext.grow (C := cx us ob mu R w) hM.rlt hg
              obtain ⟨news1, hs, hr⟩ := (hy w1 hg).src hT
              obtain ⟨v, w', mu', hrun2, hD⟩ := app_run (T1 := T2) (xs := []) hT hz hinfo hM1 hnb hs hr hlen (.inl ⟨⟨some a1, rfl, .inr hu8⟩, rfl⟩) T2
              refine (hrun v w' hrun2).mono fun r w'' hr => ?_
              obtain ⟨rfl, rfl⟩ := hr
              exact ⟨v, rfl, Does.mk rfl hadd (by simp [ids]) fun _ => ⟨hE1.trans hD.1, hD.2.1, hD.2.2⟩⟩
          · exact (Tr.to_fail h).elim
        · exact (Tr.to_fail h).elim
    · exact (Tr.to_fail h).elim
  · exact (Tr.to_fail h).elim
theorem cloneEv_runs {g : FuncId} {T2 : TypeId} (hC : CloneOK P g T2) (hM : Mem K.O K.R0 K.w0 (cx us ob mu R w)) {X : List TV} {vs : List Value} (hvs : repVL (cx us ob mu R w) X vs) {b : Nat} {e : Eff} (h : ((cloneEv P T2 b X).run ob).to e) (hadd : adds ob us e.new = some (ob1, us')) :
    Calls P g vs.toArray w fun r w' => ∃ v, r = .returned v ∧ Does K us ob mu R w e us' ob1 v w' := by
  unfold cloneEv at h
  split at h
  · rename_i t ys
    obtain ⟨v0, r0, ev, hi, hnil⟩ := hvs
    cases (show r0 = [] from hnil)
    subst ev
    refine cloneK_runs hC hM (fun w1 hg => ?_) h hadd
    have hE := Ext.grow (C := cx us ob mu R w) hM.rlt hg
    exact Elems.of_ro (repV_mono hE _ _ hi)
  · rename_i id p
    obtain ⟨v0, r0, ev, hi, hnil⟩ := hvs
    cases (show r0 = [] from hnil)
    subst ev
    rw [GTr.run_get] at h
    split at h
    · rename_i t et ys ho
      refine cloneK_runs hC hM (fun w1 hg => ?_) h hadd
      have hE := Ext.grow (C := cx us ob mu R w) hM.rlt hg
      have hM1 := hM.grow (C := cx us ob mu R w) hg
      have hi1 := repV_mono hE (.sl id p) v0 hi
      obtain ⟨a, n, c, ev, hu, hp⟩ := hi1
      simp only [List.cons.injEq, and_true] at ev
      subst ev
      obtain ⟨t', e', xs', heq, hs⟩ := hp _ ho
      cases heq
      exact Elems.of_row (hM1.obs id _ ho) hs
    · exact (Tr.to_fail h).elim
  · exact (Tr.to_fail h).elim
theorem strEv_runs {g : FuncId} {et : TypeId} (hS : StrOK P g et) (hM : Mem K.O K.R0 K.w0 (cx us ob mu R w)) {X : List TV} {vs : List Value} (hvs : repVL (cx us ob mu R w) X vs) {b : Nat} {e : Eff} (h : ((strEv P et b X).run ob).to e) (hadd : adds ob us e.new = some (ob1, us')) :
    Calls P g vs.toArray w fun r w' => ∃ v, r = .returned v ∧ Does K us ob mu R w e us' ob1 v w' := by
  unfold strEv at h
  cases hb : Nat.beq et 0 with
  | true =>
    rw [hb] at h
    exact repEv_runs (hS.1 (Nat.eq_of_beq_eq_true hb)) hM hvs h hadd
  | false =>
    rw [hb] at h
    have hne : et ≠ 0 := fun e => by rw [e] at hb; cases hb
    cases hb2 : Nat.ble 1000000 et with
    | true =>
      rw [hb2] at h
      exact cloneEv_runs (hS.2.1 (Nat.le_of_ble_eq_true hb2)) hM hvs h hadd
    | false =>
      rw [hb2] at h
      have hlt : et < 1000000 := by
        rcases Nat.lt_or_ge et 1000000 with h | h
        · exact h
        · rw [Nat.ble_eq_true_of_le h] at hb2; cases hb2
      exact strEv1_runs (hS.2.2 hne hlt).1 (hS.2.2 hne hlt).2 hM hvs h hadd
end
end
end Go.Am
namespace Go.Am
noncomputable section
variable [PI : Inhabited Program]
section
variable {K : Ctx} {us us' : List Nat} {ob ob1 : List (Nat × Ob)} {mu : Nat → Option Nat} {R : Nat → Prop} {w : World}
theorem has_true {l : List Nat} {i : Nat} (h : i ∈ l) : has l i = true := (has_iff l i).2 h
theorem has_false {l : List Nat} {i : Nat} (h : ¬ i ∈ l) : has l i = false := by
  cases hb : has l i with
  | false => rfl
  | true => exact absurd ((has_iff l i).1 hb) h
theorem callee_mem (hM : Mem K.O K.R0 K.w0 (cx us ob mu R w)) {pin rs : List TV} {ren lent : List Nat} {pk : Pk} (hP : Packed ob pin rs ren pk) (hd : meets ren lent = false) :
    Mem (ownB pk fun i => mu (ren.getD i 0)) (fun b => R b ∨ ∃ id ∈ lent, (fnd ob id).isSome = true ∧ mu id = some b) w (pkCx pk (fun i => mu (ren.getD i 0)) (fun b => R b ∨ ∃ id ∈ lent, (fnd ob id).isSome = true ∧ mu id = some b) w) := by
  have hE : Ext (cx us ob mu R w) (cx us ob mu (fun b => R b ∨ ∃ id ∈ lent, (fnd ob id).isSome = true ∧ mu id = some b) w) :=
    ⟨fun _ h => h, fun _ o _ h => ⟨o, h, rfl, Ob.like.refl o⟩, fun _ h => .inl h, Nat.le_refl _, fun _ _ => rfl, fun _ _ b _ _ _ => keeps.refl _ b⟩
  have hren := hP.ren us mu (fun b => R b ∨ ∃ id ∈ lent, (fnd ob id).isSome = true ∧ mu id = some b) (fun b => R b ∨ ∃ id ∈ lent, (fnd ob id).isSome = true ∧ mu id = some b) w (fun _ h => h)
  -- a number's origin
  have orig : ∀ i, (pk.fd i).isSome = true → ∃ j, j ∈ ren ∧ ren.getD i 0 = j ∧ idx ren j = i ∧ (fnd ob j).isSome = true := by
    intro i hi
    have hlt : i < pk.obs.length := by
      unfold Pk.fd at hi
      cases h : pk.obs[i]? with
      | none => rw [h] at hi; cases hi
      | some o => exact (List.getElem?_eq_some_iff.1 h).1
    obtain ⟨j, h1, h2, h3, _⟩ := hP.back hlt
    refine ⟨j, h1, h2, h3, ?_⟩
    have := hP.fd h1
    rw [h3] at this
    rw [this, Option.isSome_map] at hi
    exact hi
  have hlent : ∀ j, j ∈ ren → ¬ j ∈ lent := fun j h1 h2 => meets_false hd j h2 h1
  refine ⟨fun i hi => ?_, Fr.refl _ _, fun i o ho => ?_, fun i j b hi hj h1 h2 => ?_, fun i b hi h1 h2 => ?_, fun i b hi h1 => .inl ⟨i, hi, h1⟩, fun i b hi h1 => ?_, fun b hb => .inl hb, fun b hb => hb, fun b hb => ?_⟩
  · show i < pk.obs.length
    have hi : (pk.fd i).isSome = true := hi
    unfold Pk.fd at hi
    cases h : pk.obs[i]? with
    | none => rw [h] at hi; cases hi
    | some o => exact (List.getElem?_eq_some_iff.1 h).1
  · obtain ⟨j, h1, h2, h3, h4⟩ := orig i (Option.isSome_iff_exists.2 ⟨o, ho⟩)
    obtain ⟨o1, ho1⟩ := Option.isSome_iff_exists.1 h4
    have hfd := hP.fd h1
    rw [h3, ho1] at hfd
    have ho : pk.fd i = some o := ho
    rw [hfd] at ho
    cases ho
    rw [← h3]
    refine repO_ren hren h1 ho1 (fun k hk => hP.closed j h1 o1 ho1 k hk) (fun _ _ => rfl) ?_
    exact repO_of hE rfl (fun _ _ => rfl) (hM.obs j o1 ho1)
  · obtain ⟨i', a1, a2, a3, a4⟩ := orig i hi
    obtain ⟨j', b1, b2, b3, b4⟩ := orig j hj
    have h1 : mu (ren.getD i 0) = some b := h1
    have h2 : mu (ren.getD j 0) = some b := h2
    rw [a2] at h1
    rw [b2] at h2
    have := hM.inj i' j' b a4 b4 h1 h2
    rw [← a3, ← b3, this]
  · obtain ⟨j, a1, a2, a3, a4⟩ := orig i hi
    have h1 : mu (ren.getD i 0) = some b := h1
    rw [a2] at h1
    rcases h2 with h2 | ⟨id, b1, b2, b3⟩
    · exact hM.notR j b a4 h1 h2
    · have := hM.inj j id b a4 b2 h1 b3
      subst this
      exact hlent j a1 b1
  · obtain ⟨j, a1, a2, a3, a4⟩ := orig i hi
    have h1 : mu (ren.getD i 0) = some b := h1
    rw [a2] at h1
    exact hM.lt j b a4 h1
  · rcases hb with hb | ⟨id, b1, b2, b3⟩
    · exact hM.rlt b hb
    · exact hM.lt id b b2 b3
open Classical in
theorem call_done (hM : Mem K.O K.R0 K.w0 (cx us ob mu R w)) {pin rs : List TV} {ren lent : List Nat} {pk r : Pk} (hP : Packed ob pin rs ren pk) (hd : meets ren lent = false) (hpin : ∀ i ∈ idsL pk.pins, i < pk.obs.length) (hrus : ∀ j ∈ ren, j ∈ us) (hlus : ∀ j ∈ lent, j ∈ us)
    (hfull : r.full (idsL pk.pins) = true) {b : Nat} {v : Value} {mu' : Nat → Option Nat} {R' : Nat → Prop} {w' : World}
    (hMr : Mem (ownB pk fun i => mu (ren.getD i 0)) (fun b => R b ∨ ∃ id ∈ lent, (fnd ob id).isSome = true ∧ mu id = some b) w (pkCx r mu' R' w')) (hv : repV (pkCx r mu' R' w') (r.roots.headD .dead) v)
    (hp : ∀ i ∈ idsL pk.pins, ∀ o', r.fd i = some o' → ∃ o, pk.fd i = some o ∧ mu' i = mu (ren.getD i 0) ∧ o.like o' ∧ ∀ b, mu (ren.getD i 0) = some b → keeps w w' b) (hadd : adds ob us (callEff b ren lent (idsL pk.pins) r).new = some (ob1, us')) :
    Does K us ob mu R w (callEff b ren lent (idsL pk.pins) r) us' ob1 v w' := by
  -- names
  generalize hpins : idsL pk.pins = pins at *
  let back : Nat → Nat := fun i => if has pins i then ren.getD i 0 else b + i
  let RL : Nat → Prop := fun b => R b ∨ ∃ id ∈ lent, (fnd ob id).isSome = true ∧ mu id = some b
  let muc : Nat → Option Nat := fun i => mu (ren.getD i 0)
  let Rf : Nat → Prop := if r.noRo then R else R'
  let news : List (Nat × Ob) := (callEff b ren lent pins r).new
  obtain ⟨ha1, ha2, ha3⟩ := adds_fnd news ob us ob1 us' hadd
  have hnews : ∀ q, q ∈ news ↔ ∃ i o, r.fd i = some o ∧ ¬ i ∈ pins ∧ q = (b + i, o.ren back) := by
    intro q
    simp only [news, callEff, List.mem_filterMap, List.mem_range]
    constructor
    · rintro ⟨i, hi, h⟩
      cases hh : has pins i with
      | true => rw [hh] at h; cases h
      | false =>
        rw [hh] at h
        simp only [Bool.false_eq_true, if_false] at h
        cases ho : r.fd i with
        | none => rw [ho] at h; cases h
        | some o =>
          rw [ho] at h
          cases h
          exact ⟨i, o, ho, fun hm => (by rw [has_true hm] at hh; cases hh), rfl⟩
    · rintro ⟨i, o, ho, hn, rfl⟩
      refine ⟨i, ?_, by rw [has_false hn, ho]; rfl⟩
      unfold Pk.fd at ho
      cases h : r.obs[i]? with
      | none => rw [h] at ho; cases ho
      | some o => exact (List.getElem?_eq_some_iff.1 h).1
  have hnew_ne : ∀ i o, r.fd i = some o → ¬ i ∈ pins → ¬ (b + i) ∈ us := fun i o ho hn => (ha1 _ ((hnews _).2 ⟨i, o, ho, hn, rfl⟩)).2
  have hpins_ren : ∀ i ∈ pins, ren.getD i 0 ∈ ren ∧ idx ren (ren.getD i 0) = i := by
    intro i hi
    obtain ⟨j, h1, h2, h3, _⟩ := hP.back (hpin i hi)
    rw [h2]
    exact ⟨h1, h3⟩
  have hback_pin : ∀ i ∈ pins, back i = ren.getD i 0 := fun i hi => by simp [back, has_true hi]
  have hback_new : ∀ i, ¬ i ∈ pins → back i = b + i := fun i hi => by simp [back, has_false hi]
  -- what stands where
  let dels : List Nat := bif r.noRo then [] else lent
  let g : Nat → Option Ob := fun id => if has pins (idx ren id) then (r.fd (idx ren id)).map (Ob.ren back) else none
  have hfd : ∀ j, fnd (upds ob1 (callEff b ren lent pins r).upd) j = if j ∈ dels then none else if j ∈ ren then g j else fnd ob1 j := by
    intro j
    show fnd (upds ob1 ((ren.map fun id => (id, g id)) ++ (dels.map fun id => (id, none)))) j = _
    rw [upds_append, fnd_upds_del, fnd_upds_map g ren ob1 j hP.nodup]
  have hdl : ∀ j ∈ dels, j ∈ lent ∧ r.noRo = false := by
    intro j hj
    cases hn : r.noRo with
    | true => simp [dels, hn] at hj
    | false => simp [dels, hn] at hj; exact ⟨hj, rfl⟩
  have hrl : ∀ j ∈ ren, ¬ j ∈ lent := fun j h1 h2 => meets_false hd j h2 h1
  let newIds : Nat → Prop := fun j => ∃ i o, r.fd i = some o ∧ ¬ i ∈ pins ∧ j = b + i
  have hnus : ∀ j, newIds j → ¬ j ∈ us := fun j ⟨i, o, h1, h2, h3⟩ => by rw [h3]; exact hnew_ne i o h1 h2
  -- lent rows are known numbers, where they are there
  have hus' : ∀ j, j ∈ us' ↔ j ∈ us ∨ newIds j := by
    intro j
    rw [ha3 j]
    constructor
    · rintro (h | ⟨q, h1, h2⟩)
      · exact .inl h
      · obtain ⟨i, o, h3, h4, h5⟩ := (hnews q).1 h1
        exact .inr ⟨i, o, h3, h4, by rw [← h2, h5]⟩
    · rintro (h | ⟨i, o, h3, h4, h5⟩)
      · exact .inl h
      · exact .inr ⟨_, (hnews _).2 ⟨i, o, h3, h4, rfl⟩, h5.symm⟩
  have hob1_us : ∀ j, j ∈ us → fnd ob1 j = fnd ob j := fun j hj => ha2 j (fun q hq e => by
    obtain ⟨i, o, h3, h4, h5⟩ := (hnews q).1 hq
    rw [h5] at e
    exact hnew_ne i o h3 h4 (by rw [show b + i = j from e]; exact hj))
  let muf : Nat → Option Nat := fun j => if newIds j then mu' (j - b) else if j ∈ ren ∧ idx ren j ∈ pins then mu' (idx ren j) else mu j
  have hmu_new : ∀ i o, r.fd i = some o → ¬ i ∈ pins → muf (b + i) = mu' i := fun i o h1 h2 => by
    have hn : newIds (b + i) := ⟨i, o, h1, h2, rfl⟩
    simp only [muf, if_pos hn]
    congr 1; omega
  have hmu_pin : ∀ i ∈ pins, muf (ren.getD i 0) = mu' i := fun i hi => by
    obtain ⟨h1, h2⟩ := hpins_ren i hi
    have hn : ¬ newIds (ren.getD i 0) := fun h => hnus _ h (hrus _ h1)
    show (if newIds (ren.getD i 0) then _ else if ren.getD i 0 ∈ ren ∧ idx ren (ren.getD i 0) ∈ pins then _ else _) = _
    rw [if_neg hn, if_pos ⟨h1, by rw [h2]; exact hi⟩, h2]
  have hmu_old : ∀ j, j ∈ us → (j ∈ ren → ¬ idx ren j ∈ pins) → muf j = mu j := fun j hj hn => by
    have h1 : ¬ newIds j := fun h => hnus j h hj
    have h2 : ¬ (j ∈ ren ∧ idx ren j ∈ pins) := fun h => hn h.1 h.2
    simp only [muf, if_neg h1, if_neg h2]
  let D : Cx := cx us' (upds ob1 (callEff b ren lent pins r).upd) muf Rf w'
  -- an object behind the call: one of the callee's, or one that was
  have cls : ∀ j o, D.fd j = some o → (∃ i o', r.fd i = some o' ∧ o = o'.ren back ∧ j = back i ∧ muf j = mu' i ∧ (i ∈ pins → ∃ oc, pk.fd i = some oc ∧ mu' i = muc i ∧ oc.like o' ∧ ∀ b, muc i = some b → keeps w w' b)) ∨
      (j ∈ us ∧ ¬ j ∈ ren ∧ ¬ j ∈ dels ∧ fnd ob j = some o ∧ muf j = mu j) := by
    intro j o h
    have h : fnd (upds ob1 (callEff b ren lent pins r).upd) j = some o := h
    rw [hfd] at h
    by_cases h1 : j ∈ dels
    · simp [h1] at h
    · simp only [h1, if_false] at h
      by_cases h2 : j ∈ ren
      · simp only [h2, if_true, g] at h
        by_cases h3 : idx ren j ∈ pins
        · simp only [has_true h3, if_true] at h
          cases ho : r.fd (idx ren j) with
          | none => rw [ho] at h; cases h
          | some o' =>
            rw [ho] at h
            cases h
            have hj : j = ren.getD (idx ren j) 0 := by
              unfold idx
              rw [List.getD, get_idxOf h2]; rfl
            left
            refine ⟨idx ren j, o', ho, rfl, ?_, ?_, fun _ => hp _ h3 o' ho⟩
            · rw [hback_pin _ h3]; exact hj
            · have := hmu_pin _ h3
              rw [← hj] at this; exact this
        · simp [has_false h3] at h
      · simp only [h2, if_false] at h
        by_cases h3 : newIds j
        · obtain ⟨i, o', h4, h5, h6⟩ := h3
          have h7 := (ha1 _ ((hnews _).2 ⟨i, o', h4, h5, rfl⟩)).1
          simp only at h7
          rw [h6, h7] at h
          cases h
          left
          exact ⟨i, o', h4, rfl, by rw [hback_new i h5]; exact h6, by rw [h6]; exact hmu_new i o' h4 h5, fun hi => absurd hi h5⟩
        · right
          have h4 : fnd ob1 j = fnd ob j := ha2 j (fun q hq e => by
            obtain ⟨i, o, h5, h6, h7⟩ := (hnews q).1 hq
            exact h3 ⟨i, o, h5, h6, by rw [← e, h7]⟩)
          rw [h4] at h
          have hju := hM.us j (Option.isSome_iff_exists.2 ⟨o, h⟩)
          exact ⟨hju, h2, h1, h, hmu_old j hju (fun h => absurd h h2)⟩
  -- blocks of what was, and was not handed over
  have blk_old : ∀ j bl, (fnd ob j).isSome = true → ¬ j ∈ ren → mu j = some bl → ¬ ownB pk muc bl := by
    rintro j bl h1 h2 h3 ⟨i, h4, h5⟩
    have hlt : i < pk.obs.length := by
      unfold Pk.fd at h4
      cases h : pk.obs[i]? with
      | none => rw [h] at h4; cases h4
      | some o => exact (List.getElem?_eq_some_iff.1 h).1
    obtain ⟨j', k1, k2, k3, _⟩ := hP.back hlt
    have h5 : mu (ren.getD i 0) = some bl := h5
    rw [k2] at h5
    have h6 : (fnd ob j').isSome = true := by
      have := hP.fd k1
      rw [k3] at this
      rw [this, Option.isSome_map] at h4
      exact h4
    have := hM.inj j j' bl h1 h6 h3 h5
    exact h2 (this ▸ k1)
  have own_K : ∀ bl, ownB pk muc bl → (K.O bl ∨ K.w0.heap.size ≤ bl) ∧ ¬ R bl ∧ bl < w.heap.size := by
    rintro bl ⟨i, h4, h5⟩
    have hlt : i < pk.obs.length := by
      unfold Pk.fd at h4
      cases h : pk.obs[i]? with
      | none => rw [h] at h4; cases h4
      | some o => exact (List.getElem?_eq_some_iff.1 h).1
    obtain ⟨j', k1, k2, k3, _⟩ := hP.back hlt
    have h5 : mu (ren.getD i 0) = some bl := h5
    rw [k2] at h5
    have h6 : (fnd ob j').isSome = true := by
      have := hP.fd k1
      rw [k3] at this
      rw [this, Option.isSome_map] at h4
      exact h4
    exact ⟨hM.own j' bl h6 h5, hM.notR j' bl h6 h5, hM.lt j' bl h6 h5⟩
  have hwb : ∀ bl, bl < w.heap.size → ¬ ownB pk muc bl → w'.heap[bl]? = w.heap[bl]? := fun bl h1 h2 => hMr.fr.block bl h1 h2
  have hRf : ∀ bl, R bl → Rf bl := by
    intro bl h
    cases hn : r.noRo with
    | true => simp only [Rf, hn, if_true]; exact h
    | false => simp only [Rf, hn]; exact hMr.ro0 bl (.inl h)
  have hRf' : ∀ bl, Rf bl → R' bl ∧ (r.noRo = true → R bl) := by
    intro bl h
    cases hn : r.noRo with
    | true => simp only [Rf, hn, if_true] at h; exact ⟨hMr.ro0 bl (.inl h), fun _ => h⟩
    | false => simp only [Rf, hn] at h; exact ⟨h, fun hh => by cases hh⟩
  -- the callee's things, with the caller's view of what is read alone
  have hor : ∀ i o, r.fd i = some o → repO (pkCx r mu' Rf w') i o := by
    intro i o ho
    have h := hMr.obs i o ho
    cases hn : r.noRo with
    | false =>
      have : Rf = R' := by simp only [Rf, hn]; rfl
      rw [this]; exact h
    | true =>
      have hall : obNoRo (some o) = true := by
        have h1 := hn
        simp only [Pk.noRo, Bool.and_eq_true] at h1
        refine List.all_eq_true.1 h1.2 _ ?_
        unfold Pk.fd at ho
        cases h : r.obs[i]? with
        | none => rw [h] at ho; cases ho
        | some q => rw [h] at ho; have ho : q = some o := ho; rw [← ho]; exact List.mem_of_getElem? h
      exact repO_R o hall h
  have hvr : repV (pkCx r mu' Rf w') (r.roots.headD .dead) v := by
    cases hn : r.noRo with
    | false =>
      have : Rf = R' := by simp only [Rf, hn]; rfl
      rw [this]; exact hv
    | true =>
      have h1 := hn
      simp only [Pk.noRo, Bool.and_eq_true] at h1
      cases hr : r.roots with
      | nil => exact trivial
      | cons x l =>
        rw [hr] at h1 hv
        simp only [noRoL, Bool.and_eq_true] at h1
        exact repV_R x v h1.1.1 hv
  -- renaming
  let S : Nat → Prop := fun i => i ∈ pins ∨ (r.fd i).isSome = true
  have hRen : Ren (pkCx r mu' Rf w') D back S := by
    refine ⟨fun i hi => ?_, fun i hi => ?_, fun i hi hs => ?_, fun _ h => h, Nat.le_refl _, fun _ _ => rfl, fun _ _ _ h => h⟩
    · show back i ∈ us'
      by_cases h1 : i ∈ pins
      · rw [hback_pin i h1]; exact (hus' _).2 (.inl (hrus _ (hpins_ren i h1).1))
      · rcases hi with hi | hi
        · exact absurd hi h1
        · obtain ⟨o, ho⟩ := Option.isSome_iff_exists.1 hi
          rw [hback_new i h1]
          exact (hus' _).2 (.inr ⟨i, o, ho, h1, rfl⟩)
    · show fnd (upds ob1 (callEff b ren lent pins r).upd) (back i) = (r.fd i).map (Ob.ren back)
      rw [hfd]
      by_cases h1 : i ∈ pins
      · obtain ⟨k1, k2⟩ := hpins_ren i h1
        rw [hback_pin i h1]
        have hnd : ¬ ren.getD i 0 ∈ dels := fun h => hrl _ k1 (hdl _ h).1
        simp only [hnd, if_false, k1, if_true, g, k2, has_true h1]
      · rcases hi with hi | hi
        · exact absurd hi h1
        · obtain ⟨o, ho⟩ := Option.isSome_iff_exists.1 hi
          rw [hback_new i h1]
          have hnu := hnew_ne i o ho h1
          have hnr : ¬ (b + i) ∈ ren := fun h => hnu (hrus _ h)
          have hnd : ¬ (b + i) ∈ dels := fun h => hnu (hlus _ (hdl _ h).1)
          simp only [hnd, if_false, hnr]
          rw [(ha1 _ ((hnews _).2 ⟨i, o, ho, h1, rfl⟩)).1, ho]
          rfl
    · show muf (back i) = mu' i
      by_cases h1 : i ∈ pins
      · rw [hback_pin i h1]; exact hmu_pin i h1
      · obtain ⟨o, ho⟩ := Option.isSome_iff_exists.1 hs
        rw [hback_new i h1]; exact hmu_new i o ho h1
  -- closedness of the callee's answer
  have hS_obs : ∀ i o, r.fd i = some o → subL o.ids S := by
    intro i o ho k hk
    unfold Pk.full at hfull
    simp only [Bool.and_eq_true] at hfull
    have h1 := List.all_eq_true.1 hfull.2 (some o) (by
      unfold Pk.fd at ho
      cases h : r.obs[i]? with
      | none => rw [h] at ho; cases ho
      | some q => rw [h] at ho; have ho : q = some o := ho; rw [← ho]; exact List.mem_of_getElem? h)
    have h2 := List.all_eq_true.1 h1 k hk
    rcases Bool.or_eq_true_iff.1 h2 with h | h
    · exact .inl ((has_iff _ _).1 h)
    · exact .inr h
  have hS_root : subL (r.roots.headD .dead).ids S := by
    intro k hk
    unfold Pk.full at hfull
    simp only [Bool.and_eq_true] at hfull
    have h2 := List.all_eq_true.1 hfull.1 k (by
      cases hr : r.roots with
      | nil => rw [hr] at hk; simp [TV.ids] at hk
      | cons x l => rw [hr] at hk; simp only [idsL, List.mem_append]; exact .inl hk)
    rcases Bool.or_eq_true_iff.1 h2 with h | h
    · exact .inl ((has_iff _ _).1 h)
    · exact .inr h
  -- what the caller keeps
  have hE : Ext (cx us ob mu R w) D := by
    refine ⟨fun j hj => (hus' j).2 (.inl hj), fun j o hj h => ?_, hRf, hMr.fr.size, fun bl h => hwb bl (hM.rlt bl h) (fun ho => (own_K bl ho).2.1 h), fun j o bl hj h hb => ?_⟩
    rcases cls j o h with ⟨i, o', h1, h2, h3, h4, h5⟩ | ⟨_, _, _, h4, h5⟩
    · have hip : i ∈ pins := by
        by_cases h6 : i ∈ pins
        · exact h6
        · rw [hback_new i h6] at h3
          exact absurd hj (by rw [h3]; exact hnew_ne i o' h1 h6)
      obtain ⟨oc, k1, k2, k3, _⟩ := h5 hip
      obtain ⟨m1, m2⟩ := hpins_ren i hip
      rw [hback_pin i hip] at h3
      have hf := hP.fd m1
      rw [m2, k1] at hf
      cases ho : fnd ob (ren.getD i 0) with
      | none => rw [ho] at hf; cases hf
      | some o1 =>
        rw [ho] at hf
        cases hf
        rw [← h3] at ho
        refine ⟨o1, ho, ?_, ?_⟩
        · show muf j = mu j
          rw [h4, k2]
          show mu (ren.getD i 0) = mu j
          rw [← h3]
        · rw [h2]
          exact (like_symm (ren_like _ o1)).trans (k3.trans (like_symm (ren_like _ o')))
    · exact ⟨o, h4, h5, Ob.like.refl o⟩
    · rcases cls j o h with ⟨i, o', h1, h2, h3, h4, h5⟩ | ⟨h1, h2, _, h4, _⟩
      · have hip : i ∈ pins := by
          by_cases h6 : i ∈ pins
          · exact h6
          · rw [hback_new i h6] at h3
            exact absurd hj (by rw [h3]; exact hnew_ne i o' h1 h6)
        obtain ⟨_, _, _, _, k4⟩ := h5 hip
        rw [hback_pin i hip] at h3
        exact k4 bl (by show mu (ren.getD i 0) = _; rw [← h3]; exact hb)
      · have hs : (fnd ob j).isSome = true := by simp [h4]
        exact keeps_of_blk (hwb bl (hM.lt j bl hs hb) (blk_old j bl hs h2 hb))
  -- memory
  have hMD : Mem K.O K.R0 K.w0 D := by
    have own_r : ∀ i bl, (r.fd i).isSome = true → mu' i = some bl → (ownB pk muc bl ∨ w.heap.size ≤ bl) ∧ bl < w'.heap.size ∧ ¬ R' bl := fun i bl h1 h2 =>
      ⟨hMr.own i bl h1 h2, hMr.lt i bl h1 h2, hMr.notR i bl h1 h2⟩
    refine ⟨fun j hj => ?_, ?_, fun j o h => ?_, fun i j bl hi hj h1 h2 => ?_, fun j bl hj h1 h2 => ?_, fun j bl hj h1 => ?_, fun j bl hj h1 => ?_, fun bl h => ?_, fun bl h => hRf bl (hM.ro0 bl h), fun bl h => hMr.rlt bl (hRf' bl h).1⟩
    · obtain ⟨o, ho⟩ := Option.isSome_iff_exists.1 hj
      rcases cls j o ho with ⟨i, o', h1, h2, h3, h4, h5⟩ | ⟨h1, _⟩
      · rw [h3]; exact hRen.U i (.inr (by simp [h1]))
      · exact (hus' j).2 (.inl h1)
    · have h1 := hM.fr
      have h2 := hMr.fr
      refine ⟨h2.os.trans h1.os, h2.tape.trans h1.tape, h2.output.trans h1.output, Nat.le_trans h1.size h2.size, fun k hk hO => ?_⟩
      have hk' : k < w.heap.size := Nat.lt_of_lt_of_le hk h1.size
      refine (hwb k hk' fun ho => ?_).trans (h1.block k hk hO)
      rcases (own_K k ho).1 with h | h
      · exact hO h
      · omega
    · rcases cls j o h with ⟨i, o', h1, h2, h3, h4, h5⟩ | ⟨h1, h2, h3, h4, h5⟩
      · rw [h2, h3]
        exact repO_ren hRen (.inr (by simp [h1])) h1 (hS_obs i o' h1) (fun _ _ => rfl) (hor i o' h1)
      · refine repO_of hE h5 (fun bl hb => ?_) (hM.obs j o h4)
        have hs : (fnd ob j).isSome = true := by simp [h4]
        exact hwb bl (hM.lt j bl hs hb) (blk_old j bl hs h2 hb)
    · obtain ⟨o1, ho1⟩ := Option.isSome_iff_exists.1 hi
      obtain ⟨o2, ho2⟩ := Option.isSome_iff_exists.1 hj
      have h1 : muf i = some bl := h1
      have h2 : muf j = some bl := h2
      rcases cls i o1 ho1 with ⟨i', o', a1, a2, a3, a4, a5⟩ | ⟨a1, a2, a3, a4, a5⟩ <;> rcases cls j o2 ho2 with ⟨j', o'', b1, b2, b3, b4, b5⟩ | ⟨b1, b2, b3, b4, b5⟩
      · rw [a4] at h1; rw [b4] at h2
        have := hMr.inj i' j' bl (by show (r.fd i').isSome = true; simp [a1]) (by show (r.fd j').isSome = true; simp [b1]) h1 h2
        rw [a3, b3, this]
      · rw [a4] at h1; rw [b5] at h2
        have hs : (fnd ob j).isSome = true := by simp [b4]
        rcases (own_r i' bl (by simp [a1]) h1).1 with h | h
        · exact absurd h (blk_old j bl hs b2 h2)
        · have := hM.lt j bl hs h2; exact absurd h (by show ¬ w.heap.size ≤ bl; have : bl < w.heap.size := this; omega)
      · rw [a5] at h1; rw [b4] at h2
        have hs : (fnd ob i).isSome = true := by simp [a4]
        rcases (own_r j' bl (by simp [b1]) h2).1 with h | h
        · exact absurd h (blk_old i bl hs a2 h1)
        · have := hM.lt i bl hs h1; exact absurd h (by show ¬ w.heap.size ≤ bl; have : bl < w.heap.size := this; omega)
      · rw [a5] at h1; rw [b5] at h2
        exact hM.inj i j bl (by show (fnd ob i).isSome = true; simp [a4]) (by show (fnd ob j).isSome = true; simp [b4]) h1 h2
    · obtain ⟨o, ho⟩ := Option.isSome_iff_exists.1 hj
      have h1 : muf j = some bl := h1
      rcases cls j o ho with ⟨i, o', a1, a2, a3, a4, a5⟩ | ⟨a1, a2, a3, a4, a5⟩
      · rw [a4] at h1
        exact (own_r i bl (by simp [a1]) h1).2.2 (hRf' bl h2).1
      · rw [a5] at h1
        have hs : (fnd ob j).isSome = true := by simp [a4]
        cases hn : r.noRo with
        | true => exact hM.notR j bl hs h1 ((hRf' bl h2).2 hn)
        | false =>
          rcases hMr.ro bl (hRf' bl h2).1 with (h | ⟨id, k1, k2, k3⟩) | h | h
          · exact hM.notR j bl hs h1 h
          · have := hM.inj j id bl hs k2 h1 k3
            subst this
            exact a3 (by simp [dels, hn]; exact k1)
          · exact blk_old j bl hs a2 h1 h
          · have := hM.lt j bl hs h1
            have : bl < w.heap.size := this
            omega
    · obtain ⟨o, ho⟩ := Option.isSome_iff_exists.1 hj
      have h1 : muf j = some bl := h1
      rcases cls j o ho with ⟨i, o', a1, a2, a3, a4, a5⟩ | ⟨a1, a2, a3, a4, a5⟩
      · rw [a4] at h1
        rcases (own_r i bl (by simp [a1]) h1).1 with h | h
        · exact (own_K bl h).1
        · exact .inr (Nat.le_trans hM.fr.size h)
      · rw [a5] at h1
        exact hM.own j bl (by show (fnd ob j).isSome = true; simp [a4]) h1
    · obtain ⟨o, ho⟩ := Option.isSome_iff_exists.1 hj
      have h1 : muf j = some bl := h1
      rcases cls j o ho with ⟨i, o', a1, a2, a3, a4, a5⟩ | ⟨a1, a2, a3, a4, a5⟩
      · rw [a4] at h1
        exact (own_r i bl (by simp [a1]) h1).2.1
      · rw [a5] at h1
        exact Nat.lt_of_lt_of_le (hM.lt j bl (by show (fnd ob j).isSome = true; simp [a4]) h1) hMr.fr.size
    · rcases hMr.ro bl (hRf' bl h).1 with (h | ⟨id, k1, k2, k3⟩) | h | h
      · exact hM.ro bl h
      · exact .inr (hM.own id bl k2 k3)
      · exact .inr (own_K bl h).1
      · exact .inr (.inr (Nat.le_trans hM.fr.size h))
  exact ⟨muf, Rf, hE, hMD, repV_ren hRen _ v hS_root hvr⟩
theorem call_core {E : Env} (hE : EnvOK E) (hM : Mem K.O K.R0 K.w0 (cx us ob mu R w)) {xs : List TV} {vs : List Value} (hvs : repVL (cx us ob mu R w) xs vs) {g : FuncId} {Ts : List TypeId} {b : Nat} {e : Eff}
    (h : ((callEv0 E g Ts xs b).run ob).to e) (hadd : adds ob us e.new = some (ob1, us')) :
    (∃ fn, E.P.funcs[g]? = some fn ∧ fn.body.isNone = false ∧ (fn.name == "runtime.NumGoroutine") = false) ∧ Calls E.P g vs.toArray w fun e' w' => ∃ v, e' = .returned v ∧ Does K us ob mu R w e us' ob1 v w' := by
  unfold callEv0 at h
  obtain ⟨ys, lent, h, hargs⟩ := argsG_ok ob _ _ _ _ e h
  obtain ⟨ren, pk, h, hP⟩ := packA_to h
  cases hd : meets ren lent with
  | true => rw [hd] at h; exact (Tr.to_fail h).elim
  | false =>
    rw [hd] at h
    cases hbig : Nat.ble bigK g with
    | true => rw [hbig] at h; exact (Tr.to_fail h).elim
    | false =>
    rw [hbig] at h
    obtain ⟨r, hr, h⟩ := Tr.to_bind (show (Tr.bind (E.call g pk) _).to e from h)
    cases hfull : r.full (idsL pk.pins) with
    | false => rw [hfull] at h; exact (Tr.to_fail h).elim
    | true =>
      rw [hfull] at h
      cases Tr.to_ret h
      have hC := hE.call g pk r (by
        rcases Nat.lt_or_ge g bigK with h | h
        · exact h
        · rw [Nat.ble_eq_true_of_le h] at hbig; cases hbig) hr
      obtain ⟨hys, hlus⟩ := hargs K us mu R (fun b => R b ∨ ∃ id ∈ lent, (fnd ob id).isSome = true ∧ mu id = some b) w hM (fun _ h => .inl h) (fun id hi b h1 h2 => .inr ⟨id, hi, h1, h2⟩) _ hvs
      have hysU := repVL_U ys _ hys
      have hrus : ∀ j ∈ ren, j ∈ us := by
        intro j hj
        rcases hP.origin j hj with h | h | ⟨i, o, h1, h2⟩
        · exact hysU j h
        · exact hysU j h
        · exact repO_U o (hM.obs i o h1) j h2
      have hroots : repVL (pkCx pk (fun i => mu (ren.getD i 0)) (fun b => R b ∨ ∃ id ∈ lent, (fnd ob id).isSome = true ∧ mu id = some b) w) pk.roots vs := by
        rw [hP.roots]
        exact repVL_ren (hP.ren us mu _ _ w (fun _ h => h)) ys _ (fun i hi => hP.ids i hi) hys
      have hpin : ∀ i ∈ idsL pk.pins, i < pk.obs.length := fun i hi => pins_lt (callee_mem hM hP hd) hroots hi
      have hrun := hC.runs w (fun i => mu (ren.getD i 0)) (fun b => R b ∨ ∃ id ∈ lent, (fnd ob id).isSome = true ∧ mu id = some b) _ (callee_mem hM hP hd) hroots
      refine ⟨hC.enters, hrun.mono fun e' w' he => ?_⟩
      obtain ⟨v, mu', R', rfl, hMr, hv, hpp⟩ := he
      exact ⟨v, rfl, call_done hM hP hd hpin hrus hlus hfull hMr hv hpp hadd⟩
theorem GTr.run_bind {γ δ : Type} (fd : List (Nat × Ob)) (f : γ → Tr δ) : ∀ g : GTr γ, (g.bind f).run fd = (g.run fd).bind f
  | .done t => rfl
  | .get id k => GTr.run_bind fd f (k (fnd fd id))
  | .ite b t e => by
    show Tr.ite b ((t.bind f).run fd) ((e.bind f).run fd) = _
    rw [GTr.run_bind fd f t, GTr.run_bind fd f e]; rfl
theorem fnd_some {l : List (Nat × Ob)} {id : Nat} {o : Ob} : fnd l id = some o → (id, o) ∈ l := by
  induction l with
  | nil => intro h; cases h
  | cons q l ih =>
    intro h
    obtain ⟨j, p⟩ := q
    by_cases e : j = id
    · subst e
      simp only [fnd, beq_self, cond_true, Option.some.injEq] at h
      subst h
      exact List.mem_cons_self ..
    · simp only [fnd, beq_ne e, cond_false] at h
      exact List.mem_cons_of_mem _ (ih h)
theorem fnd_none {l : List (Nat × Ob)} {id : Nat} : fnd l id = none → ∀ q ∈ l, q.1 ≠ id := by
  induction l with
  | nil => intro _ q hq; cases hq
  | cons q l ih =>
    intro h p hp
    obtain ⟨j, o⟩ := q
    by_cases e : j = id
    · subst e
      simp only [fnd, beq_self, cond_true] at h
      cases h
    · simp only [fnd, beq_ne e, cond_false] at h
      rcases List.mem_cons.1 hp with rfl | hp
      · exact e
      · exact ih h p hp
theorem over_run {γ : Type} {u l : List (Nat × Ob)} {us1 us2 : List Nat} {l1 : List (Nat × Ob)} (h : adds l us1 u = some (l1, us2)) : ∀ g : GTr γ, (g.over u).run l = g.run l1
  | .done t => rfl
  | .get id k => by
    obtain ⟨h1, h2, _⟩ := adds_fnd u l us1 l1 us2 h
    simp only [GTr.over]
    cases hf : fnd u id with
    | some o =>
      have e := (h1 _ (fnd_some hf)).1
      simp only
      rw [over_run h (k (some o))]
      show _ = (k (fnd l1 id)).run l1
      rw [e]
    | none =>
      have e := h2 id (fnd_none hf)
      simp only
      show ((k (fnd l id)).over u).run l = (k (fnd l1 id)).run l1
      rw [over_run h, e]
  | .ite b t e => by
    show Tr.ite b ((t.over u).run l) ((e.over u).run l) = Tr.ite b (t.run l1) (e.run l1)
    rw [over_run h t, over_run h e]
theorem preArgs_ok {P : Program} {R : Nat → Prop} {w : World} : ∀ (os : List Nat) (Ts : List TypeId) (xs : List TV) (b : Nat) (l : List TV) (u : List (Nat × Ob)) (vs : List Value) (us us1 : List Nat) (ob ob1 : List (Nat × Ob)) (mu : Nat → Option Nat),
    preArgs P os Ts xs b = some (l, u) → Mem K.O K.R0 K.w0 (cx us ob mu R w) → adds ob us u = some (ob1, us1) → repVL (cx us ob mu R w) xs vs →
    ∃ mu1, Ext (cx us ob mu R w) (cx us1 ob1 mu1 R w) ∧ Mem K.O K.R0 K.w0 (cx us1 ob1 mu1 R w) ∧ repVL (cx us1 ob1 mu1 R w) l vs
  | os, Ts, [], b, l, u, vs, us, us1, ob, ob1, mu, h, hM, hadd, hv => by
    unfold preArgs at h
    cases h
    cases hadd
    exact ⟨mu, Ext.refl _, hM, hv⟩
  | os, [], _ :: _, b, l, u, vs, us, us1, ob, ob1, mu, h, hM, hadd, hv => by
    unfold preArgs at h
    cases h
  | os, T :: Ts, x :: xs, b, l, u, vs, us, us1, ob, ob1, mu, h, hM, hadd, hv => by
    unfold preArgs at h
    obtain ⟨v, r, ev, hx, hl⟩ := hv
    split at h
    · split at h
      · rename_i y u1 hn
        split at h
        · rename_i l2 u2 hp
          cases h
          obtain ⟨oba, usa, ha, hb⟩ := adds_append u1 u2 ob us ob1 us1 hadd
          obtain ⟨mua, e1, m1, r1⟩ := norm_step hM hn ha hx
          obtain ⟨mub, e2, m2, r2⟩ := preArgs_ok os.tail Ts xs _ l2 u2 r usa us1 oba ob1 mua hp m1 hb (repVL_mono e1 xs r hl)
          exact ⟨mub, e1.trans e2, m2, v, r, ev, repV_mono e2 _ _ r1, r2⟩
        · cases h
      · cases h
    · split at h
      · rename_i l2 u2 hp
        cases h
        obtain ⟨mub, e2, m2, r2⟩ := preArgs_ok os.tail Ts xs _ l2 u r us us1 ob ob1 mu hp hM hadd hl
        exact ⟨mub, e2, m2, v, r, ev, repV_mono e2 _ _ hx, r2⟩
      · cases h
theorem repVL_app {C : Cx} : ∀ (l m : List TV) (vs ws : List Value), repVL C l vs → repVL C m ws → repVL C (l ++ m) (vs ++ ws)
  | [], m, vs, ws, h1, h2 => by rw [show vs = [] from h1]; exact h2
  | x :: l, m, _, ws, ⟨v, r, e, h1, h3⟩, h2 => ⟨v, r ++ ws, by rw [e]; rfl, h1, repVL_app l m r ws h3 h2⟩
theorem callEv_runs {E : Env} (hE : EnvOK E) (hM : Mem K.O K.R0 K.w0 (cx us ob mu R w)) {xs : List TV} {vs : List Value} (hvs : repVL (cx us ob mu R w) xs vs) {g : FuncId} {Ts : List TypeId} {b : Nat} {e : Eff}
    (h : ((callEv E g Ts xs b).run ob).to e) (hadd : adds ob us e.new = some (ob1, us')) :
    (∃ fn, E.P.funcs[g]? = some fn ∧ fn.body.isNone = false ∧ (fn.name == "runtime.NumGoroutine") = false) ∧ Calls E.P g vs.toArray w fun e' w' => ∃ v, e' = .returned v ∧ Does K us ob mu R w e us' ob1 v w' := by
  unfold callEv at h
  split at h
  · rename_i ys u hp
    rw [GTr.run_bind] at h
    obtain ⟨e0, h0, h1⟩ := Tr.to_bind h
    cases Tr.to_ret h1
    obtain ⟨oba, usa, ha, hb⟩ := adds_append u e0.new ob us ob1 us' hadd
    rw [over_run ha] at h0
    obtain ⟨mua, e1, m1, r1⟩ := preArgs_ok (K := K) _ _ _ _ _ _ _ _ _ _ _ _ hp hM ha hvs
    obtain ⟨hen, hrun⟩ := call_core hE m1 r1 h0 hb
    refine ⟨hen, hrun.mono fun e' w' he => ?_⟩
    obtain ⟨v, rfl, mu', R', d1, d2, d3⟩ := he
    exact ⟨v, rfl, mu', R', e1.trans d1, d2, d3⟩
  · exact (Tr.to_fail h).elim
theorem call_wp {E : Env} (hE : EnvOK E) {st : St} {a : Act} (hS : Sim K st a mu R w) {o : Oper} {b : Nat} {e : Eff} {c : Call} {f : Operand} {g : FuncId} {cap : List TV} (ho : o.op = .call c) (hf : c.callee = .value f) {cs : List Value} (hev : a.eval f = .func (.func g) #[] cs.toArray)
    (hcs : repVL (cx st.us st.ob mu R w) cap cs) {Ts : List TypeId} (h : ((callEv E g Ts (c.args.toList.map (tvE st.tm) ++ cap) b).run st.ob).to e) (hadd : adds st.ob st.us e.new = some (ob1, us')) {next : Act → World → Prop} {Q : Exit → Act → World → Prop}
    (hn : ∀ v w', Does K st.us st.ob mu R w e us' ob1 v w' → next (a.put o.dst v) w') : o.wp E.P a w next Q := by
  obtain ⟨⟨fn, hfn, hbody, hname⟩, hrun⟩ := callEv_runs hE hS.mem (repVL_app _ _ _ _ (repVL_map hS.eval c.args.toList) hcs) h hadd
  have hexec : (execOp a.eval o).run E.P w = .ok (.enter g (c.args.toList.map a.eval ++ cs).toArray) w := by
    unfold execOp
    simp only [ho]
    rw [Sem.run_bind]
    simp only [resolve, hf, hev, Deferred.ofValue, Sem.run_pure, Result.andThen_ok, invoke, callFunc, Sem.run_bind]
    have hp : (program).run E.P w = .ok E.P w := rfl
    simp only [hp, Result.andThen_ok, hfn, hname, hbody]
    simp
  unfold Oper.wp
  rw [hexec, Oper.upon_enter]
  refine hrun.mono fun e' w' he => ?_
  obtain ⟨v, rfl, hD⟩ := he
  exact hn v w' hD
theorem keepAll_ok {γ : Type} (ob : List (Nat × Ob)) : ∀ (xs : List TV) (k : List TV → GTr γ) (r : γ), ((keepAll xs k).run ob).to r → ∃ ys, ((k ys).run ob).to r ∧ ys.length = xs.length ∧ ∀ (us : List Nat) (mu : Nat → Option Nat) (R : Nat → Prop) (w : World) (vs : List Value), repVL (cx us ob mu R w) xs vs → repVL (cx us ob mu R w) ys vs
  | [], k, r, h => ⟨[], h, rfl, fun _ _ _ _ _ hv => hv⟩
  | x :: xs, k, r, h => by
    unfold keepAll at h
    split at h
    · rename_i id
      obtain ⟨z, h1, h2⟩ := keepG_ok ob _ _ r h
      obtain ⟨ys, h3, h4, h5⟩ := keepAll_ok ob xs _ r h1
      refine ⟨z :: ys, h3, by simp [h4], fun us mu R w vs hv => ?_⟩
      obtain ⟨v, rs, e, hx, hl⟩ := hv
      exact ⟨v, rs, e, h2 us mu R w v hx, h5 us mu R w rs hl⟩
    · obtain ⟨ys, h3, h4, h5⟩ := keepAll_ok ob xs _ r h
      refine ⟨x :: ys, h3, by simp [h4], fun us mu R w vs hv => ?_⟩
      obtain ⟨v, rs, e, hx, hl⟩ := hv
      exact ⟨v, rs, e, hx, h5 us mu R w rs hl⟩
theorem cap_vals {C : Cx} {tmps : Array Value} : ∀ (lv : List Nat) (cap : List TV), repCap C tmps lv cap → repVL C cap (lv.map fun t => tmps.getD t undef)
  | [], [], _ => rfl
  | _ :: lv, _ :: cap, ⟨h1, h2⟩ => ⟨_, _, rfl, h1, cap_vals lv cap h2⟩
  | [], _ :: _, h => h.elim
  | _ :: _, [], h => h.elim
theorem renL_length (f : Nat → Nat) : ∀ l : List TV, (renL f l).length = l.length
  | [] => rfl
  | x :: l => by rw [renL, List.length_cons, List.length_cons, renL_length f l]
theorem yield_runs {E : Env} (hE : EnvOK E) (hM : Mem K.O K.R0 K.w0 (cx us ob mu R w)) {xs : List TV} {vs : List Value} (hvs : repVL (cx us ob mu R w) xs vs) {i l : Nat} (hi : repV (cx us ob mu R w) (.yv i) (.func (.yield l) #[] #[])) {b : Nat} {e : Eff}
    (h : ((yieldEv E i xs b).run ob).to e) (hadd : adds ob us e.new = some (ob1, us')) :
    ∃ rec, w.heap[l]? = some (.loop rec) ∧ vs.length = rec.params.size ∧ RoundIn Fence.wide 0 E.P l rec.fn ((rec.params.zip vs.toArray).foldl (fun tmps (t, a) => tmps.setIfInBounds t a) rec.tmps) rec.assign rec.body w fun e' w' => ∃ v, e' = .returned v ∧ Does K us ob mu R w e us' ob1 v w' := by
  unfold yieldEv at h
  rw [GTr.run_get] at h
  split at h
  · rename_i k lv cap j hob
    obtain ⟨ys, h, hlen, hys⟩ := keepAll_ok ob _ _ e h
    have hys := hys us mu R w vs hvs
    obtain ⟨ren, pk, h, hP⟩ := packA_to h
    obtain ⟨r, hr, h⟩ := Tr.to_bind (show (Tr.bind (E.call k pk) _).to e from h)
    cases hfull : r.full (idsL pk.pins) with
    | false => rw [hfull] at h; exact (Tr.to_fail h).elim
    | true =>
      cases hbig : Nat.ble bigK k with
      | false => rw [hfull, hbig] at h; exact (Tr.to_fail h).elim
      | true =>
        cases hsz : Nat.beq pk.roots.length (1 + xs.length + cap.length) with
        | false => rw [hfull, hbig, hsz] at h; exact (Tr.to_fail h).elim
        | true =>
          rw [hfull, hbig, hsz] at h
          cases Tr.to_ret h
          have hC := hE.rnd k pk r (Nat.le_of_ble_eq_true hbig) hr
          obtain ⟨l', hv, hu, hmu⟩ := hi
          cases hv
          have hmu := hmu (by show (fnd ob i).isSome = true; rw [hob]; rfl)
          obtain ⟨l2, rec, g1, g2, g3, g4, g5, g6⟩ := hM.obs i _ hob
          cases g1.symm.trans hmu
          have hcap := cap_vals lv cap g4
          have hall : repVL (cx us ob mu R w) (.yv i :: (ys ++ cap)) (.func (.yield l) #[] #[] :: (vs ++ lv.map fun t => rec.tmps.getD t undef)) :=
            ⟨_, _, rfl, ⟨l, rfl, hu, fun _ => hmu⟩, repVL_app _ _ _ _ hys hcap⟩
          have hE0 : (fun b => R b ∨ ∃ id ∈ ([] : List Nat), (fnd ob id).isSome = true ∧ mu id = some b) = R := funext fun b => propext ⟨fun h => h.elim id fun ⟨_, h, _⟩ => (by cases h), .inl⟩
          have hroots : repVL (pkCx pk (fun i => mu (ren.getD i 0)) R w) pk.roots (.func (.yield l) #[] #[] :: (vs ++ lv.map fun t => rec.tmps.getD t undef)) := by
            rw [hP.roots]
            exact repVL_ren (hP.ren us mu _ _ w (fun _ h => h)) _ _ (fun i hi => hP.ids i hi) hall
          have hysU := repVL_U _ _ hall
          have hrus : ∀ j ∈ ren, j ∈ us := by
            intro j hj
            rcases hP.origin j hj with h | h | ⟨i, o, h1, h2⟩
            · exact hysU j h
            · exact hysU j h
            · exact repO_U o (hM.obs i o h1) j h2
          have hd : meets ren [] = false := by
            unfold meets
            induction ren with
            | nil => rfl
            | cons x l ih => simp
          have hmem := callee_mem hM hP hd
          rw [hE0] at hmem
          have hpin : ∀ i ∈ idsL pk.pins, i < pk.obs.length := fun i hi => pins_lt hmem hroots hi
          have hir : i ∈ ren := hP.ids i (by simp [idsL, TV.ids])
          have hfd := hP.fd hir
          rw [hob] at hfd
          have hsize := hC.size rec g3 (idx ren i) lv (renL (idx ren) cap) j (by rw [hP.roots]; rfl) (by rw [hfd]; rfl)
          have hsz := Nat.eq_of_beq_eq_true hsz
          rw [renL_length] at hsize
          have hvl : vs.length = xs.length := by
            have : ∀ (l : List TV) (vs : List Value), repVL (cx us ob mu R w) l vs → vs.length = l.length := by
              intro l
              induction l with
              | nil => intro vs h; rw [show vs = [] from h]; rfl
              | cons x l ih => intro vs ⟨v, r, e, _, h⟩; rw [e, List.length_cons, List.length_cons, ih r h]
            exact this xs vs hvs
          have hps : vs.length = rec.params.size := by omega
          refine ⟨rec, g2, hps, (hC.runs w _ R l rec vs _ hmem hroots hps g2).mono fun e' w' he => ?_⟩
          obtain ⟨v, mu', R', rfl, hMr, hv, hpp⟩ := he
          exact ⟨v, rfl, call_done (lent := []) hM hP hd hpin hrus (fun _ h => by cases h) hfull (by rw [hE0]; exact hMr) hv hpp hadd⟩
  · exact (Tr.to_fail h).elim
theorem fvEv_to {E : Env} {n : Nat} {Ts : List TypeId} {xs : List TV} {b : Nat} {e : Eff} : ∀ (l : List FuncId), ((fvEv E n Ts xs b l).run ob).to e → ((callEv E n Ts xs b).run ob).to e
  | [], h => (Tr.to_fail h).elim
  | g :: l, h => by
    rcases Tr.to_ite h with ⟨hb, h⟩ | ⟨hb, h⟩
    · rw [Nat.eq_of_beq_eq_true hb]; exact h
    · exact fvEv_to l h
theorem callv_wp {ro : Option Nat} {E : Env} (hE : EnvOK E) {st : St} {a : Act} (hS : Sim K st a mu R w) {o : Oper} {b : Nat} {e : Eff} {c : Call} {f : Operand} (ho : o.op = .call c) (hf : c.callee = .value f)
    (h : ((callvEv E (tvE st.tm f) c.argTypes.toList (c.args.toList.map (tvE st.tm)) b).run st.ob).to e) (hadd : adds st.ob st.us e.new = some (ob1, us')) {next : Act → World → Prop} {Q : Exit → Act → World → Prop}
    (hn : ∀ v w', Does K st.us st.ob mu R w e us' ob1 v w' → next (a.put o.dst v) w') : o.wpIn (fen ro) 0 E.P a w next Q := by
  have hd : ∀ c, o.op ≠ .defer c := fun c hc => by rw [ho] at hc; cases hc
  have hx := hS.eval f
  unfold callvEv at h
  split at h
  · rename_i i hi
    rw [hi] at hx
    have hx' := hx
    obtain ⟨l, hv, hu, hmu⟩ := hx'
    simp only [List.cons.injEq, and_true] at hv
    rw [hv] at hx
    obtain ⟨rec, g1, g2, hR⟩ := yield_runs hE hS.mem (repVL_map hS.eval c.args.toList) hx h hadd
    have hexec : (execOp a.eval o).run E.P w = .ok (.round l rec.fn ((rec.params.zip (c.args.toList.map a.eval).toArray).foldl (fun tmps (t, a) => tmps.setIfInBounds t a) rec.tmps) rec.assign rec.body) w := by
      unfold execOp
      simp only [ho]
      rw [Sem.run_bind]
      simp only [resolve, hf, hv, Deferred.ofValue, Sem.run_pure, Result.andThen_ok, invoke]
      rw [← run_yield g1 (by simpa using g2)]
      congr 2
      apply Array.ext'
      simp
    refine ⟨fun _ _ => trivial, ?_⟩
    rw [Oper.semAt_eq _ _ _ hd, hexec, Oper.uponIn_round]
    refine ⟨fun hh => (by cases hh), ?_⟩
    refine RoundIn.mono (show RoundIn (fen ro) 0 E.P l rec.fn _ rec.assign rec.body w _ from hR) fun e' w' he => ?_
    obtain ⟨v, rfl, hD⟩ := he
    exact hn v w' hD
  · rename_i n hi
    rw [hi] at hx
    have hev : a.eval f = .func (.func n) #[] #[] := by
      have hx : [a.eval f] = [.func (.func n) #[] #[]] := hx
      simpa using hx
    refine op_fen hd (call_wp hE hS (b := b) (cap := []) (cs := []) ho hf hev rfl (Ts := c.argTypes.toList) ?_ hadd hn)
    rw [List.append_nil]
    exact fvEv_to _ h
  · split at h
    · rename_i g cap hg
      obtain ⟨cs, hev, hcs⟩ := fnOf_spec hg hx
      cases h77 : is77 (E.own g) with
      | false =>
        rw [h77] at h
        simp only [cond_false] at h
        split at h
        · rename_i e78 he78
          obtain ⟨hstr, fn, hfn, hbody, hname⟩ := hE.str g e78 he78
          have hrun := strEv_runs hstr hS.mem (repVL_app _ _ _ _ (repVL_map hS.eval c.args.toList) hcs) h hadd
          refine op_fen hd ?_
          have hexec : (execOp a.eval o).run E.P w = .ok (.enter g (c.args.toList.map a.eval ++ cs).toArray) w := by
            unfold execOp
            simp only [ho]
            rw [Sem.run_bind]
            simp only [resolve, hf, hev, Deferred.ofValue, Sem.run_pure, Result.andThen_ok, invoke, callFunc, Sem.run_bind]
            have hp : (program).run E.P w = .ok E.P w := rfl
            simp only [hp, Result.andThen_ok, hfn, hname, hbody]
            simp
          unfold Oper.wp
          rw [hexec, Oper.upon_enter]
          refine hrun.mono fun e' w' he => ?_
          obtain ⟨v, rfl, hD⟩ := he
          exact hn v w' hD
        · exact op_fen hd (call_wp hE hS ho hf hev hcs h hadd hn)
      | true =>
        rw [h77] at h
        simp only [cond_true] at h
        have hall := repVL_app _ _ _ _ (repVL_map hS.eval c.args.toList) hcs
        generalize hxs : c.args.toList.map (tvE st.tm) ++ cap = xs at *
        unfold noEsc at h
        split at h
        · rename_i x
          cases Tr.to_ret h
          obtain ⟨v, r, e1, h1, h2⟩ := hall
          cases (show r = [] from h2)
          have hexec : (execOp a.eval o).run E.P w = .ok (.value v) w := by
            unfold execOp
            simp only [ho]
            rw [Sem.run_bind]
            simp only [resolve, hf, hev, Deferred.ofValue, Sem.run_pure, Result.andThen_ok, invoke]
            rw [← hE.ne g h77 v w]
            congr 2
            apply Array.ext'
            simp
            exact e1
          refine op_fen hd ?_
          unfold Oper.wp
          rw [hexec, Oper.upon_value]
          exact hn v w (Does.quiet hS.mem hadd rfl rfl h1)
        · exact (Tr.to_fail h).elim
    · exact (Tr.to_fail h).elim
theorem op_wp {ro : Option Nat} {E : Env} (hE : EnvOK E) {st : St} {a : Act} (hS : Sim K st a mu R w) {o : Oper} {b : Nat} {e : Eff} (h : ((opEv E (tvE st.tm) o b).run st.ob).to e) (hadd : adds st.ob st.us e.new = some (ob1, us')) {next : Act → World → Prop} {Q : Exit → Act → World → Prop}
    (hn : ∀ v mu' R' w', Sim K { tm := putT st.tm o.dst e.val, ob := upds ob1 e.upd, us := us' } (a.put o.dst v) mu' R' w' → next (a.put o.dst v) w') : o.wpIn (fen ro) 0 E.P a w next Q := by
  have key : ∀ v w', Does K st.us st.ob mu R w e us' ob1 v w' → next (a.put o.dst v) w' := fun v w' ⟨mu', R', h1, h2, h3⟩ => hn v mu' R' w' (hS.put o.dst h1 h2 h3)
  rcases op_ran E hS o b e h hadd with hr | ⟨c, f, h1, h2, h3⟩
  · exact op_fen (opEv_defer h) (hr.wp key)
  · exact callv_wp hE hS h1 h2 h3 hadd key
end
end
end Go.Am
