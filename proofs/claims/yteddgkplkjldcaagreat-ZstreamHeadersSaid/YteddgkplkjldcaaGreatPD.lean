/- Texts deflated, and a frame's header: the Lean function that ZstreamHeaders comes to answers true at every input. -/
import Derived.Test.YteddgkplkjldcaaGreatPC
import Derived.Test.YteddgkplkjldcaaGreatPA
import Derived.Test.YteddgkplkjldcaaGreatSC
namespace Go.Proofs.YteddgkplkjldcaaGreat.Am
open Go.Am
set_option linter.unusedSimpArgs false
set_option linter.unusedVariables false
def bb (T : ByteArray) (i : Nat) : Int := ((T.data.toList.getD i 0).toNat : Int)
theorem byteI {T : ByteArray} {i : Nat} (h : i < T.size) : T[i]? = some (T.data.toList.getD i 0) := byte_at T i h
def Packed (T : ByteArray) (from_ q : Nat) (P : List Tok) : Prop := validAll P = true ∧ made P = q - from_ ∧ P.length ≤ q - from_ ∧ expL ((bytesOf T).take from_) P = some ((bytesOf T).take q)
theorem strF_all (s : ByteArray) : strF (allB s) = s := by
  have h1 := allB_length s
  have hs : s.data.toList.length = s.size := by simp
  have h2 : allF (allB s) = s.data.toList.map fun x => (x.toNat : Int) := by
    unfold allF
    rw [show ((allB s).length + 7) / 8 = s.data.toList.length by omega]
    exact bytesF_bitsOf _
  have h3 : ∀ l : List UInt8, (l.map fun x => (x.toNat : Int)).map (fun n => UInt8.ofNat n.toNat) = l := by
    intro l
    rw [List.map_map]
    conv => rhs; rw [← List.map_id l]
    apply List.map_congr_left
    intro x _
    show UInt8.ofNat ((x.toNat : Int).toNat) = x
    rw [Int.toNat_natCast]
    exact UInt8.ofNat_toNat
  unfold strF stringOf
  rw [h2, h3]
theorem stringOf_bytes (s : ByteArray) : stringOf (bytesOf s) = s := by
  have := strF_all s
  have h1 := allB_length s
  have hs : s.data.toList.length = s.size := by simp
  unfold strF at this
  have h2 : allF (allB s) = bytesOf s := by
    rw [bytesOf_eq]
    unfold allF
    rw [show ((allB s).length + 7) / 8 = s.data.toList.length by omega]
    exact bytesF_bitsOf _
  rwa [h2] at this
theorem extract_one {s : ByteArray} {i : Nat} (h : i < s.size) : s.extract i (i + 1) = ⟨⟨[s.data.toList.getD i 0]⟩⟩ := by
  have hs : s.data.toList.length = s.size := by simp
  apply ByteArray.ext
  apply Array.ext'
  have e : (s.extract i (i + 1)).data.toList = (s.data.toList.drop i).take 1 := by
    rw [ByteArray.data_extract, Array.toList_extract, List.extract_eq_take_drop, show i + 1 - i = 1 by omega]
  rw [e, List.drop_eq_getElem_cons (by omega), List.take_succ_cons, List.take_zero, List.getD, List.getElem?_eq_getElem (by omega)]
  rfl
theorem F115_one (N : Nat) (x : UInt8) : F115 (N + 1) ⟨⟨[x]⟩⟩ = some ⟨⟨[x]⟩⟩ := by
  have hb : bytesOf ⟨⟨[x]⟩⟩ = [(x.toNat : Int)] := by rw [bytesOf_eq]; rfl
  have h6 : F144_6 (N + 1) (N + 1) (0, 0, 0, 1, [(x.toNat : Int)]) = some [(x.toNat : Int)] := by
    show B144_6 (N + 1) (F144_6 (N + 1) N) _ = _
    simp only [B144_6, iteP_eq]
    rw [if_neg (by decide)]
  simp only [F115, F144, iteP_eq]
  rw [if_pos (by rfl), hb]
  simp only [List.length_singleton]
  rw [show IntKind.wrap .i64 (((1 : Nat) : Int) - 1) = 0 from rfl, h6, Option.bind_some, Option.bind_some, ← hb, stringOf_bytes]
theorem F115_none (N : Nat) : F115 (N + 1) (ByteArray.mk #[]) = some (ByteArray.mk #[]) := by
  have hb : bytesOf (ByteArray.mk #[]) = [] := by rw [bytesOf_eq]; rfl
  have h6 : F144_6 (N + 1) (N + 1) (0, -1, 0, 0, []) = some [] := by
    show B144_6 (N + 1) (F144_6 (N + 1) N) _ = _
    simp only [B144_6, iteP_eq]
    rw [if_neg (by decide)]
  simp only [F115, F144, iteP_eq]
  rw [if_pos (by rfl), hb]
  simp only [List.length_nil]
  rw [show IntKind.wrap .i64 (((0 : Nat) : Int) - 1) = -1 from rfl, h6, Option.bind_some, Option.bind_some]
  rfl
theorem or_zero {x : Nat} (h : x < 256) : IntKind.wrap .i64 ((BitVec.toNat (BitVec.ofInt 64 (0 : Int) ||| BitVec.ofInt 64 (IntKind.wrap .i64 (IntKind.wrap .i64 (x : Int) * (2 : Int) ^ min (Int.toNat 0) 64))) : Nat) : Int) = (x : Int) := by
  have e : IntKind.wrap .i64 (IntKind.wrap .i64 (x : Int) * (2 : Int) ^ min (Int.toNat 0) 64) = (x : Int) := by
    rw [wrap_i64 (z := (x : Int)) (by omega) (by omega)]
    show IntKind.wrap .i64 ((x : Int) * 1) = _
    rw [Int.mul_one, wrap_i64 (by omega) (by omega)]
  rw [e, BitVec.ofInt_natCast]
  have : BitVec.ofInt 64 (0 : Int) = 0#64 := rfl
  rw [this, BitVec.zero_or, BitVec.toNat_ofNat, Nat.mod_eq_of_lt (by omega), wrap_i64 (by omega) (by omega)]
theorem F78_byte (s : ByteArray) (hs : s.size ≤ 9223372036854775807) {i : Nat} (h : i < s.size) : F78 200000 (1, s, (i : Int), 0) = some (bb s i, s, ((i + 1 : Nat) : Int), 0) := by
  have w1 : IntKind.wrap .i64 ((s.size : Int) - (i : Int)) = ((s.size - i : Nat) : Int) := by rw [wrap_i64 (by omega) (by omega)]; omega
  have w2 : IntKind.wrap .i64 ((i : Int) + 1) = ((i + 1 : Nat) : Int) := by rw [wrap_i64 (by omega) (by omega)]; omega
  have w3 : IntKind.wrap .i64 (((i + 1 : Nat) : Int) - 1) = (i : Int) := by rw [wrap_i64 (by omega) (by omega)]; omega
  have h143 : F143 200000 (1, s, (i : Int), 0) = some (⟨⟨[s.data.toList.getD i 0]⟩⟩, s, ((i + 1 : Nat) : Int), 0) := by
    simp only [F143, F161, iteP_eq]
    rw [if_neg (by decide), Option.bind_some, w1, if_neg (by simp only [decide_eq_true_eq]; omega), if_neg (by decide), w2, w3, if_pos (by simp only [decide_eq_true_eq]; omega), if_pos (by simp only [decide_eq_true_eq, Int.toNat_natCast]; omega), Int.toNat_natCast, Int.toNat_natCast, extract_one h]
  have hx := (s.data.toList.getD i 0).toNat_lt
  have hb : bytesOf ⟨⟨[s.data.toList.getD i 0]⟩⟩ = [bb s i] := by rw [bytesOf_eq]; rfl
  have hloop : F114a_122 200000 200000 (0, 0, 1, s, ((i + 1 : Nat) : Int), 0, [bb s i]) = some (bb s i, s, ((i + 1 : Nat) : Int), 0) := by
    show B114a_122 200000 (F114a_122 200000 (199998 + 1)) _ = _
    have hend : ∀ z, F114a_122 200000 (199998 + 1) (z, 1, 1, s, ((i + 1 : Nat) : Int), 0, [bb s i]) = some (z, s, ((i + 1 : Nat) : Int), 0) := by
      intro z
      show B114a_122 200000 (F114a_122 200000 199998) _ = _
      generalize F114a_122 200000 199998 = G
      simp only [B114a_122, iteP_eq]
      rw [if_neg (by simp)]
    have hwi : within (0 : Int) [bb s i].length = true := within_nat (i := 0) (by simp)
    simp only [B114a_122, iteP_eq]
    rw [if_pos (by decide), if_pos hwi]
    show Option.bind (some (bb s i)) _ = _
    rw [Option.bind_some, show IntKind.wrap .i64 ((8 : Int) * 0) = 0 from rfl, if_neg (by decide)]
    have := or_zero (x := (s.data.toList.getD i 0).toNat) (by omega)
    have e : bb s i = (((s.data.toList.getD i 0).toNat : Nat) : Int) := rfl
    rw [e, this, show IntKind.wrap .i64 ((0 : Int) + 1) = 1 from rfl, ← e, hend]
    rfl
  simp only [F78, F114a, F141, iteP_eq]
  rw [if_pos (by decide), Option.bind_some, if_neg (by decide), h143, Option.bind_some]
  simp only
  rw [F115_one 199999, Option.bind_some, if_pos (by rfl), hb]
  simp only [List.length_singleton]
  rw [show ((1 : Nat) : Int) = 1 from rfl, hloop, Option.bind_some, Option.bind_some]
theorem F78_none (s : ByteArray) (hs : s.size ≤ 9223372036854775807) (i : Nat) (e : Int) (h : e ≠ 0 ∨ (i = s.size)) (hi : i ≤ s.size) : F78 200000 (1, s, (i : Int), e) = some (0, s, (i : Int), if e = 0 then 2 else e) := by
  have w1 : IntKind.wrap .i64 ((s.size : Int) - (i : Int)) = ((s.size - i : Nat) : Int) := by rw [wrap_i64 (by omega) (by omega)]; omega
  have h143 : F143 200000 (1, s, (i : Int), e) = some (ByteArray.mk #[], s, (i : Int), if e = 0 then 2 else e) := by
    simp only [F143, F161, F142, iteP_eq]
    rw [if_neg (by decide), Option.bind_some, w1]
    by_cases he : e = 0
    · subst he
      rw [if_pos (by simp only [decide_eq_true_eq]; omega), if_pos (by rfl), Option.bind_some]
      simp only
      rw [if_pos (by rfl)]
      rfl
    · by_cases h1 : (1 : Int) > ((s.size - i : Nat) : Int)
      · rw [if_pos (by simpa using h1), if_neg (by simpa using he), Option.bind_some]
        simp only
        rw [if_pos (by simpa using he), if_neg he]
      · rw [if_neg (by simpa using h1), if_pos (by simpa using he), if_neg he]
  have hb : bytesOf (ByteArray.mk #[]) = [] := by rw [bytesOf_eq]; rfl
  have hloop : ∀ z, F114a_122 200000 200000 (0, 0, 0, s, (i : Int), z, []) = some (0, s, (i : Int), z) := by
    intro z
    show B114a_122 200000 (F114a_122 200000 199999) _ = _
    generalize F114a_122 200000 199999 = G
    simp only [B114a_122, iteP_eq]
    rw [if_neg (by simp)]
  simp only [F78, F114a, F141, iteP_eq]
  rw [if_pos (by decide), Option.bind_some, if_neg (by decide), h143, Option.bind_some]
  simp only
  rw [F115_none 199999, Option.bind_some, if_pos (by rfl), hb]
  simp only [List.length_nil]
  rw [show ((0 : Nat) : Int) = 0 from rfl, hloop, Option.bind_some, Option.bind_some]
theorem and15 : ∀ a : Nat, a < 256 → (IntKind.wrap .i64 ((BitVec.toNat (BitVec.ofInt 64 (a : Int) &&& BitVec.ofInt 64 15) : Nat) : Int) != 8) = (Int.tmod (a : Int) 16 != 8) := by decide +kernel
theorem shr7 : ∀ a : Nat, a < 256 → decide (Int.fdiv (a : Int) 16 > 7) = decide (IntKind.wrap .i64 (Int.tdiv (a : Int) 16) > 7) := by decide +kernel
theorem and32 : ∀ a : Nat, a < 256 → (IntKind.wrap .i64 ((BitVec.toNat (BitVec.ofInt 64 (a : Int) &&& BitVec.ofInt 64 32) : Nat) : Int) != 0) = (Int.tmod (IntKind.wrap .i64 (Int.tdiv (a : Int) 32)) 2 == 1) := by decide +kernel
theorem or_two {a b : Nat} (ha : a < 256) (hb : b < 256) : IntKind.wrap .i64 ((BitVec.toNat (BitVec.ofInt 64 (IntKind.wrap .i64 ((a : Int) * 256)) ||| BitVec.ofInt 64 (b : Int)) : Nat) : Int) = IntKind.wrap .i64 (IntKind.wrap .i64 ((a : Int) * 256) + (b : Int)) := by
  have h := or_eq (A := b) (B := a) (i := 8) (j := 8) (by omega) (by omega) (by decide)
  have e : ((a : Int) * 2 ^ min (Int.toNat ((8 : Nat) : Int)) 64) = (a : Int) * 256 := rfl
  rw [e] at h
  rw [BitVec.or_comm, h, wrap_i64 (z := (a : Int) * 256) (by omega) (by omega), wrap_i64 (by omega) (by omega)]
  omega
theorem F35_header (s : ByteArray) (hs : s.size ≤ 9223372036854775807) : ∃ e, F35 200000 s = some e ∧ F36 200000 s = some e := by
  by_cases h2 : s.size < 2
  · refine ⟨2, ?_, ?_⟩
    · simp only [F35, F77, F79, iteP_eq]
      rw [Option.bind_some]
      by_cases h0 : s.size = 0
      · have e1 := F78_none s hs 0 0 (.inr (by omega)) (by omega)
        rw [if_pos rfl, show ((0 : Nat) : Int) = 0 from rfl] at e1
        have e2 := F78_none s hs 0 2 (.inl (by decide)) (by omega)
        rw [if_neg (by decide), show ((0 : Nat) : Int) = 0 from rfl] at e2
        rw [e1, Option.bind_some]
        simp only
        rw [e2, Option.bind_some]
        rfl
      · have e1 := F78_byte s hs (i := 0) (by omega)
        rw [show ((0 : Nat) : Int) = 0 from rfl] at e1
        have e2 := F78_none s hs 1 0 (.inr (by omega)) (by omega)
        rw [if_pos rfl] at e2
        rw [e1, Option.bind_some]
        simp only
        rw [e2, Option.bind_some]
        rfl
    · simp only [F36, iteP_eq]
      rw [if_pos (by simp only [decide_eq_true_eq]; omega)]
  · have e1 := F78_byte s hs (i := 0) (by omega)
    rw [show ((0 : Nat) : Int) = 0 from rfl] at e1
    have e2 := F78_byte s hs (i := 1) (by omega)
    have ha : (s.data.toList.getD 0 0).toNat < 256 := (s.data.toList.getD 0 0).toNat_lt
    have hb : (s.data.toList.getD 1 0).toNat < 256 := (s.data.toList.getD 1 0).toNat_lt
    have ea : bb s 0 = (((s.data.toList.getD 0 0).toNat : Nat) : Int) := rfl
    have eb : bb s 1 = (((s.data.toList.getD 1 0).toNat : Nat) : Int) := rfl
    have g0 : s[0]? = some (s.data.toList.getD 0 0) := byteI (by omega)
    have g1 : s[1]? = some (s.data.toList.getD 1 0) := byteI (by omega)
    have c1 := and15 _ ha
    have c2 := shr7 _ ha
    have c3 := and32 _ hb
    have c4 := or_two ha hb
    have w1 : IntKind.wrap .i64 (((s.data.toList.getD 0 0).toNat : Nat) : Int) = (((s.data.toList.getD 0 0).toNat : Nat) : Int) := wrap_i64 (by omega) (by omega)
    have w2 : IntKind.wrap .i64 (((s.data.toList.getD 1 0).toNat : Nat) : Int) = (((s.data.toList.getD 1 0).toNat : Nat) : Int) := wrap_i64 (by omega) (by omega)
    have h36 : F36 200000 s = F35 200000 s := by
      simp only [F35, F36, F77, F79, iteP_eq]
      rw [if_neg (by simp only [decide_eq_true_eq]; omega), g0, Option.bind_some, g1, Option.bind_some, Option.bind_some, e1, Option.bind_some]
      simp only
      rw [show ((0 + 1 : Nat) : Int) = ((1 : Nat) : Int) from rfl, e2, Option.bind_some]
      simp only
      rw [Option.bind_some, ea, eb, w1, w2, c1, c2, c3, c4]
      simp
    have h35 : ∃ e, F35 200000 s = some e := by
      simp only [F35, F77, F79, iteP_eq]
      rw [Option.bind_some, e1, Option.bind_some]
      simp only
      rw [show ((0 + 1 : Nat) : Int) = ((1 : Nat) : Int) from rfl, e2, Option.bind_some]
      simp only
      rw [Option.bind_some]
      split
      · exact ⟨_, rfl⟩
      · split
        · exact ⟨_, rfl⟩
        · split
          · exact ⟨_, rfl⟩
          · split
            · exact ⟨_, rfl⟩
            · split <;> exact ⟨_, rfl⟩
    obtain ⟨e, he⟩ := h35
    exact ⟨e, he, h36.trans he⟩
theorem law9 (hw : F34 200000 () = some true) (s : ByteArray) (hs : s.size ≤ 9223372036854775807) : F9 200000 s = some true := by
  obtain ⟨e, h1, h2⟩ := F35_header s hs
  simp only [F9, iteP_eq]
  rw [hw, Option.bind_some, if_neg (by decide), if_pos rfl, h1, Option.bind_some, h2, Option.bind_some, beq_self_eq_true]
end Go.Proofs.YteddgkplkjldcaaGreat.Am
