/-
  The pure statement of ColourTexts: whether every text is an elapsed unit, or money, and which, is the document's answer.
-/
import Derived.Test.YtcdpjohbnfkmiaaDoorPE12
import Derived.Test.YtcdpjohbnfkmiaaDoorPx13
namespace Go.Proofs.YtcdpjohbnfkmiaaDoor.Pure
open Go.RowKit Go.Lib Go.Proofs.YtcdpjohbnfkmiaaDoor.P Go.Proofs.YtcdpjohbnfkmiaaDoor.G Go.Proofs.YtcdpjohbnfkmiaaDoor.PL Go.Proofs.YtcdpjohbnfkmiaaDoor.PC Go.Proofs.YtcdpjohbnfkmiaaDoorW.PrintWords Go.Proofs.YtcdpjohbnfkmiaaDoorW.PrintLast
set_option linter.unusedVariables false
set_option linter.unusedSimpArgs false

/-- The reference's digit: the number, or -1. -/
def hexR (c : Int) : Int := match hexV c with | some d => d | none => -1
theorem refhex5 (c : Nat) (h : c < 256) : numeraryref12_hex.f 5 (c : Int) = some (hexR c) := by
  have : ∀ m : Fin 256, numeraryref12_hex.f 5 (m.val : Int) = some (hexR (m.val : Int)) := by decide +kernel
  exact this ⟨c, h⟩
theorem refhex (c : Nat) (h : c < 256) (k : Nat) (hk : 5 ≤ k) : numeraryref12_hex.f k (c : Int) = some (hexR c) := at_rounds (numeraryref12_hex.mono _) hk (refhex5 c h)
theorem hexR_range (c : Nat) (h : c < 256) : -1 ≤ hexR c ∧ hexR c ≤ 15 ∧ ((hexV (c : Int)).isSome = true ↔ 0 ≤ hexR c) := by
  have : ∀ m : Fin 256, -1 ≤ hexR (m.val : Int) ∧ hexR (m.val : Int) ≤ 15 ∧ ((hexV (m.val : Int)).isSome = true ↔ 0 ≤ hexR (m.val : Int)) := by decide +kernel
  exact this ⟨c, h⟩
/-- The value of digits of base 16, as the reference counts it; -1: one is none. -/
def valR : Int → List UInt8 → Int
  | n, [] => n
  | n, b :: l => if hexR b.toNat < 0 then -1 else valR (16 * n + hexR b.toNat) l
theorem valR_nil (n : Int) : valR n [] = n := rfl
theorem valR_cons (n : Int) (b : UInt8) (l : List UInt8) : valR n (b :: l) = if hexR b.toNat < 0 then -1 else valR (16 * n + hexR b.toNat) l := rfl
theorem valR_bound : ∀ (l : List UInt8) (n : Int), 0 ≤ n → -1 ≤ valR n l ∧ valR n l < (n + 1) * 16 ^ l.length
  | [], n, h => by simp only [valR, List.length_nil, Int.pow_zero]; omega
  | b :: l, n, h => by
    have hr := hexR_range b.toNat (UInt8.toNat_lt b)
    have hp : (0 : Int) < 16 ^ l.length := Int.pow_pos (by omega)
    simp only [valR, List.length_cons]
    split
    · have : (0 : Int) ≤ (n + 1) * 16 ^ (l.length + 1) := Int.mul_nonneg (by omega) (Int.le_of_lt (Int.pow_pos (by omega)))
      omega
    · have ih := valR_bound l (16 * n + hexR b.toNat) (by omega)
      refine ⟨ih.1, Int.lt_of_lt_of_le ih.2 ?_⟩
      rw [Int.pow_succ, Int.mul_comm (16 ^ l.length) 16, ← Int.mul_assoc]
      exact Int.mul_le_mul_of_nonneg_right (by omega) (Int.le_of_lt hp)
/-- strconv's value and the reference's, where there are eight digits at most. -/
theorem pu16_valR : ∀ (l : List UInt8) (n : Int), 0 ≤ n → (n + 1) * 16 ^ l.length ≤ 4294967296 →
    pu16 n (l.map fun b => (b.toNat : Int)) = if valR n l < 0 then (2, 0) else (0, valR n l)
  | [], n, h, hb => by
    have e : valR n [] = n := rfl
    rw [e, if_neg (by omega)]
    rfl
  | b :: l, n, h, hb => by
    have hr := hexR_range b.toNat (UInt8.toNat_lt b)
    have hp : (1 : Int) ≤ 16 ^ l.length := Int.pow_pos (by omega)
    have eV : valR n (b :: l) = if hexR b.toNat < 0 then -1 else valR (16 * n + hexR b.toNat) l := rfl
    rw [eV]
    simp only [List.map_cons, pu16]
    cases hv : hexV (b.toNat : Int) with
    | none =>
      have : hexR b.toNat < 0 := by unfold hexR; rw [hv]; decide
      rw [if_pos this, if_pos (by omega)]
    | some d =>
      have hd : hexR b.toNat = d := by unfold hexR; rw [hv]
      have h0 : ¬ hexR b.toNat < 0 := by
        have := hr.2.2.1 (by rw [hv]; rfl)
        omega
      rw [if_neg h0, hd]
      have hb2 : (16 * n + d + 1) * 16 ^ l.length ≤ 4294967296 := by
        refine Int.le_trans ?_ hb
        rw [List.length_cons, Int.pow_succ, Int.mul_comm (16 ^ l.length) 16, ← Int.mul_assoc]
        exact Int.mul_le_mul_of_nonneg_right (by omega) (by omega)
      have hb3 : 16 * n + d + 1 ≤ 4294967296 := by
        have : (16 * n + d + 1) * 1 ≤ (16 * n + d + 1) * 16 ^ l.length := Int.mul_le_mul_of_nonneg_left hp (by omega)
        omega
      have e : n * 16 + d = 16 * n + d := by omega
      simp only [e]
      rw [if_neg (by omega)]
      exact pu16_valR l (16 * n + d) (by omega) hb2
/-- What a text is as money. -/
def moneyS (t : ByteArray) : ByteArray × Int × Bool :=
  if mHas t = true then
    if mDash (mRest t) = true then
      if (mHex (mRest t)).size < 1 ∨ 8 < (mHex (mRest t)).size then (⟨#[]⟩, 0, false)
      else if valR 0 (mHex (mRest t)).data.toList < 0 then (⟨#[]⟩, 0, false)
      else (mName (mRest t), valR 0 (mHex (mRest t)).data.toList, true)
    else (mRest t, 0, true)
  else (⟨#[]⟩, 0, false)
theorem dash_no {r : ByteArray} (h : ¬ mDash r = true) : mName r = r := by
  unfold mDash at h
  unfold mName
  unfold Lib.cut at h ⊢
  by_cases h1 : 0 ≤ Lib.index r.data.toList [45]
  · rw [if_pos h1] at h
    exact absurd rfl h
  · rw [if_neg h1]
theorem rest_size (t : ByteArray) : (mRest t).size ≤ t.size := by
  rw [size_list, size_list t]
  unfold mRest Lib.trimPrefix
  split <;> simp
theorem hex_size (t : ByteArray) : (mHex t).size ≤ t.size := by
  rw [size_list, size_list t]
  unfold mHex Lib.cut
  split <;> simp
theorem digs_plain (s : ByteArray) (h : (pr16 s).1 = 0) : Lib.containsAny s.data.toList [95, 43] = false := by
  apply containsAny_none
  intro b hb hm
  have h1 := pr16_digs s h b hb
  have h2 : ¬ (hexV (95 : Int)).isSome = true := by decide +kernel
  have h3 : ¬ (hexV (43 : Int)).isSome = true := by decide +kernel
  simp only [List.mem_cons, List.mem_nil_iff, or_false] at hm
  rcases hm with rfl | rfl
  · exact h2 h1
  · exact h3 h1
theorem bytes_map (s : ByteArray) : bytesOf s = s.data.toList.map fun b => (b.toNat : Int) := rfl
theorem pow16_le (n : Nat) (h : n ≤ 8) : (16 : Int) ^ n ≤ 4294967296 := by
  have : n = 0 ∨ n = 1 ∨ n = 2 ∨ n = 3 ∨ n = 4 ∨ n = 5 ∨ n = 6 ∨ n = 7 ∨ n = 8 := by omega
  rcases this with rfl | rfl | rfl | rfl | rfl | rfl | rfl | rfl | rfl <;> decide
theorem money_f (t : ByteArray) (ht : t.size ≤ 1000) : colour_Money.f t = some (moneyS t) := by
  have h1 := rest_size t
  have h2 := hex_size (mRest t)
  unfold colour_Money.f moneyS
  by_cases c1 : mHas t = true
  · rw [if_pos c1, if_pos c1, if_pos (by omega)]
    by_cases c2 : mDash (mRest t) = true
    · rw [if_pos c2, if_pos c2, if_pos (by omega)]
      obtain ⟨X, hX⟩ : ∃ X, mHex (mRest t) = X := ⟨_, rfl⟩
      rw [hX] at h2 ⊢
      by_cases c3 : X.size < 1 ∨ 8 < X.size
      · rw [if_pos c3]
        by_cases c4 : (pr16 X).1 = 0
        · rw [if_pos c4]
          rcases c3 with c3 | c3
          · have : pr16 X = (2, 0) := by unfold pr16; rw [if_pos (by omega)]
            rw [this] at c4
            cases c4
          · rw [if_pos c3]
        · rw [if_neg c4]
      · rw [if_neg c3]
        have hp : pr16 X = if valR 0 X.data.toList < 0 then (2, 0) else (0, valR 0 X.data.toList) := by
          unfold pr16
          rw [if_neg (by omega), bytes_map]
          refine pu16_valR _ 0 (by omega) ?_
          have := pow16_le X.data.toList.length (by rw [← size_list]; omega)
          omega
        by_cases c4 : valR 0 X.data.toList < 0
        · rw [if_pos c4] at hp
          rw [if_pos c4, hp, if_neg (by decide)]
        · rw [if_neg c4] at hp
          have c5 : (pr16 X).1 = 0 := by rw [hp]
          rw [if_neg c4, if_pos c5, if_neg (by omega), if_pos (pr16_ascii X c5), digs_plain X c5, if_neg Bool.false_ne_true, hp]
          have hb := (valR_bound X.data.toList 0 (by omega)).2
          have := pow16_le X.data.toList.length (by rw [← size_list]; omega)
          have hw : IntKind.u32.wrap (valR 0 X.data.toList) = valR 0 X.data.toList := IntWalk.u32_in _ (by omega)
          rw [hw]
    · rw [if_neg c2, if_neg c2, dash_no c2]
  · rw [if_neg c1, if_neg c1]

/-! the reference -/
theorem refM_hex (t H : ByteArray) (i : Nat) (hi : 1 ≤ i) (hit : i ≤ t.size) (h8 : H.size ≤ 8) : ∀ (d j : Nat), j + d = H.size → ∀ n : Int, 0 ≤ n → n < 16 ^ j → ∀ k, d + 7 ≤ k →
    numeraryref12_Money.l1 k t (i : Int) H n (j : Int) = some (if valR n (H.data.toList.drop j) < 0 then (⟨#[]⟩, 0, false) else (t.extract 1 i, valR n (H.data.toList.drop j), true))
  | 0, j, hj, n, h0, hn, k, hk => by
    obtain ⟨k, rfl⟩ : ∃ m, k = m + 1 := ⟨k - 1, by omega⟩
    have hd : H.data.toList.drop j = [] := List.drop_of_length_le (by rw [← size_list]; omega)
    have hp := pow16_le j (by omega)
    simp only [numeraryref12_Money.l1]
    rw [if_neg (by omega), if_pos (by omega), if_pos (by omega), hd, valR_nil]
    rw [if_neg (by omega), Int.emod_eq_of_lt h0 (by omega), Int.toNat_natCast]
  | d + 1, j, hj, n, h0, hn, k, hk => by
    obtain ⟨k, rfl⟩ : ∃ m, k = m + 1 := ⟨k - 1, by omega⟩
    have hlt : j < H.data.toList.length := by rw [← size_list]; omega
    have hp := pow16_le j (by omega)
    have hr := hexR_range (H.data.toList[j]).toNat (UInt8.toNat_lt _)
    simp only [numeraryref12_Money.l1]
    rw [if_pos (by omega), if_pos (by omega), bt_list H j (by omega), refhex _ (UInt8.toNat_lt _) k (by omega), List.drop_eq_getElem_cons hlt, valR_cons]
    simp only [Option.bind_some]
    by_cases c : hexR (H.data.toList[j]).toNat < 0
    · rw [if_pos c, if_pos c, if_pos (by omega)]
    · rw [if_neg c, if_neg c]
      have e1 : wrap64 (16 * n) = 16 * n := IntWalk.wrap64_in _ (by omega)
      have e2 : wrap64 (16 * n + hexR (H.data.toList[j]).toNat) = 16 * n + hexR (H.data.toList[j]).toNat := IntWalk.wrap64_in _ (by omega)
      rw [e1, e2, wrap_nat j (by omega)]
      refine refM_hex t H i hi hit h8 d (j + 1) (by omega) _ (by omega) ?_ k (by omega)
      rw [Int.pow_succ]
      omega
theorem refM_loop (t : ByteArray) (l : List UInt8) (hl : t.data.toList = 36 :: l) (hs : t.size ≤ 900) : ∀ (d i : Nat), i + d = t.size → 1 ≤ i → (45 : UInt8) ∉ l.take (i - 1) → ∀ k, d + 20 ≤ k →
    numeraryref12_Money.l0 k t (i : Int) = some (moneyS t)
  | 0, i, hi, h1, hno, k, hk => by
    obtain ⟨k, rfl⟩ : ∃ m, k = m + 1 := ⟨k - 1, by omega⟩
    have hsz : t.size = l.length + 1 := by rw [size_list, hl]; rfl
    have ht : l.take (i - 1) = l := List.take_of_length_le (by omega)
    rw [ht] at hno
    have hr : (mRest t).data.toList = l := by
      unfold mRest
      rw [hl]
      simp [Lib.trimPrefix, Lib.hasPrefix, List.isPrefixOf]
    have hh : mHas t = true := by
      unfold mHas
      rw [hl]
      simp [Lib.hasPrefix, List.isPrefixOf]
    have hm : ¬ mDash (mRest t) = true := by
      unfold mDash
      rw [hr, cut_notin 45 l hno]
      exact Bool.false_ne_true
    simp only [numeraryref12_Money.l0]
    rw [if_neg (by omega), if_pos (by omega)]
    unfold moneyS
    rw [if_pos hh, if_neg hm]
    have e : t.extract 1 t.size = mRest t := ba_ext (by rw [extract_list, hr, size_list, List.take_length, hl]; rfl)
    rw [e]
  | d + 1, i, hi, h1, hno, k, hk => by
    obtain ⟨k, rfl⟩ : ∃ m, k = m + 2 := ⟨k - 2, by omega⟩
    have hsz : t.size = l.length + 1 := by rw [size_list, hl]; rfl
    have hlt : i < t.data.toList.length := by rw [← size_list]; omega
    have hlt2 : i - 1 < l.length := by omega
    have hget : t.data.toList[i] = l[i - 1] := by
      have : i = (i - 1) + 1 := by omega
      simp only [hl]
      rw [List.getElem_cons]
      rw [dif_neg (by omega)]
    have hw := wrap_nat i (by omega)
    have hsplit : l = l.take (i - 1) ++ l[i - 1] :: l.drop i := by
      have e := List.take_append_drop (i - 1) l
      rw [List.drop_eq_getElem_cons hlt2, show i - 1 + 1 = i from by omega] at e
      exact e.symm
    simp only [numeraryref12_Money.l0]
    rw [if_pos (by omega), if_pos (by omega), bt_list t i (by omega), hget]
    by_cases c : l[i - 1] = 45
    · have c2 : ((l[i - 1]).toNat : Int) = 45 := by rw [c]; rfl
      rw [if_pos c2, hw, if_pos (by omega), if_pos (by omega), Int.toNat_natCast]
      rw [c] at hsplit
      have hr : (mRest t).data.toList = l := by
        unfold mRest
        rw [hl]
        simp [Lib.trimPrefix, Lib.hasPrefix, List.isPrefixOf]
      have hh : mHas t = true := by
        unfold mHas
        rw [hl]
        simp [Lib.hasPrefix, List.isPrefixOf]
      have hc := cut_at 45 (l.take (i - 1)) (l.drop i) hno
      rw [← hsplit, ← hr] at hc
      have hm : mDash (mRest t) = true := by unfold mDash; rw [hc]
      obtain ⟨X, hX⟩ : ∃ X, t.extract (i + 1) t.size = X := ⟨_, rfl⟩
      have hXd : X.data.toList = l.drop i := by
        rw [← hX, extract_list, size_list, List.take_length, hl]
        rfl
      have hhex : mHex (mRest t) = X := ba_ext (by unfold mHex; rw [hc, hXd, hr])
      have hname : mName (mRest t) = t.extract 1 i := ba_ext (by
        unfold mName
        rw [hc, extract_list, hl, hr]
        have : i = (i - 1) + 1 := by omega
        rw [this]
        simp)
      unfold moneyS
      rw [if_pos hh, if_pos hm, hhex, hname, hX]
      by_cases s1 : X.size < 1
      · rw [if_pos (by omega), if_pos (.inl s1)]
        simp only [numeraryref12_Money.j2]
        rw [if_pos True.intro]
      · rw [if_neg (by omega)]
        by_cases s8 : 8 < X.size
        · have e8 : decide ((X.size : Int) > 8) = true := decide_eq_true (by omega)
          rw [e8, if_pos (.inr s8)]
          simp only [numeraryref12_Money.j2]
          rw [if_pos True.intro]
        · have e8 : decide ((X.size : Int) > 8) = false := decide_eq_false (by omega)
          rw [e8, if_neg (by omega)]
          simp only [numeraryref12_Money.j2]
          rw [if_neg (by decide)]
          have := refM_hex t X i h1 (by omega) (by omega) X.size 0 (by omega) 0 (by omega) (by decide) k (by omega)
          rw [List.drop_zero] at this
          rw [show ((0 : Nat) : Int) = 0 from rfl] at this
          rw [this]
    · have c2 : ¬ ((l[i - 1]).toNat : Int) = 45 := fun e => c (UInt8.toNat_inj.1 (by have : (45 : UInt8).toNat = 45 := rfl; omega))
      rw [if_neg c2, hw]
      refine refM_loop t l hl hs d (i + 1) (by omega) (by omega) ?_ (k + 1) (by omega)
      have e : i + 1 - 1 = (i - 1) + 1 := by omega
      rw [e, List.take_succ_eq_append_getElem hlt2]
      intro h
      rcases List.mem_append.1 h with h | h
      · exact hno h
      · exact c (List.mem_singleton.1 h).symm
theorem refmoney_f (t : ByteArray) (hs : t.size ≤ 900) (k : Nat) (hk : 1000 ≤ k) : numeraryref12_Money.f k t = some (moneyS t) := by
  obtain ⟨k, rfl⟩ : ∃ m, k = m + 1 := ⟨k - 1, by omega⟩
  unfold numeraryref12_Money.f
  cases hl : t.data.toList with
  | nil =>
    have h0 : t.size = 0 := by rw [size_list, hl]; rfl
    have hh : ¬ mHas t = true := by unfold mHas; rw [hl]; decide
    rw [if_pos (by omega)]
    simp only [numeraryref12_Money.j0]
    unfold moneyS
    rw [if_pos True.intro, if_neg hh]
  | cons c l =>
    have hsz : t.size = l.length + 1 := by rw [size_list, hl]; rfl
    have b0 : bt t 0 = (c.toNat : Int) := by
      have := bt_list t 0 (by omega)
      rw [show ((0 : Nat) : Int) = 0 from rfl] at this
      rw [this]
      simp [hl]
    rw [if_neg (by omega), if_pos (by omega), b0]
    by_cases c1 : c = 36
    · subst c1
      have e : (((36 : UInt8).toNat : Int) != 36) = false := by decide
      rw [e]
      simp only [numeraryref12_Money.j0]
      rw [if_neg (by decide)]
      have := refM_loop t l hl hs (t.size - 1) 1 (by omega) (by omega) (by simp) k (by omega)
      exact this
    · have e : ((c.toNat : Int) != 36) = true := by
        rw [bne_iff_ne]
        intro h
        exact c1 (UInt8.toNat_inj.1 (by have : (36 : UInt8).toNat = 36 := rfl; omega))
      have hh : ¬ mHas t = true := by
        unfold mHas
        rw [hl]
        simp [Lib.hasPrefix, List.isPrefixOf]
        exact fun h => c1 h.symm
      rw [e]
      simp only [numeraryref12_Money.j0]
      unfold moneyS
      rw [if_pos True.intro, if_neg hh]

theorem mn_le (a b : Int) : mn a b ≤ a ∧ mn a b ≤ b := by unfold mn; split <;> omega
theorem mn_ge (a b : Int) (c : Int) (h1 : c ≤ a) (h2 : c ≤ b) : c ≤ mn a b := by unfold mn; split <;> omega
theorem texts_step (k : Nat) (l : List ByteArray) (n i : Int) (h0 : 0 ≤ i) (h1 : i < n) (hn : n = (l.length : Int)) (hk : 1000 ≤ k) (ht : (rdOf ByteArray.empty l i).size ≤ 900) :
    numerarylaw12_ColourTexts.l0 (k + 1) l n i = numerarylaw12_ColourTexts.l0 k l n (wrap64 (i + 1)) := by
  obtain ⟨t, hT⟩ : ∃ t, rdOf ByteArray.empty l i = t := ⟨_, rfl⟩
  rw [hT] at ht
  simp only [numerarylaw12_ColourTexts.l0]
  rw [if_pos h1, if_pos h0, if_pos (by omega), hT, elapsed_f t ht]
  simp only [Option.bind_some]
  rw [refElapsed_f t ht k (by omega)]
  simp only [Option.bind_some]
  rw [money_f t (by omega)]
  simp only [Option.bind_some]
  rw [refmoney_f t ht k hk]
  simp only [Option.bind_some, if_true, bne_self_eq_false]
  rw [if_neg Bool.false_ne_true, if_neg Bool.false_ne_true]
theorem ColourTexts_f (a0 : ByteArray) (k : Nat) (hk : 1100 ≤ k) : numerarylaw12_ColourTexts.f (k + 1) a0 = some true := by
  have h1 := mn_ge (a0.size : Int) 40 0 (by omega) (by omega)
  have h2 := mn_le (a0.size : Int) 40
  simp only [numerarylaw12_ColourTexts.f]
  rw [if_pos h1, if_pos h2.1]
  obtain ⟨t, ht⟩ : ∃ t, a0.extract 0 ((mn (a0.size : Int) 40) : Int).toNat = t := ⟨_, rfl⟩
  have hts : t.size ≤ 100 := by
    rw [← ht]
    simp
    omega
  have s1 : ((⟨#[36]⟩ : ByteArray) ++ t).size ≤ 900 := by
    rw [ByteArray.size_append]
    have : (⟨#[36]⟩ : ByteArray).size = 1 := rfl
    omega
  have s2 : ((⟨#[36, 120, 45]⟩ : ByteArray) ++ t).size ≤ 900 := by
    rw [ByteArray.size_append]
    have : (⟨#[36, 120, 45]⟩ : ByteArray).size = 3 := rfl
    omega
  have w1 : wrap64 (0 + 1) = 1 := by unfold wrap64; omega
  have w2 : wrap64 (1 + 1) = 2 := by unfold wrap64; omega
  have w3 : wrap64 (2 + 1) = 3 := by unfold wrap64; omega
  rw [ht, if_pos (by omega), if_pos (by omega)]
  obtain ⟨k, rfl⟩ : ∃ m, k = m + 3 := ⟨k - 3, by omega⟩
  show numerarylaw12_ColourTexts.l0 (k + 3 + 1) [t, (⟨#[36]⟩ : ByteArray) ++ t, (⟨#[36, 120, 45]⟩ : ByteArray) ++ t] 3 0 = some true
  rw [texts_step (k + 3) _ 3 0 (by omega) (by omega) rfl (by omega) (by show t.size ≤ 900; omega), w1]
  show numerarylaw12_ColourTexts.l0 (k + 2 + 1) [t, (⟨#[36]⟩ : ByteArray) ++ t, (⟨#[36, 120, 45]⟩ : ByteArray) ++ t] 3 1 = some true
  rw [texts_step (k + 2) _ 3 1 (by omega) (by omega) rfl (by omega) (by exact s1), w2]
  show numerarylaw12_ColourTexts.l0 (k + 1 + 1) [t, (⟨#[36]⟩ : ByteArray) ++ t, (⟨#[36, 120, 45]⟩ : ByteArray) ++ t] 3 2 = some true
  rw [texts_step (k + 1) _ 3 2 (by omega) (by omega) rfl (by omega) (by exact s2), w3]
  simp only [numerarylaw12_ColourTexts.l0]
  rw [if_neg (by omega), at_rounds numerarylaw12_wakes.mono (by omega : 100 ≤ k) wakes12]
  rfl
theorem ColourTexts : numerarylaw12_ColourTexts.Pure := by
  intro a0 hs
  exact ⟨1101, ColourTexts_f a0 1100 (by omega)⟩
end Go.Proofs.YtcdpjohbnfkmiaaDoor.Pure
