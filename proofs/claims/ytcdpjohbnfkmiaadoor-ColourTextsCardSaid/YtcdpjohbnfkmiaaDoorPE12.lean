/-
  An elapsed unit, as the program's and the reference's functions tell it.
-/
import Derived.Test.YtcdpjohbnfkmiaaDoorPC12
import Derived.Test.YtcdpjohbnfkmiaaDoorPx10
import Derived.Lib.TrimAscii
namespace Go.Proofs.YtcdpjohbnfkmiaaDoor.PC
open Go.RowKit Go.Lib Go.Proofs.YtcdpjohbnfkmiaaDoor.P Go.Proofs.YtcdpjohbnfkmiaaDoor.G Go.Proofs.YtcdpjohbnfkmiaaDoor.PL Go.Proofs.YtcdpjohbnfkmiaaDoorW.PrintWords Go.Proofs.YtcdpjohbnfkmiaaDoorW.PrintLast
set_option linter.unusedVariables false
set_option linter.unusedSimpArgs false

/-- What a text is as an elapsed unit, out of its bytes with letters small. -/
def elapS : List Nat → ByteArray × Int × Bool
  | [] => (⟨#[]⟩, 0, false)
  | c :: r => if r.length + 1 ≤ 9 ∧ (c = 104 ∨ c = 109 ∨ c = 115) ∧ r.all (· == c) = true then (⟨#[UInt8.ofNat c]⟩, ((r.length + 1 : Nat) : Int), true) else (⟨#[]⟩, 0, false)

/-! the reference -/
theorem bt_list (s : ByteArray) (i : Nat) (h : i < s.size) : bt s i = ((s.data.toList[i]'(by rw [← size_list]; exact h)).toNat : Int) := by
  unfold bt
  rw [Int.toNat_natCast, dif_pos h, get_list s i h]
theorem refE_loop (x : ByteArray) (c : UInt8) (r : List UInt8) (hx : x.data.toList = c :: r) (hz : x.size ≤ 1000) : ∀ (d i : Nat), i + d = x.size → ∀ k, d + 1 ≤ k →
    numeraryref12_Elapsed.l0 k x (i : Int) = some (if (x.data.toList.drop i).all (· == c) = true then (⟨#[c]⟩, (x.size : Int), true) else (⟨#[]⟩, 0, false))
  | 0, i, hi, k, hk => by
    obtain ⟨k, rfl⟩ : ∃ m, k = m + 1 := ⟨k - 1, by omega⟩
    have hs : 1 ≤ x.size := by rw [size_list, hx]; simp
    have hd : x.data.toList.drop i = [] := List.drop_of_length_le (by rw [← size_list]; omega)
    simp only [numeraryref12_Elapsed.l0]
    rw [if_neg (by omega), if_pos (by omega), if_pos (by omega), hd]
    have e : x.extract 0 1 = ⟨#[c]⟩ := ba_ext (by rw [extract_list, hx]; rfl)
    rw [e]
    rfl
  | d + 1, i, hi, k, hk => by
    obtain ⟨k, rfl⟩ : ∃ m, k = m + 1 := ⟨k - 1, by omega⟩
    have ih := refE_loop x c r hx hz d (i + 1) (by omega) k (by omega)
    have hlt : i < x.data.toList.length := by rw [← size_list]; omega
    have b0 : bt x 0 = (c.toNat : Int) := by
      have := bt_list x 0 (by omega)
      rw [show ((0 : Nat) : Int) = 0 from rfl] at this
      rw [this]
      simp [hx]
    have bi := bt_list x i (by omega)
    simp only [numeraryref12_Elapsed.l0]
    rw [if_pos (by omega), if_pos (by omega), if_pos (by omega), wrap_nat i (by omega), b0, bi, List.drop_eq_getElem_cons hlt, List.all_cons]
    by_cases h : x.data.toList[i] = c
    · rw [if_pos (by rw [h]), ih, h]
      simp
    · rw [if_neg (fun e => h (UInt8.toNat_inj.1 (by omega)))]
      have h2 : (x.data.toList[i] == c) = false := by simpa using h
      rw [h2]
      simp
theorem lowbytes_lows (t : ByteArray) : (strOfNums (lowL t)).data.toList.map (fun b => b.toNat) = lows t := low_nats t
theorem all_nats (c : UInt8) : ∀ l : List UInt8, l.all (· == c) = (l.map (fun b => b.toNat)).all (· == c.toNat)
  | [] => rfl
  | b :: l => by
    have e : (b == c) = (b.toNat == c.toNat) := by
      by_cases h : b = c
      · subst h; simp
      · have : ¬ b.toNat = c.toNat := fun e => h (UInt8.toNat_inj.1 e)
        rw [beq_eq_false_iff_ne.2 h, beq_eq_false_iff_ne.2 this]
    simp only [List.all_cons, List.map_cons, e, all_nats c l]
theorem ofNat_toNat (c : UInt8) : UInt8.ofNat c.toNat = c := by simp
theorem refElapsed_f (t : ByteArray) (ht : t.size ≤ 900) (k : Nat) (hk : 20 ≤ k) : numeraryref12_Elapsed.f k t = some (elapS (lows t)) := by
  unfold numeraryref12_Elapsed.f
  rw [low_f t (by omega)]
  simp only [Option.bind_some]
  obtain ⟨x, hx⟩ : ∃ x, strOfNums (lowL t) = x := ⟨_, rfl⟩
  have hl : x.data.toList.map (fun b => b.toNat) = lows t := by rw [← hx]; exact low_nats t
  have hz : x.size ≤ 900 := by
    rw [← hx, strOfNums_size, lowL_length]; exact ht
  rw [hx]
  obtain ⟨k, rfl⟩ : ∃ m, k = m + 2 := ⟨k - 2, by omega⟩
  cases hd : x.data.toList with
  | nil =>
    have hs : x.size = 0 := by rw [size_list, hd]; rfl
    rw [if_pos (by omega)]
    rw [hd] at hl
    rw [← hl]
    simp [numeraryref12_Elapsed.j0, elapS]
  | cons c r =>
    have hs : x.size = r.length + 1 := by rw [size_list, hd]; rfl
    rw [if_neg (by omega), ← hl, hd]
    simp only [List.map_cons, elapS, List.length_map]
    by_cases h9 : r.length + 1 ≤ 9
    · have e9 : decide ((x.size : Int) > 9) = false := decide_eq_false (by omega)
      rw [e9]
      simp only [numeraryref12_Elapsed.j0]
      rw [if_neg (by decide), if_pos (by omega)]
      have b0 : bt x 0 = (c.toNat : Int) := by
        have := bt_list x 0 (by omega)
        rw [show ((0 : Nat) : Int) = 0 from rfl] at this
        rw [this]
        simp [hd]
      have hL := refE_loop x c r hd (by omega) x.size 0 (by omega) k (by omega)
      rw [List.drop_zero, hd, List.all_cons] at hL
      have hcc : (c == c) = true := by simp
      rw [hcc, Bool.true_and, all_nats c r] at hL
      rw [show ((0 : Nat) : Int) = 0 from rfl] at hL
      have go : ∀ y, y = false → numeraryref12_Elapsed.j1 (k + 1) x y = some (if (r.map (fun b => b.toNat)).all (· == c.toNat) = true then (⟨#[c]⟩, (x.size : Int), true) else (⟨#[]⟩, 0, false)) := by
        intro y hy
        subst hy
        simp only [numeraryref12_Elapsed.j1]
        rw [if_neg (by decide)]
        exact hL
      have fin : (if (r.map (fun b => b.toNat)).all (· == c.toNat) = true then ((⟨#[c]⟩ : ByteArray), (x.size : Int), true) else (⟨#[]⟩, 0, false)) = (if (r.map (fun b => b.toNat)).all (· == c.toNat) = true then ((⟨#[UInt8.ofNat c.toNat]⟩ : ByteArray), ((r.length + 1 : Nat) : Int), true) else (⟨#[]⟩, 0, false)) := by
        rw [ofNat_toNat, hs]
      rw [b0]
      by_cases c1 : c.toNat = 104
      · rw [if_pos (by omega), go false rfl, fin]
        congr 1
        by_cases ha : (r.map (fun b => b.toNat)).all (· == c.toNat) = true
        · rw [if_pos ha, if_pos ⟨h9, .inl c1, ha⟩]
        · rw [if_neg ha, if_neg (fun h => ha h.2.2)]
      · rw [if_neg (by omega)]
        by_cases c2 : c.toNat = 109
        · rw [if_pos (by omega), go false rfl, fin]
          congr 1
          by_cases ha : (r.map (fun b => b.toNat)).all (· == c.toNat) = true
          · rw [if_pos ha, if_pos ⟨h9, .inr (.inl c2), ha⟩]
          · rw [if_neg ha, if_neg (fun h => ha h.2.2)]
        · rw [if_neg (by omega)]
          by_cases c3 : c.toNat = 115
          · rw [go _ (by simp [c3]), fin]
            congr 1
            by_cases ha : (r.map (fun b => b.toNat)).all (· == c.toNat) = true
            · rw [if_pos ha, if_pos ⟨h9, .inr (.inr c3), ha⟩]
            · rw [if_neg ha, if_neg (fun h => ha h.2.2)]
          · have e3 : ((c.toNat : Int) != 115) = true := by
              rw [bne_iff_ne]; omega
            rw [e3]
            simp only [numeraryref12_Elapsed.j1]
            rw [if_pos True.intro, if_neg (fun h => by rcases h.2.1 with h | h | h <;> omega)]
    · have e9 : decide ((x.size : Int) > 9) = true := decide_eq_true (by omega)
      rw [e9]
      simp only [numeraryref12_Elapsed.j0]
      rw [if_pos True.intro, if_neg (fun h => h9 h.1)]

/-! the program -/
theorem lowerB_nat (b : UInt8) : (lowerB b).toNat = lowN b.toNat := by
  have h : ∀ n : Fin 256, (lowerB (UInt8.ofNat n.val)).toNat = lowN n.val := by decide +kernel
  have := h ⟨b.toNat, UInt8.toNat_lt b⟩
  simpa using this
theorem lower_lows (t : ByteArray) (h : ascL t.data.toList = true) : (Lib.toLowerD t.data.toList).map (fun b => b.toNat) = lows t := by
  rw [toLowerD_ascii _ (fun b hb => by have := List.all_eq_true.1 h b hb; simpa using this)]
  unfold toLowerA lows
  rw [List.map_map]
  exact List.map_congr_left fun b _ => lowerB_nat b
theorem elapS_asc (t : ByteArray) (h : ascL t.data.toList ≠ true) : elapS (lows t) = (⟨#[]⟩, 0, false) := by
  cases hl : lows t with
  | nil => rfl
  | cons c r =>
    simp only [elapS]
    rw [if_neg]
    rintro ⟨_, hc, hr⟩
    apply h
    apply List.all_eq_true.2
    intro b hb
    have h1 : lowN b.toNat ∈ lows t := List.mem_map.2 ⟨b, hb, rfl⟩
    rw [hl] at h1
    have h2 : lowN b.toNat = c := by
      rcases List.mem_cons.1 h1 with h1 | h1
      · exact h1
      · have := List.all_eq_true.1 hr _ h1
        simpa using this
    have := lowN_ge b.toNat
    simp only [decide_eq_true_eq]
    omega
theorem inSet_one (R : Nat) (c : UInt8) (hc : c.toNat < 128) : inSet R (⟨#[c]⟩ : ByteArray) (⟨#[c]⟩ : ByteArray).size 0 = (R == c.toNat) := by
  have hs : (⟨#[c]⟩ : ByteArray).size = 1 := rfl
  have hd := decode_ascii (⟨#[c]⟩ : ByteArray) 0 (by rw [hs]; omega) (by exact hc)
  rw [hs]
  simp only [inSet]
  rw [if_pos (by omega), hd]
  rw [Bool.or_false]
  rfl
theorem cutL_one (c : UInt8) (hc : c.toNat < 128) (s : ByteArray) (ha : ascL s.data.toList = true) : ∀ (f pos : Nat), s.size ≤ pos + f → (cutL s (⟨#[c]⟩ : ByteArray) f pos).data.toList = (s.data.toList.drop pos).dropWhile (· == c)
  | 0, pos, h => by
    have : s.data.toList.drop pos = [] := List.drop_of_length_le (by rw [← size_list]; omega)
    rw [this]
    rfl
  | f + 1, pos, h => by
    simp only [cutL]
    by_cases hp : pos < s.size
    · have hlt : pos < s.data.toList.length := by rw [← size_list]; exact hp
      have hb : (s.data.toList[pos]).toNat < 128 := by
        have := List.all_eq_true.1 ha _ (List.getElem_mem hlt)
        simpa using this
      have hd := decode_ascii s pos hp (by rw [get_list s pos hp]; exact hb)
      rw [get_list s pos hp] at hd
      rw [if_pos hp, hd, inSet_one _ c hc, List.drop_eq_getElem_cons hlt]
      by_cases e : s.data.toList[pos] = c
      · have e2 : (s.data.toList[pos].toNat == c.toNat) = true := by rw [e]; simp
        rw [if_pos e2, cutL_one c hc s ha f (pos + 1) (by omega), List.dropWhile_cons]
        simp [e]
      · have e2 : ¬ ((s.data.toList[pos].toNat == c.toNat) = true) := fun h => e (UInt8.toNat_inj.1 (by simpa using h))
        rw [if_neg e2, extract_list, List.dropWhile_cons]
        have e3 : (s.data.toList[pos] == c) = false := by simpa using e
        rw [e3, ← List.drop_eq_getElem_cons hlt]
        rw [size_list, List.take_length, if_neg Bool.false_ne_true]
    · rw [if_neg hp]
      have : s.data.toList.drop pos = [] := List.drop_of_length_le (by rw [← size_list]; omega)
      rw [this]
      rfl
theorem cutR_ne (c : UInt8) (hc : c.toNat < 128) : ∀ (f : Nat) (s : ByteArray) (x : UInt8) (r : List UInt8), s.data.toList = x :: r → x ≠ c → ascL s.data.toList = true → (cutR (⟨#[c]⟩ : ByteArray) f s).data.toList ≠ []
  | 0, s, x, r, hs, _, _ => by simp only [cutR]; rw [hs]; simp
  | f + 1, s, x, r, hs, hx, ha => by
    obtain ⟨init, b, hb⟩ : ∃ init b, s.data.toList = init ++ [b] := ⟨s.data.toList.dropLast, s.data.toList.getLast (by rw [hs]; simp), (List.dropLast_concat_getLast _).symm⟩
    have hpos : 0 < s.size := by rw [size_list, hs]; simp
    have hb8 : b.toNat < 128 := by
      have := List.all_eq_true.1 ha b (by rw [hb]; simp)
      simpa using this
    have hdl : Lib.decodeLastL s.data.toList = (b.toNat, 1) := by rw [hb]; exact decodeLastL_ascii init b hb8
    simp only [cutR]
    rw [if_pos hpos, hdl, inSet_one _ c hc]
    by_cases e : b = c
    · have e2 : (b.toNat == c.toNat) = true := by rw [e]; simp
      rw [if_pos e2]
      cases init with
      | nil =>
        rw [hs] at hb
        simp at hb
        exact absurd (hb.1.trans e) hx
      | cons y init =>
        have hy : y = x := by
          rw [hs] at hb
          simp at hb
          exact hb.1.symm
        subst hy
        have hd : (s.extract 0 (s.size - 1)).data.toList = y :: init := by
          rw [extract_list, hb, size_list, hb]
          simp
        refine cutR_ne c hc f _ y init hd hx ?_
        rw [hd]
        have h2 := ha
        rw [hb] at h2
        simp only [ascL, List.all_append, List.all_cons, Bool.and_eq_true, List.cons_append] at h2 ⊢
        exact ⟨h2.1, h2.2.1⟩
    · have e2 : ¬ ((b.toNat == c.toNat) = true) := fun h => e (UInt8.toNat_inj.1 (by simpa using h))
      rw [if_neg e2, hs]
      simp
theorem dropWhile_all (c : UInt8) : ∀ l : List UInt8, l.all (· == c) = true → l.dropWhile (· == c) = []
  | [], _ => rfl
  | b :: l, h => by
    simp only [List.all_cons, Bool.and_eq_true] at h
    rw [List.dropWhile_cons, if_pos h.1, dropWhile_all c l h.2]
theorem dropWhile_not (c : UInt8) : ∀ l : List UInt8, l.all (· == c) ≠ true → ∃ x r, l.dropWhile (· == c) = x :: r ∧ x ≠ c
  | [], h => by simp at h
  | b :: l, h => by
    by_cases e : (b == c) = true
    · rw [List.dropWhile_cons, if_pos e]
      exact dropWhile_not c l (by simpa [List.all_cons, e] using h)
    · rw [List.dropWhile_cons, if_neg e]
      exact ⟨b, l, rfl, by simpa using e⟩
theorem elapsed_f (t : ByteArray) (ht : t.size ≤ 900) : colour_Elapsed.f t = some (elapS (lows t)) := by
  unfold colour_Elapsed.f
  have h1 : strings_ToLower.f t = some ⟨(Lib.toLowerD t.data.toList).toArray⟩ := by
    unfold strings_ToLower.f
    rw [if_pos (by omega)]
  rw [h1]
  simp only [Option.bind_some]
  obtain ⟨x, hx⟩ : ∃ x : ByteArray, ⟨(Lib.toLowerD t.data.toList).toArray⟩ = x := ⟨_, rfl⟩
  have hxd : x.data.toList = Lib.toLowerD t.data.toList := by rw [← hx]
  rw [hx, plain_f]
  simp only [Option.bind_some]
  by_cases ha : ascL t.data.toList = true
  · have hl := lower_lows t ha
    rw [← hxd] at hl
    rw [← hl]
    cases hc : x.data.toList with
    | nil =>
      rw [if_pos (by rw [PL.toList_data, hc])]
      rfl
    | cons c r =>
      have hs : x.size = r.length + 1 := by rw [size_list, hc]; rfl
      rw [if_neg (by rw [PL.toList_data, hc]; simp)]
      simp only [List.map_cons, elapS, List.length_map]
      by_cases h9 : r.length + 1 ≤ 9
      · have hax : ascL x.data.toList = true := by
          apply List.all_eq_true.2
          intro b hb
          have h2 : b.toNat ∈ lows t := by rw [← hl]; exact List.mem_map.2 ⟨b, hb, rfl⟩
          obtain ⟨q, hq, e⟩ := List.mem_map.1 h2
          have := List.all_eq_true.1 ha q hq
          simp only [decide_eq_true_eq] at this ⊢
          have := lowN_lt q.toNat this
          omega
        have hc8 : c.toNat < 128 := by
          have := List.all_eq_true.1 hax c (by rw [hc]; simp)
          simpa using this
        have he : x.extract 0 1 = ⟨#[c]⟩ := ba_ext (by rw [extract_list, hc]; rfl)
        rw [if_neg (by omega), if_pos ha, if_pos (by omega), if_pos (by omega), he]
        have hcon : strings_Contains.f (⟨#[104, 109, 115]⟩ : ByteArray) (⟨#[c]⟩ : ByteArray) = some (decide (c ∈ ([104, 109, 115] : List UInt8))) := by
          unfold strings_Contains.f
          rw [if_pos (by decide)]
          have : (⟨#[c]⟩ : ByteArray).data.toList = [c] := rfl
          rw [this, contains_iff]
        rw [hcon]
        simp only [Option.bind_some]
        have hm : c ∈ ([104, 109, 115] : List UInt8) ↔ (c.toNat = 104 ∨ c.toNat = 109 ∨ c.toNat = 115) := by
          simp only [List.mem_cons, List.mem_nil_iff, or_false, ← UInt8.toNat_inj]
          rfl
        by_cases hcm : c ∈ ([104, 109, 115] : List UInt8)
        · rw [if_pos (decide_eq_true hcm)]
          have hcl : colour_cutLeft.f x (⟨#[c]⟩ : ByteArray) = some (cutL x (⟨#[c]⟩ : ByteArray) x.size 0) := by
            unfold colour_cutLeft.f
            rw [if_pos (by omega), if_pos (by show (1 : Nat) ≤ 9223372036854775807; omega)]
          rw [hcl]
          simp only [Option.bind_some]
          obtain ⟨y, hy⟩ : ∃ y, cutL x (⟨#[c]⟩ : ByteArray) x.size 0 = y := ⟨_, rfl⟩
          have hyd := cutL_one c hc8 x hax x.size 0 (by omega)
          rw [hy, List.drop_zero] at hyd
          have hys : y.size ≤ 1000 := by
            rw [size_list, hyd]
            have := (List.dropWhile_sublist (l := x.data.toList) (· == c)).length_le
            rw [hc] at this ⊢
            simp at this ⊢
            omega
          have hcr : colour_cutRight.f y (⟨#[c]⟩ : ByteArray) = some (cutR (⟨#[c]⟩ : ByteArray) y.size y) := by
            unfold colour_cutRight.f
            rw [if_pos (by omega), if_pos (by show (1 : Nat) ≤ 9223372036854775807; omega)]
          rw [hy, hcr]
          simp only [Option.bind_some]
          have hall : x.data.toList.all (· == c) = (r.map (fun b => b.toNat)).all (· == c.toNat) := by
            rw [hc, List.all_cons, all_nats c r]
            simp
          by_cases hA : x.data.toList.all (· == c) = true
          · have h0 := dropWhile_all c _ hA
            rw [h0] at hyd
            have hy0 : y = ⟨#[]⟩ := ba_ext (by rw [hyd])
            have hz : y.size = 0 := by rw [hy0]; rfl
            have hE : (cutR (⟨#[c]⟩ : ByteArray) y.size y).toList = ([] : List UInt8) := by
              rw [hz]
              show y.toList = []
              rw [hy0, PL.toList_data]
            rw [if_pos hE, if_pos ⟨h9, hm.1 hcm, by rw [← hall]; exact hA⟩, ofNat_toNat, hs]
          · obtain ⟨q, r2, h0, hq⟩ := dropWhile_not c _ hA
            rw [h0] at hyd
            have hay : ascL y.data.toList = true := by
              rw [hyd, ← h0]
              apply List.all_eq_true.2
              intro b hb
              exact List.all_eq_true.1 hax b ((List.dropWhile_sublist _).subset hb)
            have := cutR_ne c hc8 y.size y q r2 hyd hq hay
            rw [if_neg (by rw [PL.toList_data]; exact this), if_neg (fun h => hA (by rw [hall]; exact h.2.2))]
        · rw [if_neg (by simpa using hcm), if_neg (fun h => hcm (hm.2 h.2.1))]
      · rw [if_pos (by omega), if_neg (fun h => h9 h.1)]
  · rw [elapS_asc t ha, if_neg ha]
    split
    · rfl
    · split <;> rfl

/-! hexadecimal -/
theorem hexV_small (c : Nat) (h : c < 256) (hv : (hexV (c : Int)).isSome = true) : c < 128 := by
  have : ∀ m : Fin 256, (hexV (m.val : Int)).isSome = true → m.val < 128 := by decide +kernel
  exact this ⟨c, h⟩ hv
theorem pu16_digs : ∀ (l : List Int) (n : Int), (pu16 n l).1 = 0 → ∀ c ∈ l, (hexV c).isSome = true
  | [], _, _, c, hc => by simp at hc
  | x :: l, n, h, c, hc => by
    simp only [pu16] at h
    cases hx : hexV x with
    | none => rw [hx] at h; cases h
    | some d =>
      rw [hx] at h
      simp only at h
      split at h
      · cases h
      · rcases List.mem_cons.1 hc with rfl | hc
        · rw [hx]; rfl
        · exact pu16_digs l _ h c hc
theorem pr16_digs (s : ByteArray) (h : (pr16 s).1 = 0) : ∀ b ∈ s.data.toList, (hexV (b.toNat : Int)).isSome = true := by
  unfold pr16 at h
  split at h
  · cases h
  · intro b hb
    exact pu16_digs _ _ h _ (List.mem_map.2 ⟨b, hb, rfl⟩)
theorem pr16_ascii (s : ByteArray) (h : (pr16 s).1 = 0) : asciiB s = true := by
  apply List.all_eq_true.2
  intro b hb
  have := hexV_small b.toNat (UInt8.toNat_lt b) (pr16_digs s h b hb)
  simpa using this
end Go.Proofs.YtcdpjohbnfkmiaaDoor.PC
