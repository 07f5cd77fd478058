/-
  The pure statement of ColourBack: money that is made of a text and a language are these again; of a text with a dash none is made.
-/
import Derived.Test.YtcdpjohbnfkmiaaDoorPx14
import Derived.Test.YtcdpjohbnfkmiaaDoorPL
import Derived.Shelf.Strings.CaseAny
namespace Go.Proofs.YtcdpjohbnfkmiaaDoor.Pure
open Go.RowKit Go.Lib Go.Proofs.YtcdpjohbnfkmiaaDoor.P Go.Proofs.YtcdpjohbnfkmiaaDoor.G Go.Proofs.YtcdpjohbnfkmiaaDoor.PL Go.Proofs.YtcdpjohbnfkmiaaDoorW.PrintWords Go.Proofs.YtcdpjohbnfkmiaaDoorW.PrintLast

theorem wakes12 : numerarylaw12_wakes.f 100 = some true := by decide +kernel
/-- The digits of base 16, as numbers. -/
def hxd : Nat → Nat → List Nat → List Nat
  | 0, _, acc => acc
  | k + 1, u, acc => if u < 16 then u :: acc else hxd k (u / 16) (u % 16 :: acc)
theorem hx_eq : ∀ (k u : Nat) (acc : List Nat), hx k u (acc.map hexDig) = (hxd k u acc).map hexDig
  | 0, _, _ => rfl
  | k + 1, u, acc => by
    simp only [hx, hxd]
    split
    · rfl
    · exact hx_eq k (u / 16) (u % 16 :: acc)
theorem hxd_lt : ∀ (k u : Nat) (acc : List Nat), (∀ d ∈ acc, d < 16) → ∀ d ∈ hxd k u acc, d < 16
  | 0, _, _, h => h
  | k + 1, u, acc, h => by
    simp only [hxd]
    split
    · intro d hd
      rcases List.mem_cons.1 hd with rfl | hd
      · assumption
      · exact h d hd
    · refine hxd_lt k (u / 16) (u % 16 :: acc) fun d hd => ?_
      rcases List.mem_cons.1 hd with rfl | hd
      · omega
      · exact h d hd
def val16 (l : List Nat) (n : Nat) : Nat := l.foldl (fun n d => n * 16 + d) n
theorem hxd_val : ∀ (k u : Nat) (acc : List Nat), u < 16 ^ k → 1 ≤ k → val16 (hxd k u acc) 0 = val16 acc u
  | 0, _, _, _, h => by omega
  | k + 1, u, acc, hu, _ => by
    simp only [hxd]
    split
    · simp [val16]
    · have h1 : u / 16 < 16 ^ k := by
        rw [Nat.pow_succ] at hu
        omega
      have h2 : 1 ≤ k := by
        cases k with
        | zero => simp at h1; omega
        | succ k => omega
      rw [hxd_val k (u / 16) (u % 16 :: acc) h1 h2]
      simp only [val16, List.foldl_cons]
      congr 1
      omega
theorem hxd_len : ∀ (k j u : Nat) (acc : List Nat), u < 16 ^ j → 1 ≤ j → (hxd k u acc).length ≤ j + acc.length
  | 0, _, _, _, _, _ => by simp only [hxd]; omega
  | k + 1, j, u, acc, hu, hj => by
    simp only [hxd]
    split
    · simp; omega
    · obtain ⟨j, rfl⟩ : ∃ i, j = i + 1 := ⟨j - 1, by omega⟩
      have h1 : u / 16 < 16 ^ j := by
        rw [Nat.pow_succ] at hu
        omega
      have h2 : 1 ≤ j := by
        cases j with
        | zero => simp at h1; omega
        | succ j => omega
      have := hxd_len k j (u / 16) (u % 16 :: acc) h1 h2
      simp at this
      omega
theorem hxd_ne : ∀ (k u : Nat) (acc : List Nat), 1 ≤ k → hxd k u acc ≠ []
  | 0, _, _, h => by omega
  | k + 1, u, acc, _ => by
    simp only [hxd]
    split
    · simp
    · cases k with
      | zero => simp [hxd]
      | succ k => exact hxd_ne (k + 1) _ _ (by omega)
theorem val16_ge : ∀ (l : List Nat) (n : Nat), n ≤ val16 l n
  | [], n => Nat.le_refl _
  | d :: l, n => by
    have := val16_ge l (n * 16 + d)
    simp only [val16, List.foldl_cons] at this ⊢
    omega
/-- A digit's byte, great. -/
def upB (d : Nat) : UInt8 := upperB (UInt8.ofNat (hexDig d).toNat)
theorem fin16 {p : Nat → Prop} (h : ∀ m : Fin 16, p m.val) (d : Nat) (hd : d < 16) : p d := h ⟨d, hd⟩
theorem upB_hex (d : Nat) (hd : d < 16) : hexV ((upB d).toNat : Int) = some (d : Int) := fin16 (p := fun d => hexV ((upB d).toNat : Int) = some (d : Int)) (by decide) d hd
theorem upB_ascii (d : Nat) (hd : d < 16) : (upB d).toNat < 128 := fin16 (p := fun d => (upB d).toNat < 128) (by decide) d hd
theorem upB_plain (d : Nat) (hd : d < 16) : upB d ≠ 95 ∧ upB d ≠ 43 := fin16 (p := fun d => upB d ≠ 95 ∧ upB d ≠ 43) (by decide) d hd
theorem hexDig_ascii (d : Nat) (hd : d < 16) : (UInt8.ofNat (hexDig d).toNat).toNat < 128 := fin16 (p := fun d => (UInt8.ofNat (hexDig d).toNat).toNat < 128) (by decide) d hd
theorem pu16_digits : ∀ (l : List Nat) (n : Nat), (∀ d ∈ l, d < 16) → val16 l n ≤ 4294967295 → pu16 n (l.map fun d => ((upB d).toNat : Int)) = (0, (val16 l n : Int))
  | [], n, _, _ => rfl
  | d :: l, n, h, hv => by
    have hd := h d (by simp)
    have h1 : n * 16 + d ≤ val16 (d :: l) n := val16_ge l (n * 16 + d)
    simp only [List.map_cons, pu16, upB_hex d hd]
    have h2 : ¬ (4294967295 < (n : Int) * 16 + (d : Int)) := by omega
    rw [if_neg h2]
    have h3 := pu16_digits l (n * 16 + d) (fun x hx => h x (by simp [hx])) hv
    have e : ((n * 16 + d : Nat) : Int) = (n : Int) * 16 + (d : Int) := by omega
    rw [e] at h3
    exact h3
/-- The text of a language in a bracket. -/
def langB (n : Nat) : ByteArray := ⟨((hxd 17 n []).map upB).toArray⟩
theorem upper_lang (n : Nat) : (⟨(Lib.toUpperD (strOfNums (hx 17 n [])).data.toList).toArray⟩ : ByteArray) = langB n := by
  have e1 : hx 17 n [] = (hxd 17 n []).map hexDig := hx_eq 17 n []
  have e2 : (strOfNums (hx 17 n [])).data.toList = (hxd 17 n []).map fun d => UInt8.ofNat (hexDig d).toNat := by
    rw [strOfNums_data, e1, List.map_map]
    rfl
  rw [e2, toUpperD_ascii]
  · unfold toUpperA langB
    rw [List.map_map]
    rfl
  · intro b hb
    obtain ⟨d, hd, rfl⟩ := List.mem_map.1 hb
    exact hexDig_ascii d (hxd_lt 17 n [] (by simp) d hd)
theorem lang_data (n : Nat) : (langB n).data.toList = (hxd 17 n []).map upB := mk_list _
theorem lang_pr (n : Nat) (h : n < 4294967296) : pr16 (langB n) = (0, (n : Int)) := by
  have hne : (langB n).size ≠ 0 := by
    rw [size_list, lang_data]
    have := hxd_ne 17 n [] (by omega)
    intro h0
    exact this (List.eq_nil_of_length_eq_zero (by simpa using h0))
  unfold pr16
  rw [if_neg hne]
  have e : bytesOf (langB n) = (hxd 17 n []).map fun d => ((upB d).toNat : Int) := by
    unfold bytesOf
    rw [lang_data, List.map_map]
    rfl
  have hv : val16 (hxd 17 n []) 0 = n := hxd_val 17 n [] (by omega) (by omega)
  rw [e]
  have := pu16_digits (hxd 17 n []) 0 (hxd_lt 17 n [] (by simp)) (by omega)
  rw [hv] at this
  exact this
theorem lang_len (n : Nat) (h : n < 4294967296) : (langB n).size ≤ 8 := by
  rw [size_list, lang_data]
  have := hxd_len 17 8 n [] (by omega) (by omega)
  simpa using this
theorem lang_ascii (n : Nat) : asciiB (langB n) = true := by
  unfold asciiB
  rw [lang_data]
  apply List.all_eq_true.2
  intro b hb
  obtain ⟨d, hd, rfl⟩ := List.mem_map.1 hb
  simpa using upB_ascii d (hxd_lt 17 n [] (by simp) d hd)
theorem lang_any (n : Nat) : Lib.containsAny (langB n).data.toList [95, 43] = false := by
  rw [lang_data]
  apply containsAny_none
  intro b hb
  obtain ⟨d, hd, rfl⟩ := List.mem_map.1 hb
  have := upB_plain d (hxd_lt 17 n [] (by simp) d hd)
  simp [this.1, this.2]
theorem trim_dollar (l : List UInt8) : Lib.trimPrefix (36 :: l) [36] = l ∧ Lib.hasPrefix (36 :: l) [36] = true := by
  constructor <;> simp [Lib.trimPrefix, Lib.hasPrefix, List.isPrefixOf]
theorem data_dollar (t : ByteArray) : ((⟨#[36]⟩ : ByteArray) ++ t).data.toList = 36 :: t.data.toList := by rw [app_data]; rfl
/-- Money without a dash. -/
theorem money_bare (t : ByteArray) (ht : t.size < 4294967281) (hd : (45 : UInt8) ∉ t.data.toList) : colour_Money.f ((⟨#[36]⟩ : ByteArray) ++ t) = some (t, 0, true) := by
  have hr : mRest ((⟨#[36]⟩ : ByteArray) ++ t) = t := by
    unfold mRest
    rw [data_dollar, (trim_dollar _).1, ba_mk]
  have hh : mHas ((⟨#[36]⟩ : ByteArray) ++ t) = true := by
    unfold mHas
    rw [data_dollar, (trim_dollar _).2]
  have hc := cut_notin 45 t.data.toList hd
  have h1 : mDash t = false := by unfold mDash; rw [hc]
  have h2 : mName t = t := by unfold mName; rw [hc]
  unfold colour_Money.f
  rw [if_pos hh, hr, if_pos ht, h1]
  simp [h2]
/-- Money with a language. -/
theorem money_lang (t : ByteArray) (n : Nat) (hn : n < 4294967296) (ht : t.size < 1000) (hd : (45 : UInt8) ∉ t.data.toList) :
    colour_Money.f (((⟨#[36]⟩ : ByteArray) ++ t) ++ ((⟨#[45]⟩ : ByteArray) ++ langB n)) = some (t, (n : Int), true) := by
  have hdat : (((⟨#[36]⟩ : ByteArray) ++ t) ++ ((⟨#[45]⟩ : ByteArray) ++ langB n)).data.toList = 36 :: (t.data.toList ++ 45 :: (langB n).data.toList) := by
    rw [app_data, app_data, app_data]
    simp
  have hr : mRest (((⟨#[36]⟩ : ByteArray) ++ t) ++ ((⟨#[45]⟩ : ByteArray) ++ langB n)) = ⟨(t.data.toList ++ 45 :: (langB n).data.toList).toArray⟩ := by
    unfold mRest
    rw [hdat, (trim_dollar _).1]
  have hh : mHas (((⟨#[36]⟩ : ByteArray) ++ t) ++ ((⟨#[45]⟩ : ByteArray) ++ langB n)) = true := by
    unfold mHas
    rw [hdat, (trim_dollar _).2]
  obtain ⟨R, hR⟩ : ∃ R : ByteArray, R = ⟨(t.data.toList ++ 45 :: (langB n).data.toList).toArray⟩ := ⟨_, rfl⟩
  have hRd : R.data.toList = t.data.toList ++ 45 :: (langB n).data.toList := by rw [hR]
  have hc := cut_at 45 t.data.toList (langB n).data.toList hd
  rw [← hRd] at hc
  have h1 : mDash R = true := by unfold mDash; rw [hc]
  have h2 : mName R = t := by unfold mName; rw [hc]
  have h3 : mHex R = langB n := by unfold mHex; rw [hc]
  have hl := lang_len n hn
  have hs : R.size < 4294967281 := by
    rw [size_list, hRd]
    have e1 := size_list t
    have e2 := size_list (langB n)
    simp
    omega
  unfold colour_Money.f
  rw [if_pos hh, hr, ← hR, if_pos hs, if_pos h1, h3, if_pos (by omega), lang_pr n hn, if_pos rfl, if_neg (by omega), if_pos (lang_ascii n), lang_any n, h2]
  have hw : IntKind.u32.wrap (n : Int) = n := IntWalk.u32_in _ (by omega)
  simp [hw]
theorem mn_le (a b : Int) : mn a b ≤ a ∧ mn a b ≤ b := by unfold mn; split <;> omega
theorem mn_ge (a b : Int) (c : Int) (h1 : c ≤ a) (h2 : c ≤ b) : c ≤ mn a b := by unfold mn; split <;> omega
theorem cut_size (s : ByteArray) (n : Nat) : (s.extract 0 n).size ≤ n := by simp; omega

theorem back (t : ByteArray) (ht : t.size ≤ 40) (n : Nat) (hn : n < 4294967296) :
    (colour_Wallet.f t n).bind (fun bt176 => ((strings_Contains.f t (⟨#[45]⟩ : ByteArray)).bind fun t178 => (if (bt176.2 == t178) = true then (numerarylaw12_ColourBack.j0 101 t n bt176.1 bt176.2 true) else (if bt176.2 = true then (numerarylaw12_ColourBack.j0 101 t n bt176.1 bt176.2 false) else (numerarylaw12_ColourBack.j0 101 t n bt176.1 bt176.2 (bt176.1.toList != ([] : List UInt8))))))) = some true := by
  have hc : strings_Contains.f t (⟨#[45]⟩ : ByteArray) = some (decide ((45 : UInt8) ∈ t.data.toList)) := by
    unfold strings_Contains.f
    rw [if_pos (by omega)]
    have : (⟨#[45]⟩ : ByteArray).data.toList = [45] := rfl
    rw [this, contains_iff]
  by_cases hd : (45 : UInt8) ∈ t.data.toList
  · have hw : colour_Wallet.f t n = some (⟨#[]⟩, false) := by
      unfold colour_Wallet.f
      rw [hc, decide_eq_true hd]
      rfl
    rw [hw, hc, decide_eq_true hd]
    simp only [Option.bind_some]
    have e1 : ((false == true) = true) = False := by simp
    have e2 : ((⟨#[]⟩ : ByteArray).toList != ([] : List UInt8)) = false := by decide +kernel
    simp only [e2]
    simp [numerarylaw12_ColourBack.j0, wakes12]
  · by_cases h0 : n = 0
    · subst h0
      have hw : colour_Wallet.f t ((0 : Nat) : Int) = some ((⟨#[36]⟩ : ByteArray) ++ t, true) := by
        unfold colour_Wallet.f
        rw [hc, decide_eq_false hd]
        simp only [Option.bind_some]
        rw [if_neg (by decide), if_pos (by omega), if_pos (by rfl)]
      rw [hw, hc, decide_eq_false hd]
      simp only [Option.bind_some]
      have hm := money_bare t (by omega) hd
      simp [numerarylaw12_ColourBack.j0, wakes12, hm]
    · have hf : strconv_FormatUint.f (IntKind.u64.wrap (n : Int)) 16 = some (strOfNums (hx 17 n [])) := by
        have hw : IntKind.u64.wrap (n : Int) = n := IntWalk.u64_in _ (by omega)
        unfold strconv_FormatUint.f
        rw [hw, if_pos rfl, if_pos (by omega), Int.toNat_natCast]
      have hl := lang_len n hn
      have hz : (strOfNums (hx 17 n [])).size ≤ 8 := by
        rw [strOfNums_size]
        have e1 : hx 17 n [] = (hxd 17 n []).map hexDig := hx_eq 17 n []
        have := hxd_len 17 8 n [] (by omega) (by omega)
        rw [e1, List.length_map]
        simpa using this
      have hu : strings_ToUpper.f (strOfNums (hx 17 n [])) = some (langB n) := by
        unfold strings_ToUpper.f
        rw [if_pos (by omega), upper_lang]
      have hw : colour_Wallet.f t (n : Int) = some (((⟨#[36]⟩ : ByteArray) ++ t) ++ ((⟨#[45]⟩ : ByteArray) ++ langB n), true) := by
        unfold colour_Wallet.f
        rw [hc, decide_eq_false hd]
        simp only [Option.bind_some]
        rw [if_neg (by decide), if_pos (by omega), if_neg (by omega), hf]
        simp only [Option.bind_some]
        rw [hu]
        simp only [Option.bind_some]
        have s1 : (⟨#[36]⟩ : ByteArray).size = 1 := rfl
        have s2 : (⟨#[45]⟩ : ByteArray).size = 1 := rfl
        rw [if_pos (by omega), if_pos (by rw [ByteArray.size_append, ByteArray.size_append]; omega)]
      rw [hw, hc, decide_eq_false hd]
      simp only [Option.bind_some]
      have hm := money_lang t n hn (by omega) hd
      simp [numerarylaw12_ColourBack.j0, wakes12, hm]

theorem ColourBack : numerarylaw12_ColourBack.Pure := by
  intro a0 a1 hs hwf
  have hr : 0 ≤ a1 ∧ a1 < 4294967296 := by
    have e1 : IntKind.u32.min = 0 := rfl
    have e2 : IntKind.u32.max = 4294967295 := rfl
    simp [Lit.wf, e1, e2] at hwf
    omega
  obtain ⟨n, rfl⟩ := Int.eq_ofNat_of_zero_le hr.1
  refine ⟨101, ?_⟩
  have h1 := mn_ge (a0.size : Int) 40 0 (by omega) (by omega)
  have h2 := (mn_le (a0.size : Int) 40)
  unfold numerarylaw12_ColourBack.f
  rw [if_pos h1, if_pos h2.1]
  obtain ⟨m, hm⟩ : ∃ m, m = ((mn (a0.size : Int) 40) : Int).toNat := ⟨_, rfl⟩
  rw [← hm]
  exact back (a0.extract 0 m) (Nat.le_trans (cut_size a0 m) (by omega)) n (by omega)
end Go.Proofs.YtcdpjohbnfkmiaaDoor.Pure
