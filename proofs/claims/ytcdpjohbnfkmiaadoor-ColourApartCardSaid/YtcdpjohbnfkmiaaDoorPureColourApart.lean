/-
  The pure statement of ColourApart: no text names two colours, or is an elapsed unit and money, or names a colour and is one of these.
-/
import Derived.Test.YtcdpjohbnfkmiaaDoorPE12
import Derived.Test.YtcdpjohbnfkmiaaDoorPx15
namespace Go.Proofs.YtcdpjohbnfkmiaaDoor.Pure
open Go.RowKit Go.Lib Go.Proofs.YtcdpjohbnfkmiaaDoor.P Go.Proofs.YtcdpjohbnfkmiaaDoor.G Go.Proofs.YtcdpjohbnfkmiaaDoor.PL Go.Proofs.YtcdpjohbnfkmiaaDoor.PC Go.Proofs.YtcdpjohbnfkmiaaDoorW.PrintWords Go.Proofs.YtcdpjohbnfkmiaaDoorW.PrintLast
set_option linter.unusedVariables false

/-- Is a list of small letters an elapsed unit? -/
def elapB (l : List Nat) : Bool := (elapS l).2.2
theorem elapB_head {l : List Nat} (h : elapB l = true) : ∃ c r, l = c :: r ∧ (c = 104 ∨ c = 109 ∨ c = 115) := by
  cases l with
  | nil => simp [elapB, elapS] at h
  | cons c r =>
    simp only [elapB, elapS] at h
    split at h
    · rename_i hc; exact ⟨c, r, rfl, hc.2.1⟩
    · cases h
theorem seek_hit (t : ByteArray) : ∀ (d i : Nat), (seek t d i).2 = true → ∃ n, i + 1 ≤ n ∧ n ≤ i + d ∧ hit t n = true
  | 0, i, h => by cases h
  | d + 1, i, h => by
    simp only [seek] at h
    split at h
    · exact ⟨i + 1, by omega, by omega, by assumption⟩
    · obtain ⟨n, h1, h2, h3⟩ := seek_hit t d (i + 1) h
      exact ⟨n, by omega, by omega, h3⟩
theorem name_not_elap (n : Nat) (h1 : 1 ≤ n) (h2 : n ≤ 64) : elapB (lows (cname n)) = false := fin64 (p := fun n => elapB (lows (cname n)) = false) (by decide +kernel) n h1 h2
theorem name_not_money (n : Nat) (h1 : 1 ≤ n) (h2 : n ≤ 64) : (lows (cname n)).head? ≠ some 36 := fin64 (p := fun n => (lows (cname n)).head? ≠ some 36) (by decide +kernel) n h1 h2
theorem money_dollar {t : ByteArray} {r : ByteArray × Int × Bool} (h : colour_Money.f t = some r) (hr : r.2.2 = true) : (lows t).head? = some 36 := by
  unfold colour_Money.f at h
  by_cases h1 : mHas t = true
  · unfold mHas at h1
    unfold lows
    cases hd : t.data.toList with
    | nil => rw [hd] at h1; cases h1
    | cons c l =>
      rw [hd] at h1
      have e : c = 36 := by
        simp [Lib.hasPrefix, List.isPrefixOf] at h1
        exact h1.symm
      subst e
      rfl
  · rw [if_neg h1] at h
    obtain rfl := Option.some.inj h
    cases hr
theorem money_some (t : ByteArray) (ht : t.size ≤ 1000) : ∃ r, colour_Money.f t = some r := by
  have hrest : (mRest t).size ≤ 1000 := by
    rw [size_list]
    unfold mRest Lib.trimPrefix
    have := size_list t
    split <;> simp <;> omega
  have hhex : (mHex (mRest t)).size ≤ 1000 := by
    rw [size_list]
    unfold mHex Lib.cut
    have := size_list (mRest t)
    split <;> simp <;> omega
  unfold colour_Money.f
  by_cases h1 : mHas t = true
  · rw [if_pos h1, if_pos (by omega)]
    by_cases h2 : mDash (mRest t) = true
    · rw [if_pos h2, if_pos (by omega)]
      by_cases h3 : (pr16 (mHex (mRest t))).1 = 0
      · rw [if_pos h3]
        by_cases h4 : 8 < (mHex (mRest t)).size
        · exact ⟨_, if_pos h4⟩
        · rw [if_neg h4, if_pos (pr16_ascii _ h3)]
          split <;> exact ⟨_, rfl⟩
      · exact ⟨_, if_neg h3⟩
    · exact ⟨_, if_neg h2⟩
  · exact ⟨_, if_neg h1⟩
/-- What a text is: no two of the three. -/
theorem apart (t : ByteArray) (ht : t.size ≤ 900) (k : Nat) (hk : 70 ≤ k) :
    ∃ a b c, colour_Number.f k t = some a ∧ colour_Elapsed.f t = some b ∧ colour_Money.f t = some c ∧ ¬ (a.2 = true ∧ b.2.2 = true) ∧ ¬ (a.2 = true ∧ c.2.2 = true) ∧ ¬ (b.2.2 = true ∧ c.2.2 = true) := by
  obtain ⟨c, hc⟩ := money_some t (by omega)
  refine ⟨_, _, c, number_f t k hk, elapsed_f t ht, hc, ?_, ?_, ?_⟩
  · rintro ⟨ha, hb⟩
    obtain ⟨n, h1, h2, h3⟩ := seek_hit t 64 0 ha
    have e : lows (cname n) = lows t := of_decide_eq_true h3
    have := name_not_elap n (by omega) (by omega)
    rw [e] at this
    exact absurd hb (by show ¬ elapB (lows t) = true; rw [this]; decide)
  · rintro ⟨ha, hb⟩
    obtain ⟨n, h1, h2, h3⟩ := seek_hit t 64 0 ha
    have e : lows (cname n) = lows t := of_decide_eq_true h3
    have := name_not_money n (by omega) (by omega)
    rw [e] at this
    exact this (money_dollar hc hb)
  · rintro ⟨ha, hb⟩
    obtain ⟨x, r, e, hx⟩ := elapB_head (l := lows t) ha
    have := money_dollar hc hb
    rw [e] at this
    simp at this
    omega

theorem mx_ge (a b : Int) : a ≤ mx a b ∧ b ≤ mx a b := by unfold mx; split <;> omega
theorem mn_le (a b : Int) : mn a b ≤ a ∧ mn a b ≤ b := by unfold mn; split <;> omega
theorem mn_ge (a b : Int) (c : Int) (h1 : c ≤ a) (h2 : c ≤ b) : c ≤ mn a b := by unfold mn; split <;> omega
theorem apart_step (k : Nat) (x1 : Int) (l : List ByteArray) (n i : Int) (h0 : 0 ≤ i) (h1 : i < n) (hn : n = (l.length : Int)) (hk : 70 ≤ k) (ht : (rdOf ByteArray.empty l i).size ≤ 900) :
    numerarylaw12_ColourApart.l0 (k + 1) x1 l n i = numerarylaw12_ColourApart.l0 k x1 l n (wrap64 (i + 1)) := by
  obtain ⟨a, b, c, ea, eb, ec, h2, h3, h4⟩ := apart (rdOf ByteArray.empty l i) ht k hk
  simp only [numerarylaw12_ColourApart.l0]
  rw [if_pos h1, if_pos h0, if_pos (by omega), ea]
  simp only [Option.bind_some]
  rw [eb]
  simp only [Option.bind_some]
  rw [ec]
  simp only [Option.bind_some]
  by_cases ha : a.2 = true
  · rw [if_pos ha, if_neg (fun h => h2 ⟨ha, h⟩), if_neg (fun h => h3 ⟨ha, h⟩)]
  · rw [if_neg ha]
    by_cases hb : b.2.2 = true
    · rw [if_pos hb, if_neg (fun h => h4 ⟨hb, h⟩)]
    · rw [if_neg hb]
theorem names_apart (m n : Nat) (h1 : 1 ≤ m) (h2 : m ≤ 64) (h3 : 1 ≤ n) (h4 : n ≤ 64) (h : m ≠ n) : ¬ (cname m).toList = (cname n).toList := by
  have key : ∀ a b : Fin 64, a ≠ b → (cname (a.val + 1)).data.toList ≠ (cname (b.val + 1)).data.toList := by decide +kernel
  have := key ⟨m - 1, by omega⟩ ⟨n - 1, by omega⟩ (fun e => h (by have := congrArg Fin.val e; simp at this; omega))
  have e1 : m - 1 + 1 = m := by omega
  have e2 : n - 1 + 1 = n := by omega
  simp only [e1, e2] at this
  rw [PL.toList_data, PL.toList_data]
  exact this
theorem apart_loop (n : Nat) (h1 : 1 ≤ n) (h2 : n ≤ 64) : ∀ (d m : Nat), m + d = 65 → 1 ≤ m → ∀ k, d + 102 ≤ k → numerarylaw12_ColourApart.l1 k (n : Int) (m : Int) = some true
  | 0, m, hm, h0, k, hk => by
    obtain ⟨k, rfl⟩ : ∃ j, k = j + 1 := ⟨k - 1, by omega⟩
    simp only [numerarylaw12_ColourApart.l1]
    rw [if_neg (by omega), at_rounds numerarylaw12_wakes.mono (by omega) wakes12]
    rfl
  | d + 1, m, hm, h0, k, hk => by
    obtain ⟨k, rfl⟩ : ∃ j, k = j + 1 := ⟨k - 1, by omega⟩
    have ih := apart_loop n h1 h2 d (m + 1) (by omega) (by omega) k (by omega)
    simp only [numerarylaw12_ColourApart.l1]
    rw [if_pos (by omega), wrap_nat m (by omega)]
    by_cases e : m = n
    · rw [if_pos (by omega), ih]
    · rw [if_neg (by omega), name_in m h0 (by omega) k (by omega)]
      simp only [Option.bind_some]
      rw [name_in n h1 h2 k (by omega)]
      simp only [Option.bind_some]
      rw [if_neg (names_apart m n h0 (by omega) h1 h2 e), ih]
theorem ColourApart : numerarylaw12_ColourApart.Pure := by
  intro a0 a1 hs hwf
  have hr : -9223372036854775808 ≤ a1 ∧ a1 ≤ 9223372036854775807 := by
    have e1 : IntKind.i64.min = -9223372036854775808 := rfl
    have e2 : IntKind.i64.max = 9223372036854775807 := rfl
    simp [Lit.wf, e1, e2] at hwf
    omega
  refine ⟨203, ?_⟩
  have h1 := mn_ge (a0.size : Int) 30 0 (by omega) (by omega)
  have h2 := mn_le (a0.size : Int) 30
  have hm := mx_ge 0 a1
  unfold numerarylaw12_ColourApart.f
  rw [if_pos h1, if_pos h2.1]
  obtain ⟨t, ht⟩ : ∃ t, a0.extract 0 ((mn (a0.size : Int) 30) : Int).toNat = t := ⟨_, rfl⟩
  have hts : t.size ≤ 100 := by
    rw [← ht]
    simp
    omega
  obtain ⟨n, hn⟩ : ∃ n : Nat, (n : Int) = 1 + mx 0 a1 % 64 := ⟨(1 + mx 0 a1 % 64).toNat, by omega⟩
  have hc := cname_size n (by omega) (by omega)
  have hd : ((⟨#[36]⟩ : ByteArray) ++ t).size ≤ 900 := by
    rw [ByteArray.size_append]
    have : (⟨#[36]⟩ : ByteArray).size = 1 := rfl
    omega
  rw [ht, ← hn, name_in n (by omega) (by omega) 203 (by omega)]
  simp only [Option.bind_some]
  rw [if_pos (by omega)]
  show numerarylaw12_ColourApart.l0 (202 + 1) a1 [t, cname n, (⟨#[36]⟩ : ByteArray) ++ t] 3 0 = some true
  rw [apart_step 202 a1 _ 3 0 (by omega) (by omega) rfl (by omega) (by show t.size ≤ 900; omega)]
  have w1 : wrap64 (0 + 1) = 1 := by unfold wrap64; omega
  have w2 : wrap64 (1 + 1) = 2 := by unfold wrap64; omega
  have w3 : wrap64 (2 + 1) = 3 := by unfold wrap64; omega
  rw [w1]
  show numerarylaw12_ColourApart.l0 (201 + 1) a1 [t, cname n, (⟨#[36]⟩ : ByteArray) ++ t] 3 1 = some true
  rw [apart_step 201 a1 _ 3 1 (by omega) (by omega) rfl (by omega) (by show (cname n).size ≤ 900; omega), w2]
  show numerarylaw12_ColourApart.l0 (200 + 1) a1 [t, cname n, (⟨#[36]⟩ : ByteArray) ++ t] 3 2 = some true
  rw [apart_step 200 a1 _ 3 2 (by omega) (by omega) rfl (by omega) (by exact hd), w3]
  have hend : ∀ k, numerarylaw12_ColourApart.l0 (k + 1) a1 [t, cname n, (⟨#[36]⟩ : ByteArray) ++ t] 3 3 = numerarylaw12_ColourApart.l1 k (1 + mx 0 a1 % 64) 1 := fun k => by
    simp only [numerarylaw12_ColourApart.l0]
    rw [if_neg (by omega)]
  show numerarylaw12_ColourApart.l0 (199 + 1) a1 [t, cname n, (⟨#[36]⟩ : ByteArray) ++ t] 3 3 = some true
  rw [hend, ← hn]
  exact apart_loop n (by omega) (by omega) 64 1 (by omega) (by omega) 199 (by omega)
end Go.Proofs.YtcdpjohbnfkmiaaDoor.Pure
