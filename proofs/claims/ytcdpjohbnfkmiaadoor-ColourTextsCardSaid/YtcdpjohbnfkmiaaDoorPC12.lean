/-
  The names of the colours, and the colour of a text: what the program's and the reference's functions come to.
-/
import Derived.Test.YtcdpjohbnfkmiaaDoorPx8
import Derived.Test.YtcdpjohbnfkmiaaDoorPx5
import Derived.Test.YtcdpjohbnfkmiaaDoorPL
import Derived.Shelf.Strings.CaseAny
namespace Go.Proofs.YtcdpjohbnfkmiaaDoor.PC
open Go.RowKit Go.Lib Go.Proofs.YtcdpjohbnfkmiaaDoor.P Go.Proofs.YtcdpjohbnfkmiaaDoor.G Go.Proofs.YtcdpjohbnfkmiaaDoor.PL Go.Proofs.YtcdpjohbnfkmiaaDoorW.PrintWords Go.Proofs.YtcdpjohbnfkmiaaDoorW.PrintLast
set_option linter.unusedVariables false
set_option linter.unusedSimpArgs false

theorem wakes12 : numerarylaw12_wakes.f 100 = some true := by decide +kernel
theorem fin64 {p : Nat → Prop} (h : ∀ m : Fin 64, p (m.val + 1)) (n : Nat) (h1 : 1 ≤ n) (h2 : n ≤ 64) : p n := by
  have := h ⟨n - 1, by omega⟩
  have e : n - 1 + 1 = n := by omega
  simpa only [e] using this
def cname (n : Nat) : ByteArray := (colour_Name.f 5 (n : Int)).getD ⟨#[]⟩
theorem some_getD {α : Type} {o : Option α} {d : α} (h : o.isSome = true) : o = some (o.getD d) := by
  cases o with
  | none => cases h
  | some x => rfl
theorem name5 (n : Nat) (h1 : 1 ≤ n) (h2 : n ≤ 64) : colour_Name.f 5 (n : Int) = some (cname n) :=
  some_getD (fin64 (p := fun n => (colour_Name.f 5 (n : Int)).isSome = true) (by decide +kernel) n h1 h2)
theorem name_in (n : Nat) (h1 : 1 ≤ n) (h2 : n ≤ 64) (k : Nat) (hk : 5 ≤ k) : colour_Name.f k (n : Int) = some (cname n) := at_rounds (colour_Name.mono _) hk (name5 n h1 h2)
theorem ref5 (n : Nat) (h1 : 1 ≤ n) (h2 : n ≤ 64) : numeraryref12_Name.f 5 (n : Int) = some (cname n) := by
  have h := fin64 (p := fun n => (numeraryref12_Name.f 5 (n : Int)).map (fun b => b.data.toList) = some (cname n).data.toList) (by decide +kernel) n h1 h2
  obtain ⟨b, e1, e2⟩ := Option.map_eq_some_iff.1 h
  rw [e1, ba_ext e2]
theorem ref_in (n : Nat) (h1 : 1 ≤ n) (h2 : n ≤ 64) (k : Nat) (hk : 5 ≤ k) : numeraryref12_Name.f k (n : Int) = some (cname n) := at_rounds (numeraryref12_Name.mono _) hk (ref5 n h1 h2)
theorem cname_asc (n : Nat) (h1 : 1 ≤ n) (h2 : n ≤ 64) : ascL (cname n).data.toList = true := fin64 (p := fun n => ascL (cname n).data.toList = true) (by decide +kernel) n h1 h2
theorem cname_size (n : Nat) (h1 : 1 ≤ n) (h2 : n ≤ 64) : (cname n).size ≤ 7 := by
  rw [size_list]
  exact fin64 (p := fun n => (cname n).data.toList.length ≤ 7) (by decide +kernel) n h1 h2
theorem name_out (n : Int) (hw : -9223372036854775808 ≤ n ∧ n ≤ 9223372036854775807) (h : n < 1 ∨ 64 < n) (k : Nat) (hk : 1 ≤ k) : colour_Name.f k n = some ⟨#[]⟩ := by
  obtain ⟨k, rfl⟩ : ∃ m, k = m + 1 := ⟨k - 1, by omega⟩
  unfold colour_Name.f colour_names.f
  show (if n ≥ 1 then colour_Name.j0 (k + 1) n _ (wrap64 (n - 8)) (decide (wrap64 (n - 8) ≤ 0)) else colour_Name.j0 (k + 1) n _ (wrap64 (n - 8)) false) = _
  rcases h with h | h
  · rw [if_neg (by omega)]
    simp only [colour_Name.j0]
    rw [if_neg (by decide)]
    by_cases h3 : wrap64 (n - 8) ≥ 1
    · rw [if_pos h3, if_neg (by unfold wrap64 at h3 ⊢; omega)]
    · rw [if_neg h3]
  · rw [if_pos (by omega)]
    have e : wrap64 (n - 8) = n - 8 := IntWalk.wrap64_in _ (by omega)
    rw [e]
    simp only [colour_Name.j0]
    rw [if_neg (by simp; omega), if_pos (by omega), if_neg (by omega)]
theorem ref_out (n : Int) (h : n < 1 ∨ 64 < n) (k : Nat) (hk : 1 ≤ k) : numeraryref12_Name.f k n = some ⟨#[]⟩ := by
  obtain ⟨k, rfl⟩ : ∃ m, k = m + 1 := ⟨k - 1, by omega⟩
  unfold numeraryref12_Name.f
  rw [if_neg (by omega), if_neg (by omega), if_neg (by omega), if_neg (by omega), if_neg (by omega), if_neg (by omega), if_neg (by omega), if_neg (by omega)]
  rcases h with h | h
  · rw [if_pos (by omega)]
    simp [numeraryref12_Name.j0]
  · rw [if_neg (by omega)]
    have e : decide (n > 64) = true := decide_eq_true h
    rw [e]
    simp [numeraryref12_Name.j0]

/-- A text's bytes as numbers, letters small. -/
def lows (s : ByteArray) : List Nat := s.data.toList.map fun c => lowN c.toNat
def hit (t : ByteArray) (n : Nat) : Bool := decide (lows (cname n) = lows t)
theorem lowN_ge (c : Nat) : c ≤ lowN c := by unfold lowN; split <;> omega
theorem lowN_lt (c : Nat) (h : c < 128) : lowN c < 128 := by unfold lowN; split <;> omega
theorem asc_of_lows {a t : ByteArray} (ha : ascL a.data.toList = true) (h : lows a = lows t) : ascL t.data.toList = true := by
  apply List.all_eq_true.2
  intro b hb
  have h1 : lowN b.toNat ∈ lows t := List.mem_map.2 ⟨b, hb, rfl⟩
  rw [← h] at h1
  obtain ⟨c, hc, e⟩ := List.mem_map.1 h1
  have h2 := List.all_eq_true.1 ha c hc
  simp only [decide_eq_true_eq] at h2 ⊢
  have := lowN_lt c.toNat h2
  have := lowN_ge b.toNat
  omega
theorem low_nats (s : ByteArray) : (strOfNums (lowL s)).data.toList.map (fun b => b.toNat) = lows s := by
  rw [strOfNums_data]
  unfold lowL bytesOf lows
  rw [List.map_map, List.map_map, List.map_map]
  apply List.map_congr_left
  intro b _
  have hb := UInt8.toNat_lt b
  simp only [Function.comp]
  have e : lowI (b.toNat : Int) = (lowN b.toNat : Int) := by
    unfold lowI lowN
    split <;> split <;> omega
  rw [e, Int.toNat_natCast]
  have h2 : lowN b.toNat < 256 := by unfold lowN; split <;> omega
  rw [UInt8.toNat_ofNat']
  exact Nat.mod_eq_of_lt h2
theorem nats_inj : ∀ (a b : List UInt8), a.map (fun x => x.toNat) = b.map (fun x => x.toNat) → a = b
  | [], [], _ => rfl
  | [], _ :: _, h => by simp at h
  | _ :: _, [], h => by simp at h
  | x :: a, y :: b, h => by
    simp only [List.map_cons, List.cons.injEq] at h
    rw [UInt8.toNat_inj.1 h.1, nats_inj a b h.2]
theorem low_eq (a t : ByteArray) : ((strOfNums (lowL a)).toList = (strOfNums (lowL t)).toList) ↔ lows a = lows t := by
  rw [PL.toList_data, PL.toList_data, ← low_nats a, ← low_nats t]
  constructor
  · intro h; rw [h]
  · intro h; exact nats_inj _ _ h
/-- The first number from i + 1 on that a text names. -/
def seek (t : ByteArray) : Nat → Nat → Int × Bool
  | 0, _ => (0, false)
  | d + 1, i => if hit t (i + 1) = true then (((i + 1 : Nat) : Int), true) else seek t d (i + 1)
theorem plain_f (t : ByteArray) : colour_plain.f t = some (ascL t.data.toList) := by
  unfold colour_plain.f
  rw [idx_plain, Bool.not_not]
theorem fold_f (a t : ByteArray) (hs : a.size < 4294967281) (ha : ascL a.data.toList = true) (ht : ascL t.data.toList = true) : strings_EqualFold.f a t = some (decide (lows a = lows t)) := by
  unfold strings_EqualFold.f
  have h1 : asciiB a = true := ha
  have h2 : asciiB t = true := ht
  rw [if_pos hs, if_pos h1, if_pos h2, equalFold_low _ _ ha ht]
  rfl
theorem wrap_nat (i : Nat) (h : i < 1000) : wrap64 ((i : Int) + 1) = ((i + 1 : Nat) : Int) := by
  rw [IntWalk.wrap64_in _ (by omega)]
  omega
theorem number_loop (t : ByteArray) : ∀ (d i : Nat), i + d = 64 → ∀ k, d + 6 ≤ k → colour_Number.l0 k t 64 (i : Int) = some (seek t d i)
  | 0, i, hi, k, hk => by
    obtain ⟨k, rfl⟩ : ∃ m, k = m + 1 := ⟨k - 1, by omega⟩
    simp only [colour_Number.l0, seek]
    rw [if_neg (by omega)]
  | d + 1, i, hi, k, hk => by
    obtain ⟨k, rfl⟩ : ∃ m, k = m + 1 := ⟨k - 1, by omega⟩
    have ih := number_loop t d (i + 1) (by omega) k (by omega)
    simp only [colour_Number.l0, seek]
    rw [if_pos (by omega), plain_f, wrap_nat i (by omega)]
    simp only [Option.bind_some]
    by_cases ha : ascL t.data.toList = true
    · rw [if_pos ha, name_in (i + 1) (by omega) (by omega) k (by omega)]
      simp only [Option.bind_some]
      rw [fold_f _ _ (Nat.lt_of_le_of_lt (cname_size (i + 1) (by omega) (by omega)) (by omega)) (cname_asc (i + 1) (by omega) (by omega)) ha]
      simp only [Option.bind_some]
      unfold hit
      by_cases hh : decide (lows (cname (i + 1)) = lows t) = true
      · rw [if_pos hh, if_pos hh]
      · rw [if_neg hh, if_neg hh, ih]
    · have hh : ¬ (hit t (i + 1) = true) := by
        intro h
        exact ha (asc_of_lows (cname_asc (i + 1) (by omega) (by omega)) (of_decide_eq_true h))
      rw [if_neg ha, if_neg hh, ih]
theorem number_f (t : ByteArray) (k : Nat) (hk : 70 ≤ k) : colour_Number.f k t = some (seek t 64 0) := by
  unfold colour_Number.f colour_names.f
  show colour_Number.l0 k t (wrap64 (8 + 56)) 0 = _
  have e : wrap64 (8 + 56) = 64 := by unfold wrap64; omega
  rw [e]
  exact number_loop t 64 0 (by omega) k (by omega)
theorem low_f (s : ByteArray) (h : s.size ≤ 9223372036854775807) : numeraryref12_low.f s = some (strOfNums (lowL s)) := by
  unfold numeraryref12_low.f
  rw [if_pos h]
theorem refnumber_loop (t : ByteArray) : ∀ (d i : Nat), i + d = 64 → ∀ k, d + 6 ≤ k → numeraryref12_Number.l0 k (strOfNums (lowL t)) ((i + 1 : Nat) : Int) = some (seek t d i)
  | 0, i, hi, k, hk => by
    obtain ⟨k, rfl⟩ : ∃ m, k = m + 1 := ⟨k - 1, by omega⟩
    simp only [numeraryref12_Number.l0, seek]
    rw [if_neg (by omega)]
  | d + 1, i, hi, k, hk => by
    obtain ⟨k, rfl⟩ : ∃ m, k = m + 1 := ⟨k - 1, by omega⟩
    have ih := refnumber_loop t d (i + 1) (by omega) k (by omega)
    simp only [numeraryref12_Number.l0, seek]
    rw [if_pos (by omega), ref_in (i + 1) (by omega) (by omega) k (by omega)]
    simp only [Option.bind_some]
    rw [low_f _ (Nat.le_trans (cname_size (i + 1) (by omega) (by omega)) (by omega)), wrap_nat (i + 1) (by omega)]
    simp only [Option.bind_some]
    unfold hit
    by_cases hh : lows (cname (i + 1)) = lows t
    · rw [if_pos ((low_eq _ _).2 hh), if_pos (decide_eq_true hh)]
    · rw [if_neg (fun h => hh ((low_eq _ _).1 h)), if_neg (by simpa using hh), ih]
theorem refnumber_f (t : ByteArray) (ht : t.size ≤ 9223372036854775807) (k : Nat) (hk : 70 ≤ k) : numeraryref12_Number.f k t = some (seek t 64 0) := by
  unfold numeraryref12_Number.f
  rw [low_f t ht]
  simp only [Option.bind_some]
  exact refnumber_loop t 64 0 (by omega) k (by omega)
end Go.Proofs.YtcdpjohbnfkmiaaDoor.PC
