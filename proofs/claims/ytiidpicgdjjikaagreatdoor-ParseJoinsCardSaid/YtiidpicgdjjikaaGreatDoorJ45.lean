import Derived.Lib.IndexMore
import Derived.Lib.IndexBytes
import Derived.Lib.IndexAny
import Derived.Lib.Strings
import Derived.Lib.Fold
import Derived.Lib.MapU
import Derived.Lib.SpaceU
import Derived.Lib.Case
import Derived.Laws.RangeString
import Derived.Laws.RangeAny
import Derived.Shelf.GgClosure.StringsIndexFunc
import Derived.Shelf.Strings.CaseAny
import Derived.Test.YtiidpicgdjjikaaGreatDoorJ6
import Derived.Test.YtiidpicgdjjikaaGreatDoorJ7
import Derived.Test.YtiidpicgdjjikaaGreatDoorJ19
import Derived.Test.YtiidpicgdjjikaaGreatDoorJ44
namespace Go.Proofs.YtiidpicgdjjikaaGreatDoor.PL
open Go.Lib

theorem ba_ext {a b : ByteArray} (h : a.data.toList = b.data.toList) : a = b := by
  cases a; cases b
  simp only [ByteArray.mk.injEq]
  exact Array.ext' h
theorem mk_list (l : List UInt8) : (⟨l.toArray⟩ : ByteArray).data.toList = l := by simp
theorem app_data (a b : ByteArray) : (a ++ b).data.toList = a.data.toList ++ b.data.toList := by simp
theorem size_list (s : ByteArray) : s.size = s.data.toList.length := Lib.size_eq s
theorem toList_data (s : ByteArray) : s.toList = s.data.toList := Lib.toList_data s
theorem extract_list (s : ByteArray) (a b : Nat) : (s.extract a b).data.toList = (s.data.toList.take b).drop a := by
  simp [ByteArray.data_extract, List.drop_take]

theorem index_notin (c : UInt8) : ∀ l : List UInt8, c ∉ l → index l [c] = -1
  | [], _ => rfl
  | b :: l, h => by
    have h1 : ¬ c = b := fun e => h (by simp [e])
    have h2 : c ∉ l := fun e => h (by simp [e])
    simp [index, List.isPrefixOf, h1, index_notin c l h2]
theorem index_at (c : UInt8) : ∀ a b : List UInt8, c ∉ a → index (a ++ c :: b) [c] = a.length
  | [], b, _ => by simp [index, List.isPrefixOf]
  | x :: a, b, h => by
    have h1 : ¬ c = x := fun e => h (by simp [e])
    have h2 : c ∉ a := fun e => h (by simp [e])
    have ih := index_at c a b h2
    simp only [List.cons_append, index, ih]
    have h3 : ([c].isPrefixOf (x :: (a ++ c :: b))) = false := by simp [List.isPrefixOf, h1]
    rw [h3]
    have h4 : ((a.length : Int) == -1) = false := by
      rw [beq_eq_false_iff_ne]; omega
    simp [h4]
theorem split_first (c : UInt8) : ∀ l : List UInt8, c ∈ l → ∃ a b, l = a ++ c :: b ∧ c ∉ a
  | x :: l, h => by
    by_cases e : c = x
    · exact ⟨[], l, by simp [e], by simp⟩
    · obtain ⟨a, b, h1, h2⟩ := split_first c l (by simpa [e] using h)
      exact ⟨x :: a, b, by simp [h1], by simp [e, h2]⟩
theorem contains_iff (c : UInt8) (l : List UInt8) : Lib.contains l [c] = decide (c ∈ l) := by
  unfold Lib.contains
  by_cases h : c ∈ l
  · obtain ⟨a, b, rfl, ha⟩ := split_first c l h
    rw [index_at c a b ha, decide_eq_true h]
    exact decide_eq_true (by omega)
  · rw [index_notin c l h, decide_eq_false h]
    rfl
theorem containsAny_none (chars : List UInt8) : ∀ l : List UInt8, (∀ b ∈ l, b ∉ chars) → Lib.containsAny l chars = false
  | [], _ => rfl
  | b :: l, h => by
    have h1 : chars.contains b = false := by
      have := h b (by simp)
      simpa using this
    have ih := containsAny_none chars l (fun x hx => h x (by simp [hx]))
    unfold Lib.containsAny at ih ⊢
    simp only [indexAny, h1]
    have h2 : indexAny l chars = -1 := by
      have := indexAny_ge chars l
      have h3 : ¬ 0 ≤ indexAny l chars := by simpa using ih
      omega
    rw [h2]
    rfl
def ascL (l : List UInt8) : Bool := l.all fun b => decide (b.toNat < 128)
theorem get_list (s : ByteArray) (i : Nat) (h : i < s.size) : s[i]'h = s.data.toList[i]'(by rw [← size_list]; exact h) := by
  cases s with
  | mk d => simp [ByteArray.getElem_eq_getElem_data]
theorem drop_ascii (s : ByteArray) (i : Nat) (h : i < s.size) : ascL (s.data.toList.drop i) = (decide ((s[i]'h).toNat < 128) && ascL (s.data.toList.drop (i + 1))) := by
  have h2 : i < s.data.toList.length := by rw [← size_list]; exact h
  rw [List.drop_eq_getElem_cons h2, get_list s i h]
  rfl
theorem idxFrom_plain (s : ByteArray) : ∀ (f pos : Nat), s.size ≤ pos + f → decide (0 ≤ Lib.idxFuncFrom (fun x => decide (128 ≤ x)) true s f pos) = !ascL (s.data.toList.drop pos)
  | 0, pos, h => by
    have : s.data.toList.drop pos = [] := List.drop_of_length_le (by rw [← size_list]; omega)
    rw [this]
    rfl
  | f + 1, pos, h => by
    unfold Lib.idxFuncFrom
    by_cases hp : pos < s.size
    · rw [if_pos hp, drop_ascii s pos hp]
      by_cases ha : (s[pos]'hp).toNat < 128
      · have hd := decode_ascii s pos hp ha
        rw [hd]
        have h1 : ¬ (decide (128 ≤ (s[pos]'hp).toNat) = true) := by
          simp only [decide_eq_true_eq]
          omega
        simp only [h1]
        rw [if_neg (by decide), idxFrom_plain s f (pos + 1) (by omega), decide_eq_true ha]
        rfl
      · have hd := (decode_high s pos hp (by omega)).1
        have h1 : decide (128 ≤ (Utf8.decode s pos).1) = true := decide_eq_true hd
        simp only [h1, if_true]
        rw [decide_eq_false ha]
        simp
    · rw [if_neg hp]
      have : s.data.toList.drop pos = [] := List.drop_of_length_le (by rw [← size_list]; omega)
      rw [this]
      rfl
theorem idx_plain (s : ByteArray) : decide (0 ≤ Lib.idxFunc (fun x => decide (128 ≤ x)) true s) = !ascL s.data.toList := by
  have := idxFrom_plain s s.size 0 (by omega)
  rw [List.drop_zero] at this
  exact this
def lowN (c : Nat) : Nat := if 65 ≤ c ∧ c ≤ 90 then c + 32 else c
theorem foldEq_low (x y : UInt8) (hx : x.toNat < 128) (hy : y.toNat < 128) : Lib.foldEq x y = decide (lowN x.toNat = lowN y.toNat) := by
  unfold Lib.foldEq lowN
  congr 1
  apply propext
  constructor
  · intro h
    split <;> split <;> omega
  · intro h
    split at h <;> split at h <;> omega
theorem equalFold_low : ∀ (a b : List UInt8), ascL a = true → ascL b = true → Lib.equalFold a b = decide (a.map (fun c => lowN c.toNat) = b.map (fun c => lowN c.toNat))
  | [], [], _, _ => rfl
  | [], y :: b, _, _ => by simp [Lib.equalFold]
  | x :: a, [], _, _ => by simp [Lib.equalFold]
  | x :: a, y :: b, ha, hb => by
    simp only [ascL, List.all_cons, Bool.and_eq_true, decide_eq_true_eq] at ha hb
    have ih := equalFold_low a b (by simpa [ascL] using ha.2) (by simpa [ascL] using hb.2)
    simp only [Lib.equalFold, foldEq_low x y ha.1 hb.1, ih, List.map_cons, List.cons.injEq]
    by_cases h1 : lowN x.toNat = lowN y.toNat <;> simp [h1]
end Go.Proofs.YtiidpicgdjjikaaGreatDoor.PL
namespace Go.Proofs.YtiidpicgdjjikaaGreatDoor.PC
open Go.RowKit Go.Lib Go.Proofs.YtiidpicgdjjikaaGreatDoor.P Go.Proofs.YtiidpicgdjjikaaGreatDoor.G Go.Proofs.YtiidpicgdjjikaaGreatDoor.PL Go.Proofs.YtiidpicgdjjikaaGreatDoorW.PrintWords Go.Proofs.YtiidpicgdjjikaaGreatDoorW.PrintLast
set_option linter.unusedVariables false
set_option linter.unusedSimpArgs false

theorem fin64 {p : Nat → Prop} (h : ∀ m : Fin 64, p (m.val + 1)) (n : Nat) (h1 : 1 ≤ n) (h2 : n ≤ 64) : p n := by
  have := h ⟨n - 1, by omega⟩
  have e : n - 1 + 1 = n := by omega
  simpa only [e] using this
def cname (n : Nat) : ByteArray := (colour_Name.f 5 (n : Int)).getD ⟨#[]⟩
theorem some_getD {α : Type} {o : Option α} {d : α} (h : o.isSome = true) : o = some (o.getD d) := by
  cases o with
  | none => cases h
  | some x => rfl
theorem name5 (n : Nat) (h1 : 1 ≤ n) (h2 : n ≤ 64) : colour_Name.f 5 (n : Int) = some (cname n) :=
  some_getD (fin64 (p := fun n => (colour_Name.f 5 (n : Int)).isSome = true) (by decide +kernel) n h1 h2)
theorem name_in (n : Nat) (h1 : 1 ≤ n) (h2 : n ≤ 64) (k : Nat) (hk : 5 ≤ k) : colour_Name.f k (n : Int) = some (cname n) := at_rounds (colour_Name.mono _) hk (name5 n h1 h2)
theorem cname_asc (n : Nat) (h1 : 1 ≤ n) (h2 : n ≤ 64) : ascL (cname n).data.toList = true := fin64 (p := fun n => ascL (cname n).data.toList = true) (by decide +kernel) n h1 h2
theorem cname_size (n : Nat) (h1 : 1 ≤ n) (h2 : n ≤ 64) : (cname n).size ≤ 7 := by
  rw [size_list]
  exact fin64 (p := fun n => (cname n).data.toList.length ≤ 7) (by decide +kernel) n h1 h2
def lows (s : ByteArray) : List Nat := s.data.toList.map fun c => lowN c.toNat
def hit (t : ByteArray) (n : Nat) : Bool := decide (lows (cname n) = lows t)
theorem lowN_ge (c : Nat) : c ≤ lowN c := by unfold lowN; split <;> omega
theorem lowN_lt (c : Nat) (h : c < 128) : lowN c < 128 := by unfold lowN; split <;> omega
theorem asc_of_lows {a t : ByteArray} (ha : ascL a.data.toList = true) (h : lows a = lows t) : ascL t.data.toList = true := by
  apply List.all_eq_true.2
  intro b hb
  have h1 : lowN b.toNat ∈ lows t := List.mem_map.2 ⟨b, hb, rfl⟩
  rw [← h] at h1
  obtain ⟨c, hc, e⟩ := List.mem_map.1 h1
  have h2 := List.all_eq_true.1 ha c hc
  simp only [decide_eq_true_eq] at h2 ⊢
  have := lowN_lt c.toNat h2
  have := lowN_ge b.toNat
  omega
def seek (t : ByteArray) : Nat → Nat → Int × Bool
  | 0, _ => (0, false)
  | d + 1, i => if hit t (i + 1) = true then (((i + 1 : Nat) : Int), true) else seek t d (i + 1)
theorem plain_f (t : ByteArray) : colour_plain.f t = some (ascL t.data.toList) := by
  unfold colour_plain.f
  rw [idx_plain, Bool.not_not]
theorem fold_f (a t : ByteArray) (hs : a.size < 4294967281) (ha : ascL a.data.toList = true) (ht : ascL t.data.toList = true) : strings_EqualFold.f a t = some (decide (lows a = lows t)) := by
  unfold strings_EqualFold.f
  have h1 : asciiB a = true := ha
  have h2 : asciiB t = true := ht
  rw [if_pos hs, if_pos h1, if_pos h2, equalFold_low _ _ ha ht]
  rfl
theorem wrap_nat (i : Nat) (h : i < 1000) : wrap64 ((i : Int) + 1) = ((i + 1 : Nat) : Int) := by
  rw [IntWalk.wrap64_in _ (by omega)]
  omega
theorem number_loop (t : ByteArray) : ∀ (d i : Nat), i + d = 64 → ∀ k, d + 6 ≤ k → colour_Number.l0 k t 64 (i : Int) = some (seek t d i)
  | 0, i, hi, k, hk => by
    obtain ⟨k, rfl⟩ : ∃ m, k = m + 1 := ⟨k - 1, by omega⟩
    simp only [colour_Number.l0, seek]
    rw [if_neg (by omega)]
  | d + 1, i, hi, k, hk => by
    obtain ⟨k, rfl⟩ : ∃ m, k = m + 1 := ⟨k - 1, by omega⟩
    have ih := number_loop t d (i + 1) (by omega) k (by omega)
    simp only [colour_Number.l0, seek]
    rw [if_pos (by omega), plain_f, wrap_nat i (by omega)]
    simp only [Option.bind_some]
    by_cases ha : ascL t.data.toList = true
    · rw [if_pos ha, name_in (i + 1) (by omega) (by omega) k (by omega)]
      simp only [Option.bind_some]
      rw [fold_f _ _ (Nat.lt_of_le_of_lt (cname_size (i + 1) (by omega) (by omega)) (by omega)) (cname_asc (i + 1) (by omega) (by omega)) ha]
      simp only [Option.bind_some]
      unfold hit
      by_cases hh : decide (lows (cname (i + 1)) = lows t) = true
      · rw [if_pos hh, if_pos hh]
      · rw [if_neg hh, if_neg hh, ih]
    · have hh : ¬ (hit t (i + 1) = true) := by
        intro h
        exact ha (asc_of_lows (cname_asc (i + 1) (by omega) (by omega)) (of_decide_eq_true h))
      rw [if_neg ha, if_neg hh, ih]
theorem number_f (t : ByteArray) (k : Nat) (hk : 70 ≤ k) : colour_Number.f k t = some (seek t 64 0) := by
  unfold colour_Number.f colour_names.f
  show colour_Number.l0 k t (wrap64 (8 + 56)) 0 = _
  have e : wrap64 (8 + 56) = 64 := by unfold wrap64; omega
  rw [e]
  exact number_loop t 64 0 (by omega) k (by omega)
end Go.Proofs.YtiidpicgdjjikaaGreatDoor.PC
