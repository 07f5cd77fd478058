/-
  Plain lemmas on texts: first instances of a byte, cuts, what holds of no program.
-/
import Derived.Lib.IndexMore
import Derived.Lib.IndexBytes
import Derived.Lib.IndexAny
import Derived.Lib.Strings
import Derived.Lib.Fold
import Derived.Lib.MapU
import Derived.Lib.SpaceU
import Derived.Lib.Case
import Derived.Laws.RangeString
import Derived.Laws.RangeAny
import Derived.Shelf.GgClosure.StringsIndexFunc
namespace Go.Proofs.YtcdpjohbnfkmiaaDoor.PL
open Go.Lib

theorem ba_ext {a b : ByteArray} (h : a.data.toList = b.data.toList) : a = b := by
  cases a; cases b
  simp only [ByteArray.mk.injEq]
  exact Array.ext' h
theorem ba_mk (s : ByteArray) : (⟨s.data.toList.toArray⟩ : ByteArray) = s := ba_ext (by simp)
theorem mk_list (l : List UInt8) : (⟨l.toArray⟩ : ByteArray).data.toList = l := by simp
theorem app_data (a b : ByteArray) : (a ++ b).data.toList = a.data.toList ++ b.data.toList := by simp
theorem size_list (s : ByteArray) : s.size = s.data.toList.length := Lib.size_eq s
theorem toList_data (s : ByteArray) : s.toList = s.data.toList := Lib.toList_data s
theorem extract_list (s : ByteArray) (a b : Nat) : (s.extract a b).data.toList = (s.data.toList.take b).drop a := by
  simp [ByteArray.data_extract, List.drop_take]

theorem index_notin (c : UInt8) : ∀ l : List UInt8, c ∉ l → index l [c] = -1
  | [], _ => rfl
  | b :: l, h => by
    have h1 : ¬ c = b := fun e => h (by simp [e])
    have h2 : c ∉ l := fun e => h (by simp [e])
    simp [index, List.isPrefixOf, h1, index_notin c l h2]
theorem index_at (c : UInt8) : ∀ a b : List UInt8, c ∉ a → index (a ++ c :: b) [c] = a.length
  | [], b, _ => by simp [index, List.isPrefixOf]
  | x :: a, b, h => by
    have h1 : ¬ c = x := fun e => h (by simp [e])
    have h2 : c ∉ a := fun e => h (by simp [e])
    have ih := index_at c a b h2
    simp only [List.cons_append, index, ih]
    have h3 : ([c].isPrefixOf (x :: (a ++ c :: b))) = false := by simp [List.isPrefixOf, h1]
    rw [h3]
    have h4 : ((a.length : Int) == -1) = false := by
      rw [beq_eq_false_iff_ne]; omega
    simp [h4]
theorem split_first (c : UInt8) : ∀ l : List UInt8, c ∈ l → ∃ a b, l = a ++ c :: b ∧ c ∉ a
  | x :: l, h => by
    by_cases e : c = x
    · exact ⟨[], l, by simp [e], by simp⟩
    · obtain ⟨a, b, h1, h2⟩ := split_first c l (by simpa [e] using h)
      exact ⟨x :: a, b, by simp [h1], by simp [e, h2]⟩
theorem contains_iff (c : UInt8) (l : List UInt8) : Lib.contains l [c] = decide (c ∈ l) := by
  unfold Lib.contains
  by_cases h : c ∈ l
  · obtain ⟨a, b, rfl, ha⟩ := split_first c l h
    rw [index_at c a b ha, decide_eq_true h]
    exact decide_eq_true (by omega)
  · rw [index_notin c l h, decide_eq_false h]
    rfl
theorem cut_notin (c : UInt8) (l : List UInt8) (h : c ∉ l) : Lib.cut l [c] = (l, [], false) := by
  unfold Lib.cut
  rw [index_notin c l h]
  rfl
theorem cut_at (c : UInt8) (a b : List UInt8) (h : c ∉ a) : Lib.cut (a ++ c :: b) [c] = (a, b, true) := by
  unfold Lib.cut
  rw [index_at c a b h, if_pos (by omega)]
  have e : ((a.length : Int)).toNat = a.length := by omega
  simp [e]
theorem containsAny_none (chars : List UInt8) : ∀ l : List UInt8, (∀ b ∈ l, b ∉ chars) → Lib.containsAny l chars = false
  | [], _ => rfl
  | b :: l, h => by
    have h1 : chars.contains b = false := by
      have := h b (by simp)
      simpa using this
    have ih := containsAny_none chars l (fun x hx => h x (by simp [hx]))
    unfold Lib.containsAny at ih ⊢
    simp only [indexAny, h1]
    have h2 : indexAny l chars = -1 := by
      have := indexAny_ge chars l
      have h3 : ¬ 0 ≤ indexAny l chars := by simpa using ih
      omega
    rw [h2]
    rfl
/-- Has a text no byte above 7F? -/
def ascL (l : List UInt8) : Bool := l.all fun b => decide (b.toNat < 128)
theorem get_list (s : ByteArray) (i : Nat) (h : i < s.size) : s[i]'h = s.data.toList[i]'(by rw [← size_list]; exact h) := by
  cases s with
  | mk d => simp [ByteArray.getElem_eq_getElem_data]
theorem drop_ascii (s : ByteArray) (i : Nat) (h : i < s.size) : ascL (s.data.toList.drop i) = (decide ((s[i]'h).toNat < 128) && ascL (s.data.toList.drop (i + 1))) := by
  have h2 : i < s.data.toList.length := by rw [← size_list]; exact h
  rw [List.drop_eq_getElem_cons h2, get_list s i h]
  rfl
theorem idxFrom_plain (s : ByteArray) : ∀ (f pos : Nat), s.size ≤ pos + f → decide (0 ≤ Lib.idxFuncFrom (fun x => decide (128 ≤ x)) true s f pos) = !ascL (s.data.toList.drop pos)
  | 0, pos, h => by
    have : s.data.toList.drop pos = [] := List.drop_of_length_le (by rw [← size_list]; omega)
    rw [this]
    rfl
  | f + 1, pos, h => by
    unfold Lib.idxFuncFrom
    by_cases hp : pos < s.size
    · rw [if_pos hp, drop_ascii s pos hp]
      by_cases ha : (s[pos]'hp).toNat < 128
      · have hd := decode_ascii s pos hp ha
        rw [hd]
        have h1 : ¬ (decide (128 ≤ (s[pos]'hp).toNat) = true) := by
          simp only [decide_eq_true_eq]
          omega
        simp only [h1]
        rw [if_neg (by decide), idxFrom_plain s f (pos + 1) (by omega), decide_eq_true ha]
        rfl
      · have hd := (decode_high s pos hp (by omega)).1
        have h1 : decide (128 ≤ (Utf8.decode s pos).1) = true := decide_eq_true hd
        simp only [h1, if_true]
        rw [decide_eq_false ha]
        simp
    · rw [if_neg hp]
      have : s.data.toList.drop pos = [] := List.drop_of_length_le (by rw [← size_list]; omega)
      rw [this]
      rfl
theorem idx_plain (s : ByteArray) : decide (0 ≤ Lib.idxFunc (fun x => decide (128 ≤ x)) true s) = !ascL s.data.toList := by
  have := idxFrom_plain s s.size 0 (by omega)
  rw [List.drop_zero] at this
  exact this
theorem fin128 {p : Nat → Nat → Prop} (h : ∀ m n : Fin 128, p m.val n.val) (a b : Nat) (ha : a < 128) (hb : b < 128) : p a b := h ⟨a, ha⟩ ⟨b, hb⟩
/-- A byte's letter, small. -/
def lowN (c : Nat) : Nat := if 65 ≤ c ∧ c ≤ 90 then c + 32 else c
theorem foldEq_low (x y : UInt8) (hx : x.toNat < 128) (hy : y.toNat < 128) : Lib.foldEq x y = decide (lowN x.toNat = lowN y.toNat) := by
  unfold Lib.foldEq lowN
  congr 1
  apply propext
  constructor
  · intro h
    split <;> split <;> omega
  · intro h
    split at h <;> split at h <;> omega
theorem equalFold_low : ∀ (a b : List UInt8), ascL a = true → ascL b = true → Lib.equalFold a b = decide (a.map (fun c => lowN c.toNat) = b.map (fun c => lowN c.toNat))
  | [], [], _, _ => rfl
  | [], y :: b, _, _ => by simp [Lib.equalFold]
  | x :: a, [], _, _ => by simp [Lib.equalFold]
  | x :: a, y :: b, ha, hb => by
    simp only [ascL, List.all_cons, Bool.and_eq_true, decide_eq_true_eq] at ha hb
    have ih := equalFold_low a b (by simpa [ascL] using ha.2) (by simpa [ascL] using hb.2)
    simp only [Lib.equalFold, foldEq_low x y ha.1 hb.1, ih, List.map_cons, List.cons.injEq]
    by_cases h1 : lowN x.toNat = lowN y.toNat <;> simp [h1]
end Go.Proofs.YtcdpjohbnfkmiaaDoor.PL
