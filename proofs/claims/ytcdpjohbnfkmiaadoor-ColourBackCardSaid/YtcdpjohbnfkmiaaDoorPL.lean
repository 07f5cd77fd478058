/-
  Plain lemmas on texts: first instances of a byte, cuts, what holds of no program.
-/
import Derived.Lib.IndexMore
import Derived.Lib.IndexBytes
import Derived.Lib.IndexAny
import Derived.Lib.Strings
import Derived.Lib.Fold
import Derived.Lib.MapU
import Derived.Lib.SpaceU
namespace Go.Proofs.YtcdpjohbnfkmiaaDoor.PL
open Go.Lib

theorem ba_ext {a b : ByteArray} (h : a.data.toList = b.data.toList) : a = b := by
  cases a; cases b
  simp only [ByteArray.mk.injEq]
  exact Array.ext' h
theorem ba_mk (s : ByteArray) : (⟨s.data.toList.toArray⟩ : ByteArray) = s := ba_ext (by simp)
theorem mk_list (l : List UInt8) : (⟨l.toArray⟩ : ByteArray).data.toList = l := by simp
theorem app_data (a b : ByteArray) : (a ++ b).data.toList = a.data.toList ++ b.data.toList := by simp
theorem size_list (s : ByteArray) : s.size = s.data.toList.length := Lib.size_eq s
theorem toList_data (s : ByteArray) : s.toList = s.data.toList := Lib.toList_data s
theorem extract_list (s : ByteArray) (a b : Nat) : (s.extract a b).data.toList = (s.data.toList.take b).drop a := by
  simp [ByteArray.data_extract, List.drop_take]

theorem index_notin (c : UInt8) : ∀ l : List UInt8, c ∉ l → index l [c] = -1
  | [], _ => rfl
  | b :: l, h => by
    have h1 : ¬ c = b := fun e => h (by simp [e])
    have h2 : c ∉ l := fun e => h (by simp [e])
    simp [index, List.isPrefixOf, h1, index_notin c l h2]
theorem index_at (c : UInt8) : ∀ a b : List UInt8, c ∉ a → index (a ++ c :: b) [c] = a.length
  | [], b, _ => by simp [index, List.isPrefixOf]
  | x :: a, b, h => by
    have h1 : ¬ c = x := fun e => h (by simp [e])
    have h2 : c ∉ a := fun e => h (by simp [e])
    have ih := index_at c a b h2
    simp only [List.cons_append, index, ih]
    have h3 : ([c].isPrefixOf (x :: (a ++ c :: b))) = false := by simp [List.isPrefixOf, h1]
    rw [h3]
    have h4 : ((a.length : Int) == -1) = false := by
      rw [beq_eq_false_iff_ne]; omega
    simp [h4]
theorem split_first (c : UInt8) : ∀ l : List UInt8, c ∈ l → ∃ a b, l = a ++ c :: b ∧ c ∉ a
  | x :: l, h => by
    by_cases e : c = x
    · exact ⟨[], l, by simp [e], by simp⟩
    · obtain ⟨a, b, h1, h2⟩ := split_first c l (by simpa [e] using h)
      exact ⟨x :: a, b, by simp [h1], by simp [e, h2]⟩
theorem contains_iff (c : UInt8) (l : List UInt8) : Lib.contains l [c] = decide (c ∈ l) := by
  unfold Lib.contains
  by_cases h : c ∈ l
  · obtain ⟨a, b, rfl, ha⟩ := split_first c l h
    rw [index_at c a b ha, decide_eq_true h]
    exact decide_eq_true (by omega)
  · rw [index_notin c l h, decide_eq_false h]
    rfl
theorem cut_notin (c : UInt8) (l : List UInt8) (h : c ∉ l) : Lib.cut l [c] = (l, [], false) := by
  unfold Lib.cut
  rw [index_notin c l h]
  rfl
theorem cut_at (c : UInt8) (a b : List UInt8) (h : c ∉ a) : Lib.cut (a ++ c :: b) [c] = (a, b, true) := by
  unfold Lib.cut
  rw [index_at c a b h, if_pos (by omega)]
  have e : ((a.length : Int)).toNat = a.length := by omega
  simp [e]
theorem containsAny_none (chars : List UInt8) : ∀ l : List UInt8, (∀ b ∈ l, b ∉ chars) → Lib.containsAny l chars = false
  | [], _ => rfl
  | b :: l, h => by
    have h1 : chars.contains b = false := by
      have := h b (by simp)
      simpa using this
    have ih := containsAny_none chars l (fun x hx => h x (by simp [hx]))
    unfold Lib.containsAny at ih ⊢
    simp only [indexAny, h1]
    have h2 : indexAny l chars = -1 := by
      have := indexAny_ge chars l
      have h3 : ¬ 0 ≤ indexAny l chars := by simpa using ih
      omega
    rw [h2]
    rfl
end Go.Proofs.YtcdpjohbnfkmiaaDoor.PL
