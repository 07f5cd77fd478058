/-
  The pure statement of ColourNames: the colour of every text, and the name of every number, are the document's, or there is none.
-/
import Derived.Test.YtcdpjohbnfkmiaaDoorPC12
import Derived.Test.YtcdpjohbnfkmiaaDoorPx9
namespace Go.Proofs.YtcdpjohbnfkmiaaDoor.Pure
open Go.RowKit Go.Lib Go.Proofs.YtcdpjohbnfkmiaaDoor.P Go.Proofs.YtcdpjohbnfkmiaaDoor.G Go.Proofs.YtcdpjohbnfkmiaaDoor.PL Go.Proofs.YtcdpjohbnfkmiaaDoor.PC Go.Proofs.YtcdpjohbnfkmiaaDoorW.PrintWords Go.Proofs.YtcdpjohbnfkmiaaDoorW.PrintLast
set_option linter.unusedVariables false

def up (s : ByteArray) : ByteArray := ⟨(Lib.toUpperD s.data.toList).toArray⟩
theorem up_f (s : ByteArray) (h : s.size ≤ 100) : strings_ToUpper.f s = some (up s) := by
  unfold strings_ToUpper.f
  rw [if_pos (by omega)]
  rfl
theorem seek_up (n : Nat) (h1 : 1 ≤ n) (h2 : n ≤ 64) : seek (up (cname n)) 64 0 = ((n : Int), true) :=
  fin64 (p := fun n => seek (up (cname n)) 64 0 = ((n : Int), true)) (by decide +kernel) n h1 h2
theorem name_step (v : Int) (hv : -9223372036854775808 ≤ v ∧ v ≤ 9223372036854775807) (k : Nat) (hk : 70 ≤ k) :
    ∃ s, colour_Name.f k v = some s ∧ numeraryref12_Name.f k v = some s ∧ strings_ToUpper.f s = some (up s) ∧ colour_Number.f k (up s) = some (seek (up s) 64 0) ∧ (s.toList = [] ∨ (¬ s.toList = [] ∧ seek (up s) 64 0 = (v, true))) := by
  by_cases h : 1 ≤ v ∧ v ≤ 64
  · obtain ⟨n, rfl⟩ := Int.eq_ofNat_of_zero_le (show 0 ≤ v by omega)
    have hs := cname_size n (by omega) (by omega)
    refine ⟨cname n, name_in n (by omega) (by omega) k (by omega), ref_in n (by omega) (by omega) k (by omega), up_f _ (by omega), number_f _ k hk, ?_⟩
    by_cases he : (cname n).toList = []
    · exact .inl he
    · exact .inr ⟨he, seek_up n (by omega) (by omega)⟩
  · refine ⟨⟨#[]⟩, name_out v hv (by omega) k (by omega), ref_out v (by omega) k (by omega), up_f _ (by decide), number_f _ k hk, .inl ?_⟩
    rw [PL.toList_data]
theorem names_step (k : Nat) (l : List Int) (n i : Int) (h0 : 0 ≤ i) (h1 : i < n) (hn : n = (l.length : Int)) (hk : 70 ≤ k) (hv : -9223372036854775808 ≤ rd l i ∧ rd l i ≤ 9223372036854775807) :
    numerarylaw12_ColourNames.l0 (k + 1) l n i = numerarylaw12_ColourNames.l0 k l n (wrap64 (i + 1)) := by
  obtain ⟨s, e1, e2, e3, e4, e5⟩ := name_step (rd l i) hv k hk
  simp only [numerarylaw12_ColourNames.l0]
  rw [if_pos h1, if_pos h0, if_pos (by omega), e1]
  simp only [Option.bind_some]
  rw [e2]
  simp only [Option.bind_some, if_true]
  rw [e3]
  simp only [Option.bind_some]
  rw [e4]
  simp only [Option.bind_some]
  rcases e5 with e5 | ⟨e5, e6⟩
  · rw [if_pos e5]
  · rw [if_neg e5, e6]
    simp
theorem mx_ge (a b : Int) : a ≤ mx a b ∧ b ≤ mx a b := by unfold mx; split <;> omega
theorem mn_le (a b : Int) : mn a b ≤ a ∧ mn a b ≤ b := by unfold mn; split <;> omega
theorem mn_ge (a b : Int) (c : Int) (h1 : c ≤ a) (h2 : c ≤ b) : c ≤ mn a b := by unfold mn; split <;> omega

theorem ColourNames : numerarylaw12_ColourNames.Pure := by
  intro a0 a1 hs hwf
  have hr : -9223372036854775808 ≤ a1 ∧ a1 ≤ 9223372036854775807 := by
    have e1 : IntKind.i64.min = -9223372036854775808 := rfl
    have e2 : IntKind.i64.max = 9223372036854775807 := rfl
    simp [Lit.wf, e1, e2] at hwf
    omega
  refine ⟨104, ?_⟩
  have h1 := mn_ge (a0.size : Int) 20 0 (by omega) (by omega)
  have h2 := mn_le (a0.size : Int) 20
  unfold numerarylaw12_ColourNames.f
  rw [if_pos h1, if_pos h2.1]
  obtain ⟨t, ht⟩ : ∃ t, a0.extract 0 ((mn (a0.size : Int) 20) : Int).toNat = t := ⟨_, rfl⟩
  have hts : t.size ≤ 100 := by
    rw [← ht]
    simp
    omega
  rw [ht, number_f t 104 (by omega)]
  simp only [Option.bind_some]
  rw [refnumber_f t (by omega) 104 (by omega)]
  simp only [Option.bind_some, if_true, bne_self_eq_false]
  simp only [numerarylaw12_ColourNames.j0]
  rw [if_neg (by decide)]
  have hm := mx_ge 0 a1
  show numerarylaw12_ColourNames.l0 (102 + 1) [a1, mx 0 a1 % 70] 2 0 = some true
  rw [names_step 102 [a1, mx 0 a1 % 70] 2 0 (by omega) (by omega) rfl (by omega) (by simpa [rd] using hr)]
  have w1 : wrap64 (0 + 1) = 1 := by unfold wrap64; omega
  rw [w1]
  show numerarylaw12_ColourNames.l0 (101 + 1) [a1, mx 0 a1 % 70] 2 1 = some true
  rw [names_step 101 [a1, mx 0 a1 % 70] 2 1 (by omega) (by omega) rfl (by omega) (by simp [rd]; omega)]
  have w2 : wrap64 (1 + 1) = 2 := by unfold wrap64; omega
  rw [w2]
  have hend : ∀ k, numerarylaw12_ColourNames.l0 (k + 1) [a1, mx 0 a1 % 70] 2 2 = (numerarylaw12_wakes.f k).bind fun t => some t := fun k => by
    simp only [numerarylaw12_ColourNames.l0]
    rw [if_neg (by omega)]
  show numerarylaw12_ColourNames.l0 (100 + 1) [a1, mx 0 a1 % 70] 2 2 = some true
  rw [hend, wakes12]
  rfl
end Go.Proofs.YtcdpjohbnfkmiaaDoor.Pure
