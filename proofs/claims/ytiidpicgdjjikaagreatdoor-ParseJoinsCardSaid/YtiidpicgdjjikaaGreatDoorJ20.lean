import Derived.Test.YtiidpicgdjjikaaGreatDoorProg
import Derived.WalkKit
import Derived.IntWalk
import Derived.Lib.LazyBuf
import Derived.Test.YtiidpicgdjjikaaGreatDoorJ2
namespace Go.Proofs.YtiidpicgdjjikaaGreatDoor.G
open Go.RowKit Go.Lib Go.Proofs Go.Proofs.YtiidpicgdjjikaaGreatDoorW.PrintWords Go.Proofs.YtiidpicgdjjikaaGreatDoorW.PrintLast Go.Proofs.YtiidpicgdjjikaaGreatDoorW.PrintMore
set_option linter.unusedVariables false
set_option linter.unusedSimpArgs false
attribute [local go_sem] run_eql_slice_nil
def slices_CloneU32.f (l : List Int) : Option (List Int) := if (l.length : Int) ≤ 35184372088832 then some l else none
set_option maxHeartbeats 4000000 in
set_option maxRecDepth 1000000 in
theorem slices_CloneU32.calls (A0 : Option Addr) (c0 : Nat) (l0 : List Int) (r : List Int) (w : World) (hr0 : Kd.C (Kd.int .u32) w A0 l0.length l0) (hc0 : l0.length ≤ c0) (h : slices_CloneU32.f l0 = some r) :
    Calls Tryz.prog 199 #[.slice A0 l0.length c0] w fun e w' => ∃ v0_ : Value, e = .returned (v0_) ∧ Kd.R (Kd.int .u32) 96 w' w.heap.size (fun _ => True) v0_ r ∧ Below w.heap.size w w' := by
  unfold slices_CloneU32.f at h
  by_cases hl : (l0.length : Int) ≤ 35184372088832
  · rw [if_pos hl] at h
    obtain rfl := Option.some.inj h
    clear h
    rcases A0 with _ | ad
    · have h0 : l0 = [] := by
        rcases Nat.eq_zero_or_pos l0.length with h0 | h0
        · exact List.eq_nil_of_length_eq_zero h0
        · obtain ⟨ad, h, _⟩ := hr0.2.2 h0
          cases h
      subst h0
      go_enter Tryz.func199, Tryz.ntmps199
      go_wp2
      go_ret
      exact ⟨_, rfl, Kd.R_nil _ _ _ _ _, Below.refl _ _⟩
    · have HO : (Kd.int .u32).R 96 (w.alloc (.cells #[] 96)) w.heap.size (fun _ => True) (.slice (some ⟨w.heap.size, 0, none⟩) 0 0) ([] : List Int) :=
        Kd.R_of_own (World.ownsRow_made w #[] 0 (Nat.le_refl _) (Nat.zero_le _) rfl) (fun _ _ => trivial)
      have hu := Tryz.underlying215
      go_enter Tryz.func199, Tryz.ntmps199
      go_wp2_with (first | ((with_reducible refine gate_builtin (b := .append) (xs := #[.tmp 5, .tmp 6]) rfl ?_); at_builtin; refine Kd.R_append_row (h1 := fun _ => rfl) (Value.int .u32) (0 : Int) (w0 := w) w.heap.size rfl (.tmp 5) (.tmp 6) 215 96 (.int .u32 0) 4 rfl Tryz.underlying215 (by first | rfl | simp) rfl (by decide) (.slice (some ⟨w.heap.size, 0, none⟩) 0 0) [] l0 (some ad) l0.length c0 (fun _ => True) rfl rfl (fun _ _ => trivial) HO (Kd.C_alloc hr0 _) (below_alloc (Below.refl _ _) _) (by simp) (by simp; omega) ?_; intro v1 w1 ho1 hb1 _ _))
      go_ret
      rw [List.nil_append] at ho1
      exact ⟨_, rfl, ho1, hb1⟩
  · rw [if_neg hl] at h
    cases h
end Go.Proofs.YtiidpicgdjjikaaGreatDoor.G
