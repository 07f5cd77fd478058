/- Texts of this seat, one behind the other (merged by a program of this session's own). -/
import Derived.Test.YtiidpicgdjjikaaGreatDoorM6

-- Px18
-- of this claim: by a program of this session's own over the kit's print
namespace Go.Proofs.YtiidpicgdjjikaaGreatDoor.P
open Go.RowKit Go.Proofs.YtiidpicgdjjikaaGreatDoor.G Go.Proofs.YtiidpicgdjjikaaGreatDoorW.PrintWords Go.Proofs.YtiidpicgdjjikaaGreatDoorW.PrintLast Go.Proofs.YtiidpicgdjjikaaGreatDoorW.PrintMore
attribute [local go_sem] isSome_setCell_eq max2_int min2_int max_two min_two max_three min_three max_four min_four   -- for this text's walks alone
set_option linter.unusedVariables false
set_option linter.unusedSimpArgs false

/-! ### colour_names: function 129 -/
def colour_names.f  : Option (List ByteArray) := some (([(⟨#[66, 108, 97, 99, 107]⟩ : ByteArray), (⟨#[66, 108, 117, 101]⟩ : ByteArray), (⟨#[67, 121, 97, 110]⟩ : ByteArray), (⟨#[71, 114, 101, 101, 110]⟩ : ByteArray), (⟨#[77, 97, 103, 101, 110, 116, 97]⟩ : ByteArray), (⟨#[82, 101, 100]⟩ : ByteArray), (⟨#[87, 104, 105, 116, 101]⟩ : ByteArray), (⟨#[89, 101, 108, 108, 111, 119]⟩ : ByteArray)] : List ByteArray))
set_option maxHeartbeats 8000000 in
set_option maxRecDepth 100000 in
theorem colour_names.calls  (r : List ByteArray) (w : World) (h : colour_names.f  = some r) :
   Calls Tryz.prog 129 #[] w fun e w' => ∃ v0_ : Value, e = .returned (v0_) ∧ Kd.R Kd.string 9 w' w.heap.size (fun _ => True) v0_ r ∧ Below w.heap.size w w' := by
  have HB := Aside0.mk (Below.refl w.heap.size w)
  have H : (some (([(⟨#[66, 108, 97, 99, 107]⟩ : ByteArray), (⟨#[66, 108, 117, 101]⟩ : ByteArray), (⟨#[67, 121, 97, 110]⟩ : ByteArray), (⟨#[71, 114, 101, 101, 110]⟩ : ByteArray), (⟨#[77, 97, 103, 101, 110, 116, 97]⟩ : ByteArray), (⟨#[82, 101, 100]⟩ : ByteArray), (⟨#[87, 104, 105, 116, 101]⟩ : ByteArray), (⟨#[89, 101, 108, 108, 111, 119]⟩ : ByteArray)] : List ByteArray))) = some r := h
  clear h
  obtain ⟨y209, hy209⟩ : ∃ y_ : List ByteArray, y_ = (([(⟨#[66, 108, 97, 99, 107]⟩ : ByteArray), (⟨#[66, 108, 117, 101]⟩ : ByteArray), (⟨#[67, 121, 97, 110]⟩ : ByteArray), (⟨#[71, 114, 101, 101, 110]⟩ : ByteArray), (⟨#[77, 97, 103, 101, 110, 116, 97]⟩ : ByteArray), (⟨#[82, 101, 100]⟩ : ByteArray), (⟨#[87, 104, 105, 116, 101]⟩ : ByteArray), (⟨#[89, 101, 108, 108, 111, 119]⟩ : ByteArray)] : List ByteArray)) := ⟨_, rfl⟩
  replace H : (some y209) = some r := by first | (rw [hy209]; with_reducible exact H) | (have H2_ := (Option.bind_some _ _).symm.trans H; rw [hy209]; with_reducible exact H2_) | (have H2_ := (Option.bind_some _ _).symm.trans H; with_reducible exact H2_) | with_reducible exact H | (rw [hy209]; exact H) | exact H
  have Ny209 := Aside0.mk hy209
  clear hy209
  obtain rfl := Option.some.inj H
  go_enter Tryz.func129, Tryz.ntmps129
  go_wp2_with (first | ((with_reducible refine gate_dst (N := 1) rfl ?_); refine Kd.R_lit Kd.string _ 9 ?hg (N := 1) ?hd (xs := ([(⟨#[66, 108, 97, 99, 107]⟩ : ByteArray), (⟨#[66, 108, 117, 101]⟩ : ByteArray), (⟨#[67, 121, 97, 110]⟩ : ByteArray), (⟨#[71, 114, 101, 101, 110]⟩ : ByteArray), (⟨#[77, 97, 103, 101, 110, 116, 97]⟩ : ByteArray), (⟨#[82, 101, 100]⟩ : ByteArray), (⟨#[87, 104, 105, 116, 101]⟩ : ByteArray), (⟨#[89, 101, 108, 108, 111, 119]⟩ : ByteArray)] : List ByteArray)) (inner := [.string (⟨#[66, 108, 97, 99, 107]⟩ : ByteArray), .string (⟨#[66, 108, 117, 101]⟩ : ByteArray), .string (⟨#[67, 121, 97, 110]⟩ : ByteArray), .string (⟨#[71, 114, 101, 101, 110]⟩ : ByteArray), .string (⟨#[77, 97, 103, 101, 110, 116, 97]⟩ : ByteArray), .string (⟨#[82, 101, 100]⟩ : ByteArray), .string (⟨#[87, 104, 105, 116, 101]⟩ : ByteArray), .string (⟨#[89, 101, 108, 108, 111, 119]⟩ : ByteArray)]) (ok := fun _ => True) (okp := fun _ => True) ?hr ?hp (fun _ hk => hk) trivial (Below.refl _ _) (Nat.le_refl _) (by simp) ?_; (case hd => rfl); (case hg => rfl); (case hr => first | (go_simp; done) | (go_simp; rfl)); (case hp => exact (Reps.one (show Kd.M Kd.string _ _ _ (⟨#[66, 108, 97, 99, 107]⟩ : ByteArray) [.string (⟨#[66, 108, 97, 99, 107]⟩ : ByteArray)] from rfl) (Reps.one (show Kd.M Kd.string _ _ _ (⟨#[66, 108, 117, 101]⟩ : ByteArray) [.string (⟨#[66, 108, 117, 101]⟩ : ByteArray)] from rfl) (Reps.one (show Kd.M Kd.string _ _ _ (⟨#[67, 121, 97, 110]⟩ : ByteArray) [.string (⟨#[67, 121, 97, 110]⟩ : ByteArray)] from rfl) (Reps.one (show Kd.M Kd.string _ _ _ (⟨#[71, 114, 101, 101, 110]⟩ : ByteArray) [.string (⟨#[71, 114, 101, 101, 110]⟩ : ByteArray)] from rfl) (Reps.one (show Kd.M Kd.string _ _ _ (⟨#[77, 97, 103, 101, 110, 116, 97]⟩ : ByteArray) [.string (⟨#[77, 97, 103, 101, 110, 116, 97]⟩ : ByteArray)] from rfl) (Reps.one (show Kd.M Kd.string _ _ _ (⟨#[82, 101, 100]⟩ : ByteArray) [.string (⟨#[82, 101, 100]⟩ : ByteArray)] from rfl) (Reps.one (show Kd.M Kd.string _ _ _ (⟨#[87, 104, 105, 116, 101]⟩ : ByteArray) [.string (⟨#[87, 104, 105, 116, 101]⟩ : ByteArray)] from rfl) (Reps.one (show Kd.M Kd.string _ _ _ (⟨#[89, 101, 108, 108, 111, 119]⟩ : ByteArray) [.string (⟨#[89, 101, 108, 108, 111, 119]⟩ : ByteArray)] from rfl) (Reps.none _ _)))))))))); intro v210 w1 ho2 hb hg_ hnew_; clear hg_ hnew_; (first | rw [← Ny209.out] at ho2 | (simp only [Int.reduceToNat] at ho2; rw [← Ny209.out] at ho2)); have n0_ := Aside0.mk (Kd.R_lower ho2 (below_size bl_)); have n1_ := Aside0.mk (below_step bl_ hb); clear HB; have HO211 := n0_; have HB := n1_; clear n0_ n1_; clear hb ho2))
  go_ret
  exact ⟨_, by first | rfl | (simp [errW_none, errW_some] <;> rfl) | (simp [*, errW_none, errW_some] <;> rfl), by (with_reducible repeat (first | apply Kd.R_alloc | apply Kd.R_drewN | apply Kd.R_drew)); exact HO211.out, by repeat (first | (with_reducible first | exact HB.out | apply below_alloc | apply pw_below_drewN | apply below_drew1) | exact HB.out)⟩

end Go.Proofs.YtiidpicgdjjikaaGreatDoor.P

