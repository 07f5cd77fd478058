/- Texts of this seat, one behind the other (merged by a program of this session's own). -/
import Derived.Test.YtiidpicgdjjikaaGreatDoorM6
import Derived.Test.YtiidpicgdjjikaaGreatDoorM26
import Derived.Test.YtiidpicgdjjikaaGreatDoorM27
import Derived.Test.YtiidpicgdjjikaaGreatDoorM28
import Derived.Test.YtiidpicgdjjikaaGreatDoorM29

-- Px20
-- of this claim: by a program of this session's own over the kit's print
namespace Go.Proofs.YtiidpicgdjjikaaGreatDoor.P
open Go.RowKit Go.Proofs.YtiidpicgdjjikaaGreatDoor.G Go.Proofs.YtiidpicgdjjikaaGreatDoorW.PrintWords Go.Proofs.YtiidpicgdjjikaaGreatDoorW.PrintLast Go.Proofs.YtiidpicgdjjikaaGreatDoorW.PrintMore
attribute [local go_sem] isSome_setCell_eq max2_int min2_int max_two min_two max_three min_three max_four min_four   -- for this text's walks alone
set_option linter.unusedVariables false
set_option linter.unusedSimpArgs false

/-! ### colour_Number: function 108 -/
def colour_Number.l0 : Nat → ByteArray → Int → Int → Option (Int × Bool)
  | 0, _, _, _ => none
  | k + 1, x0, x7, x8 => if x8 < x7 then ((colour_plain.f x0).bind fun t220 => (if t220 = true then ((colour_Name.f k (wrap64 (x8 + 1))).bind fun t221 => ((strings_EqualFold.f t221 x0).bind fun t222 => (if t222 = true then (some (wrap64 (x8 + 1), true)) else (colour_Number.l0 k x0 x7 (wrap64 (x8 + 1)))))) else (colour_Number.l0 k x0 x7 (wrap64 (x8 + 1))))) else (some (0, false))
def colour_Number.f (k : Nat) (a0 : ByteArray) : Option (Int × Bool) := (colour_names.f).bind fun t217 => (colour_Number.l0 k a0 (wrap64 ((t217.length : Int) + 56)) 0)
theorem colour_Number.mono_l : ∀ k, (∀ y0 y1 y2, LeO (colour_Number.l0 k y0 y1 y2) (colour_Number.l0 (k + 1) y0 y1 y2))
  | 0 => fun _ _ _ r h => by simp [colour_Number.l0] at h
  | k + 1 => by
   have ih0 := colour_Number.mono_l k
   ·
    intro y0 y1 y2
    unfold colour_Number.l0
    repeat' first
    | (with_reducible exact ih0 _ _ _)
    | (with_reducible exact colour_Name.mono _ _)
    | (with_reducible exact LeO.refl _)
    | (with_reducible exact LeO.none _)
    | (with_reducible refine LeO.ite ?_ ?_)
    | (with_reducible refine LeO.bind ?_ (fun _ => ?_))
    | exact ih0 _ _ _
    | exact colour_Name.mono _ _
    | exact LeO.none _
    | refine LeO.ite ?_ ?_
    | refine LeO.bind ?_ (fun _ => ?_)
theorem colour_Number.mono : ∀ a0 k, LeO (colour_Number.f k a0) (colour_Number.f (k + 1) a0) := by
  intro a0 k
  have ih0 := colour_Number.mono_l k
  unfold colour_Number.f
  repeat' first
    | (with_reducible exact ih0 _ _ _)
    | (with_reducible exact colour_Name.mono _ _)
    | (with_reducible exact LeO.refl _)
    | (with_reducible exact LeO.none _)
    | (with_reducible refine LeO.ite ?_ ?_)
    | (with_reducible refine LeO.bind ?_ (fun _ => ?_))
    | exact ih0 _ _ _
    | exact colour_Name.mono _ _
    | exact LeO.none _
    | refine LeO.ite ?_ ?_
    | refine LeO.bind ?_ (fun _ => ?_)
set_option maxHeartbeats 8000000 in
set_option maxRecDepth 100000 in
theorem colour_Number.calls (k : Nat) (a0 : ByteArray) (r1 : Int) (r2 : Bool) (w : World) (h : colour_Number.f k a0 = some (r1, r2)) (HLW_ : LW w) :
   Calls Tryz.prog 108 #[.string a0] w fun e w' => e = .returned (.tuple #[.int .i64 r1, .bool r2]) ∧ Below w.heap.size w w' := by
  have HLW := Aside0.mk HLW_
  clear HLW_
  have HB := Aside0.mk (Below.refl w.heap.size w)
  have H : ((colour_names.f).bind fun t217 => (colour_Number.l0 k a0 (wrap64 ((t217.length : Int) + 56)) 0)) = some (r1, r2) := h
  clear h
  replace H := Option.bind_eq_some_iff.mp H
  obtain ⟨t217, A20, H⟩ := H
  replace H : (colour_Number.l0 k a0 (wrap64 ((t217.length : Int) + 56)) 0) = some (r1, r2) := H
  have A2 := Aside0.mk A20
  clear A20
  have H' := Aside0.mk H
  clear H
  go_enter Tryz.func108, Tryz.ntmps108
  go_wp2_with (first | ((with_reducible refine gate_callee (f := 129) rfl ?_); refine goesL_ (some 5) rfl rfl Tryz.func129 (by kernel_rfl) rfl #[] rfl (by (try simp only [List.map_toArray, List.map_cons, List.map_nil]); first | done | rfl | (simp only [List.length_drop, List.length_take]; rfl)) ?_; (with_reducible refine (colour_names.calls  t217 _ A2.out).mono ?_); rintro e w3 ⟨v218, rfl, ho0, hb⟩; refine ⟨_, rfl, ?_⟩; have n0_ := Aside0.mk (Kd.R_lower ho0 (below_size bl_)); have n1_ := Aside0.mk (below_step bl_ hb); clear HB; have HO219 := n0_; have HB := n1_; clear n0_ n1_; (try clear hb); (try clear hb2); (try clear hk); (try clear hi); (try clear ho0); obtain ⟨Ao4, co4, eo4⟩ := Kd.R_slice HO219.out; subst eo4))
  go_loopg [8] k (fun kq v8 w' => ∃ (x8_1 : Int), v8 = .int .i64 x8_1 ∧ Aside0 (colour_Number.l0 kq a0 (wrap64 ((t217.length : Int) + 56)) x8_1 = some (r1, r2)) ∧ Aside0 (kq ≤ k) ∧ Aside0 (Below w.heap.size w w'))
  case atStart => exact ⟨(0), (by first | rfl | (simp; done) | (simp [*]; done) | (simp only [isEmpty_ne, Bool.not_not]) | (simp only [isEmpty_ne])), H', ⟨Nat.le_refl _⟩, ⟨bl_⟩⟩
  case round =>
   clear H'
   try clear c1
   try clear p2
   obtain ⟨x8_1, rfl, HA, HK1, HB⟩ := hrel
   cases gk with
   | zero => exact absurd HA.out (by simp [colour_Number.l0])
   | succ k1 =>
    have H := HA.out
    clear HA
    simp only [colour_Number.l0] at H
    by_cases c5 : x8_1 < (wrap64 ((t217.length : Int) + 56))
    ·
     rw [if_pos c5] at H
     have c5b0 : decide (x8_1 < (wrap64 ((t217.length : Int) + 56))) = true := decide_eq_true c5
     clear c5
     replace H := Option.bind_eq_some_iff.mp H
     obtain ⟨t220, A60, H⟩ := H
     replace H : (if t220 = true then ((colour_Name.f k1 (wrap64 (x8_1 + 1))).bind fun t221 => ((strings_EqualFold.f t221 a0).bind fun t222 => (if t222 = true then (some (wrap64 (x8_1 + 1), true)) else (colour_Number.l0 k1 a0 (wrap64 ((t217.length : Int) + 56)) (wrap64 (x8_1 + 1)))))) else (colour_Number.l0 k1 a0 (wrap64 ((t217.length : Int) + 56)) (wrap64 (x8_1 + 1)))) = some (r1, r2) := H
     have A6 := Aside0.mk A60
     clear A60
     by_cases c7 : t220 = true
     ·
      subst c7
      have H1 : ((colour_Name.f k1 (wrap64 (x8_1 + 1))).bind fun t221 => ((strings_EqualFold.f t221 a0).bind fun t222 => (if t222 = true then (some (wrap64 (x8_1 + 1), true)) else (colour_Number.l0 k1 a0 (wrap64 ((t217.length : Int) + 56)) (wrap64 (x8_1 + 1)))))) = some (r1, r2) := by rw [if_pos rfl] at H; exact H
      clear H
      have H := H1
      clear H1
      replace H := Option.bind_eq_some_iff.mp H
      obtain ⟨t221, A80, H⟩ := H
      replace H : ((strings_EqualFold.f t221 a0).bind fun t222 => (if t222 = true then (some (wrap64 (x8_1 + 1), true)) else (colour_Number.l0 k1 a0 (wrap64 ((t217.length : Int) + 56)) (wrap64 (x8_1 + 1))))) = some (r1, r2) := H
      have A8 := Aside0.mk A80
      clear A80
      replace H := Option.bind_eq_some_iff.mp H
      obtain ⟨t222, A90, H⟩ := H
      replace H : (if t222 = true then (some (wrap64 (x8_1 + 1), true)) else (colour_Number.l0 k1 a0 (wrap64 ((t217.length : Int) + 56)) (wrap64 (x8_1 + 1)))) = some (r1, r2) := H
      have A9 := Aside0.mk A90
      clear A90
      by_cases c10 : t222 = true
      ·
       subst c10
       have H1 : (some (wrap64 (x8_1 + 1), true)) = some (r1, r2) := by rw [if_pos rfl] at H; exact H
       clear H
       have H := H1
       clear H1
       simp only [Option.some.injEq, Prod.mk.injEq] at H
       obtain ⟨rfl, rfl⟩ := H
       go_wp2_with (first | ((with_reducible refine gate_callee (f := 105) rfl ?_); refine goesL_ (some 12) rfl rfl Tryz.func105 (by kernel_rfl) rfl #[.string a0] rfl (by (try simp only [List.map_toArray, List.map_cons, List.map_nil]); first | done | rfl | (simp only [List.length_drop, List.length_take]; rfl)) ?_; (with_reducible refine (colour_plain.calls a0 true _ A6.out ?side1).mono ?_); (case side1 => exact LW.below HLW.out bl_); rintro e w11 ⟨rfl, hb⟩; refine ⟨_, rfl, ?_⟩; have n0_ := Aside0.mk (below_step bl_ hb); clear HB; have HB := n0_; clear n0_; (try clear hb); (try clear hb2); (try clear hk); (try clear hi)) | (go_at_call 131; (with_reducible refine (colour_Name.calls k1 (wrap64 (x8_1 + 1)) t221 _ A8.out ?side1).mono ?_); (case side1 => exact LW.below HLW.out bl_); rintro e w12 ⟨rfl, hb⟩; have n0_ := Aside0.mk (below_step bl_ hb); clear HB; have HB := n0_; clear n0_; (try clear hb); (try clear hb2); (try clear hk); (try clear hi)) | (go_at_call 130; (with_reducible refine (strings_EqualFold.calls t221 a0 true _ A9.out ?side1).mono ?_); (case side1 => exact LW.below HLW.out bl_); rintro e w13 ⟨rfl, hb⟩; have n0_ := Aside0.mk (below_step bl_ hb); clear HB; have HB := n0_; clear n0_; (try clear hb); (try clear hb2); (try clear hk); (try clear hi)))
       go_ret2
       exact ⟨by first | rfl | (simp [errW_none, errW_some] <;> rfl) | (simp [*, errW_none, errW_some] <;> rfl), by repeat (first | (with_reducible first | exact HB.out | apply below_alloc | apply pw_below_drewN | apply below_drew1) | exact HB.out)⟩
      ·
       replace c10 := Bool.eq_false_iff.mpr c10
       subst c10
       have H1 : (colour_Number.l0 k1 a0 (wrap64 ((t217.length : Int) + 56)) (wrap64 (x8_1 + 1))) = some (r1, r2) := by rw [if_neg (show ¬ (false = true) by decide)] at H; exact H
       clear H
       have H := H1
       clear H1
       have H' := Aside0.mk H
       clear H
       go_wp2_with (first | ((with_reducible refine gate_callee (f := 105) rfl ?_); refine goesL_ (some 12) rfl rfl Tryz.func105 (by kernel_rfl) rfl #[.string a0] rfl (by (try simp only [List.map_toArray, List.map_cons, List.map_nil]); first | done | rfl | (simp only [List.length_drop, List.length_take]; rfl)) ?_; (with_reducible refine (colour_plain.calls a0 true _ A6.out ?side1).mono ?_); (case side1 => exact LW.below HLW.out bl_); rintro e w14 ⟨rfl, hb⟩; refine ⟨_, rfl, ?_⟩; have n0_ := Aside0.mk (below_step bl_ hb); clear HB; have HB := n0_; clear n0_; (try clear hb); (try clear hb2); (try clear hk); (try clear hi)) | (go_at_call 131; (with_reducible refine (colour_Name.calls k1 (wrap64 (x8_1 + 1)) t221 _ A8.out ?side1).mono ?_); (case side1 => exact LW.below HLW.out bl_); rintro e w15 ⟨rfl, hb⟩; have n0_ := Aside0.mk (below_step bl_ hb); clear HB; have HB := n0_; clear n0_; (try clear hb); (try clear hb2); (try clear hk); (try clear hi)) | (go_at_call 130; (with_reducible refine (strings_EqualFold.calls t221 a0 false _ A9.out ?side1).mono ?_); (case side1 => exact LW.below HLW.out bl_); rintro e w16 ⟨rfl, hb⟩; have n0_ := Aside0.mk (below_step bl_ hb); clear HB; have HB := n0_; clear n0_; (try clear hb); (try clear hb2); (try clear hk); (try clear hi)))
       go_roundg k1
       case measure => have := HK1.out; omega
       case rel => exact ⟨(wrap64 (x8_1 + 1)), (by first | rfl | (simp; done) | (simp [*]; done) | (simp only [isEmpty_ne, Bool.not_not]) | (simp only [isEmpty_ne])), H', ⟨by have := HK1.out; omega⟩, ⟨bl_⟩⟩
     ·
      replace c7 := Bool.eq_false_iff.mpr c7
      subst c7
      have H1 : (colour_Number.l0 k1 a0 (wrap64 ((t217.length : Int) + 56)) (wrap64 (x8_1 + 1))) = some (r1, r2) := by rw [if_neg (show ¬ (false = true) by decide)] at H; exact H
      clear H
      have H := H1
      clear H1
      have H' := Aside0.mk H
      clear H
      go_wp2_with (first | ((with_reducible refine gate_callee (f := 105) rfl ?_); refine goesL_ (some 12) rfl rfl Tryz.func105 (by kernel_rfl) rfl #[.string a0] rfl (by (try simp only [List.map_toArray, List.map_cons, List.map_nil]); first | done | rfl | (simp only [List.length_drop, List.length_take]; rfl)) ?_; (with_reducible refine (colour_plain.calls a0 false _ A6.out ?side1).mono ?_); (case side1 => exact LW.below HLW.out bl_); rintro e w17 ⟨rfl, hb⟩; refine ⟨_, rfl, ?_⟩; have n0_ := Aside0.mk (below_step bl_ hb); clear HB; have HB := n0_; clear n0_; (try clear hb); (try clear hb2); (try clear hk); (try clear hi)))
      go_roundg k1
      case measure => have := HK1.out; omega
      case rel => exact ⟨(wrap64 (x8_1 + 1)), (by first | rfl | (simp; done) | (simp [*]; done) | (simp only [isEmpty_ne, Bool.not_not]) | (simp only [isEmpty_ne])), H', ⟨by have := HK1.out; omega⟩, ⟨bl_⟩⟩
    ·
     rw [if_neg c5] at H
     have c5b0 : decide (x8_1 < (wrap64 ((t217.length : Int) + 56))) = false := decide_eq_false c5
     clear c5
     simp only [Option.some.injEq, Prod.mk.injEq] at H
     obtain ⟨rfl, rfl⟩ := H
     go_wp2
     go_ret2
     exact ⟨by first | rfl | (simp [errW_none, errW_some] <;> rfl) | (simp [*, errW_none, errW_some] <;> rfl), by repeat (first | (with_reducible first | exact HB.out | apply below_alloc | apply pw_below_drewN | apply below_drew1) | exact HB.out)⟩

end Go.Proofs.YtiidpicgdjjikaaGreatDoor.P

