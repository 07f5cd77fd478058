/- Texts of this seat, one behind the other (merged by a program of this session's own). -/
import Derived.Test.YtiidpicgdjjikaaGreatDoorM4
import Derived.Test.YtiidpicgdjjikaaGreatDoorM6
import Derived.Test.YtiidpicgdjjikaaGreatDoorM26

-- Px19
-- of this claim: by a program of this session's own over the kit's print
namespace Go.Proofs.YtiidpicgdjjikaaGreatDoor.P
open Go.RowKit Go.Proofs.YtiidpicgdjjikaaGreatDoor.G Go.Proofs.YtiidpicgdjjikaaGreatDoorW.PrintWords Go.Proofs.YtiidpicgdjjikaaGreatDoorW.PrintLast Go.Proofs.YtiidpicgdjjikaaGreatDoorW.PrintMore
attribute [local go_sem] isSome_setCell_eq max2_int min2_int max_two min_two max_three min_three max_four min_four   -- for this text's walks alone
set_option linter.unusedVariables false
set_option linter.unusedSimpArgs false

/-! ### colour_Name: function 131 -/
def colour_Name.j0 : Nat → Int → List ByteArray → Int → Bool → Option (ByteArray)
  | 0, _, _, _, _ => none
  | k + 1, x0, x3, x4, x10 => if x10 = true then (if 0 ≤ (wrap64 (x0 - 1)) then (if (wrap64 (x0 - 1)) < (x3.length : Int) then (some (rdOf ByteArray.empty x3 (wrap64 (x0 - 1)))) else (none)) else (none)) else (if x4 ≥ 1 then (if x4 ≤ 56 then ((strconv_Itoa.f x4).bind fun t216 => (if 5 + t216.size ≤ 9223372036854775807 then (some ((⟨#[67, 111, 108, 111, 114]⟩ : ByteArray) ++ t216)) else (none))) else (some (⟨#[]⟩ : ByteArray))) else (some (⟨#[]⟩ : ByteArray)))
def colour_Name.f (k : Nat) (a0 : Int) : Option (ByteArray) := (colour_names.f).bind fun t212 => (if a0 ≥ 1 then (colour_Name.j0 k a0 t212 (wrap64 (a0 - (t212.length : Int))) (decide ((wrap64 (a0 - (t212.length : Int))) ≤ 0))) else (colour_Name.j0 k a0 t212 (wrap64 (a0 - (t212.length : Int))) false))
theorem colour_Name.mono_l : ∀ k, (∀ y0 y1 y2 y3, LeO (colour_Name.j0 k y0 y1 y2 y3) (colour_Name.j0 (k + 1) y0 y1 y2 y3))
  | 0 => fun _ _ _ _ r h => by simp [colour_Name.j0] at h
  | k + 1 => by
   have ih0 := colour_Name.mono_l k
   ·
    intro y0 y1 y2 y3
    unfold colour_Name.j0
    repeat' first
    | (with_reducible exact ih0 _ _ _ _)
    | (with_reducible exact LeO.refl _)
    | (with_reducible exact LeO.none _)
    | (with_reducible refine LeO.ite ?_ ?_)
    | (with_reducible refine LeO.bind ?_ (fun _ => ?_))
    | exact ih0 _ _ _ _
    | exact LeO.none _
    | refine LeO.ite ?_ ?_
    | refine LeO.bind ?_ (fun _ => ?_)
theorem colour_Name.mono : ∀ a0 k, LeO (colour_Name.f k a0) (colour_Name.f (k + 1) a0) := by
  intro a0 k
  have ih0 := colour_Name.mono_l k
  unfold colour_Name.f
  repeat' first
    | (with_reducible exact ih0 _ _ _ _)
    | (with_reducible exact LeO.refl _)
    | (with_reducible exact LeO.none _)
    | (with_reducible refine LeO.ite ?_ ?_)
    | (with_reducible refine LeO.bind ?_ (fun _ => ?_))
    | exact ih0 _ _ _ _
    | exact LeO.none _
    | refine LeO.ite ?_ ?_
    | refine LeO.bind ?_ (fun _ => ?_)
set_option maxHeartbeats 8000000 in
set_option maxRecDepth 100000 in
theorem colour_Name.calls (k : Nat) (a0 : Int) (r : ByteArray) (w : World) (h : colour_Name.f k a0 = some r) (HLW_ : LW w) :
   Calls Tryz.prog 131 #[.int .i64 a0] w fun e w' => e = .returned (.string r) ∧ Below w.heap.size w w' := by
  have HLW := Aside0.mk HLW_
  clear HLW_
  have HB := Aside0.mk (Below.refl w.heap.size w)
  have H : ((colour_names.f).bind fun t212 => (if a0 ≥ 1 then (colour_Name.j0 k a0 t212 (wrap64 (a0 - (t212.length : Int))) (decide ((wrap64 (a0 - (t212.length : Int))) ≤ 0))) else (colour_Name.j0 k a0 t212 (wrap64 (a0 - (t212.length : Int))) false))) = some r := h
  clear h
  replace H := Option.bind_eq_some_iff.mp H
  obtain ⟨t212, A20, H⟩ := H
  replace H : (if a0 ≥ 1 then (colour_Name.j0 k a0 t212 (wrap64 (a0 - (t212.length : Int))) (decide ((wrap64 (a0 - (t212.length : Int))) ≤ 0))) else (colour_Name.j0 k a0 t212 (wrap64 (a0 - (t212.length : Int))) false)) = some r := H
  have A2 := Aside0.mk A20
  clear A20
  have HC3 := Aside0.mk H
  clear H
  go_enter Tryz.func131, Tryz.ntmps131
  go_upto_region 3 with (first | ((with_reducible refine gate_callee (f := 129) rfl ?_); refine goesL_ (some 5) rfl rfl Tryz.func129 (by kernel_rfl) rfl #[] rfl (by (try simp only [List.map_toArray, List.map_cons, List.map_nil]); first | done | rfl | (simp only [List.length_drop, List.length_take]; rfl)) ?_; (with_reducible refine (colour_names.calls  t212 _ A2.out).mono ?_); rintro e w4 ⟨v213, rfl, ho0, hb⟩; refine ⟨_, rfl, ?_⟩; have n0_ := Aside0.mk (Kd.R_lower ho0 (below_size bl_)); have n1_ := Aside0.mk (below_step bl_ hb); clear HB; have HO214 := n0_; have HB := n1_; clear n0_ n1_; (try clear hb); (try clear hb2); (try clear hk); (try clear hi); (try clear ho0); obtain ⟨Ao5, co5, eo5⟩ := Kd.R_slice HO214.out; subst eo5))
  (try simp only [Act.put, List.setIfInBounds_toArray, List.set_cons_zero, List.set_cons_succ])
  go_cut [10] (fun v10 wc => ∃ (kq : Nat) (x10_2 : Bool), v10 = .bool x10_2 ∧ Aside0 (colour_Name.j0 kq a0 t212 (wrap64 (a0 - (t212.length : Int))) x10_2 = some r) ∧ Aside0 (kq ≤ k) ∧ Aside0 (Kd.R Kd.string 9 wc w.heap.size (fun _ => True) (.slice Ao5 t212.length co5) t212) ∧ Aside0 (Below w.heap.size w wc))
  case first =>
   have H := HC3.out
   clear HC3
   by_cases c6 : a0 ≥ 1
   ·
    rw [if_pos c6] at H
    have c6b0 : decide (1 ≤ a0) = true := decide_eq_true c6
    clear c6
    (first | rw [c6b0] | (simp only [i64_w, i32_w]; rw [c6b0]) | skip)
    have H' := Aside0.mk H
    clear H
    go_wp2
    go_meet
    case rel => exact ⟨_, (decide ((wrap64 (a0 - (t212.length : Int))) ≤ 0)), (by first | rfl | (simp; done) | (simp [*]; done) | (simp only [isEmpty_ne, Bool.not_not]) | (simp only [isEmpty_ne])), H', ⟨by first | omega | exact Nat.le_refl _⟩, ⟨by (with_reducible repeat (first | apply Kd.R_alloc | apply Kd.R_drewN | apply Kd.R_drew)); exact HO214.out⟩, ⟨bl_⟩⟩
   ·
    rw [if_neg c6] at H
    have c6b0 : decide (1 ≤ a0) = false := decide_eq_false c6
    clear c6
    (first | rw [c6b0] | (simp only [i64_w, i32_w]; rw [c6b0]) | skip)
    have H' := Aside0.mk H
    clear H
    go_wp2
    go_meet
    case rel => exact ⟨_, (false), (by first | rfl | (simp; done) | (simp [*]; done) | (simp only [isEmpty_ne, Bool.not_not]) | (simp only [isEmpty_ne])), H', ⟨by first | omega | exact Nat.le_refl _⟩, ⟨by (with_reducible repeat (first | apply Kd.R_alloc | apply Kd.R_drewN | apply Kd.R_drew)); exact HO214.out⟩, ⟨bl_⟩⟩
  case rest =>
   clear HC3
   try clear c1
   try clear p2
   try clear c6
   try clear c6b0
   try clear p6
   obtain ⟨kq, x10_2, rfl, HA, HJ2, HO_3, HB⟩ := hcut
   cases kq with
   | zero => exact absurd HA.out (by simp [colour_Name.j0])
   | succ kj2 =>
    have H := HA.out
    clear HA
    simp only [colour_Name.j0] at H
    by_cases c7 : x10_2 = true
    ·
     subst c7
     have H1 : (if 0 ≤ (wrap64 (a0 - 1)) then (if (wrap64 (a0 - 1)) < (t212.length : Int) then (some (rdOf ByteArray.empty t212 (wrap64 (a0 - 1)))) else (none)) else (none)) = some r := by rw [if_pos rfl] at H; exact H
     clear H
     have H := H1
     clear H1
     obtain ⟨ji8, hji8⟩ : ∃ j_ : Int, (wrap64 (a0 - 1)) = j_ := ⟨_, rfl⟩
     replace H : (if 0 ≤ (ji8) then (if (ji8) < (t212.length : Int) then (some (rdOf ByteArray.empty t212 (ji8))) else (none)) else (none)) = some r := by first | (rw [hji8] at H; exact H) | (simp only [hji8] at H ⊢; exact H)
     have hji8w : (IntKind.i64.wrap (a0 - 1)) = ji8 := (i64_w _).trans hji8
     by_cases c9 : 0 ≤ (ji8)
     ·
      rw [if_pos c9] at H
      have c9b0 : decide (0 ≤ (ji8)) = true := decide_eq_true c9
      clear c9
      by_cases c10 : (ji8) < (t212.length : Int)
      ·
       rw [if_pos c10] at H
       have c10b0 : decide ((ji8) < (t212.length : Int)) = true := decide_eq_true c10
       clear c10
       obtain rfl := Option.some.inj H
       have p215 : 0 ≤ ((ji8) : Int) := of_decide_eq_true (by first | (with_reducible assumption) | assumption)
       have q215 : (ji8) < (t212.length : Int) := of_decide_eq_true (by first | (with_reducible assumption) | assumption)
       obtain ⟨ad215, e215, hx215_0⟩ := Kd.at_string (Kd.R_reads' HO_3.out).2.2 (ji8) p215 q215
       cases e215
       replace p215 := eq_true p215
       replace q215 := eq_true q215
       go_wp2
       go_ret
       exact ⟨by first | rfl | (simp [errW_none, errW_some] <;> rfl) | (simp only [← hji8]; first | rfl | (simp [errW_none, errW_some] <;> rfl)) | (simp [*, errW_none, errW_some] <;> rfl), by repeat (first | (with_reducible first | exact HB.out | apply below_alloc | apply pw_below_drewN | apply below_drew1) | exact HB.out)⟩
      ·
       rw [if_neg c10] at H
       exact absurd H (by simp)
     ·
      rw [if_neg c9] at H
      exact absurd H (by simp)
    ·
     replace c7 := Bool.eq_false_iff.mpr c7
     subst c7
     have H1 : (if (wrap64 (a0 - (t212.length : Int))) ≥ 1 then (if (wrap64 (a0 - (t212.length : Int))) ≤ 56 then ((strconv_Itoa.f (wrap64 (a0 - (t212.length : Int)))).bind fun t216 => (if 5 + t216.size ≤ 9223372036854775807 then (some ((⟨#[67, 111, 108, 111, 114]⟩ : ByteArray) ++ t216)) else (none))) else (some (⟨#[]⟩ : ByteArray))) else (some (⟨#[]⟩ : ByteArray))) = some r := by rw [if_neg (show ¬ (false = true) by decide)] at H; exact H
     clear H
     have H := H1
     clear H1
     by_cases c11 : (wrap64 (a0 - (t212.length : Int))) ≥ 1
     ·
      rw [if_pos c11] at H
      have c11b0 : decide (1 ≤ (wrap64 (a0 - (t212.length : Int)))) = true := decide_eq_true c11
      clear c11
      by_cases c12 : (wrap64 (a0 - (t212.length : Int))) ≤ 56
      ·
       rw [if_pos c12] at H
       have c12b0 : decide ((wrap64 (a0 - (t212.length : Int))) ≤ 56) = true := decide_eq_true c12
       clear c12
       replace H := Option.bind_eq_some_iff.mp H
       obtain ⟨t216, A130, H⟩ := H
       replace H : (if 5 + t216.size ≤ 9223372036854775807 then (some ((⟨#[67, 111, 108, 111, 114]⟩ : ByteArray) ++ t216)) else (none)) = some r := H
       have A13 := Aside0.mk A130
       clear A130
       by_cases c14 : 5 + t216.size ≤ 9223372036854775807
       ·
        rw [if_pos c14] at H
        have c14b0 := eq_true c14
        have c14b1 : decide (5 + t216.size ≤ 9223372036854775807) = true := decide_eq_true c14
        try have c14b2 : (9223372036854775807 < 5 + t216.size) = False := eq_false (Nat.not_lt.2 c14)
        obtain rfl := Option.some.inj H
        go_wp2_with (first | ((with_reducible refine gate_callee (f := 147) rfl ?_); refine goesL_ (some 30) rfl rfl Tryz.func147 (by kernel_rfl) rfl #[.int .i64 (wrap64 (a0 - (t212.length : Int)))] rfl (by (try simp only [List.map_toArray, List.map_cons, List.map_nil]); first | done | rfl | (simp only [List.length_drop, List.length_take]; rfl)) ?_; (with_reducible refine (strconv_Itoa.calls (wrap64 (a0 - (t212.length : Int))) t216 _ A13.out ?side1).mono ?_); (case side1 => exact LW.below HLW.out bl_); rintro e w15 ⟨rfl, hb⟩; refine ⟨_, rfl, ?_⟩; have n0_ := Aside0.mk (Kd.R_below (by (with_reducible repeat (first | apply Kd.R_alloc | apply Kd.R_drewN | apply Kd.R_drew)); exact HO_3.out) hb); have n1_ := Aside0.mk (below_step bl_ hb); clear HO_3; clear HB; have HO_3 := n0_; have HB := n1_; clear n0_ n1_; (try clear hb); (try clear hb2); (try clear hk); (try clear hi)))
        go_ret
        exact ⟨by first | rfl | (simp [errW_none, errW_some] <;> rfl) | (simp [*, errW_none, errW_some] <;> rfl), by repeat (first | (with_reducible first | exact HB.out | apply below_alloc | apply pw_below_drewN | apply below_drew1) | exact HB.out)⟩
       ·
        rw [if_neg c14] at H
        exact absurd H (by simp)
      ·
       rw [if_neg c12] at H
       have c12b0 : decide ((wrap64 (a0 - (t212.length : Int))) ≤ 56) = false := decide_eq_false c12
       clear c12
       obtain rfl := Option.some.inj H
       go_wp2
       go_ret
       exact ⟨by first | rfl | (simp [errW_none, errW_some] <;> rfl) | (simp [*, errW_none, errW_some] <;> rfl), by repeat (first | (with_reducible first | exact HB.out | apply below_alloc | apply pw_below_drewN | apply below_drew1) | exact HB.out)⟩
     ·
      rw [if_neg c11] at H
      have c11b0 : decide (1 ≤ (wrap64 (a0 - (t212.length : Int)))) = false := decide_eq_false c11
      clear c11
      obtain rfl := Option.some.inj H
      go_wp2
      go_ret
      exact ⟨by first | rfl | (simp [errW_none, errW_some] <;> rfl) | (simp [*, errW_none, errW_some] <;> rfl), by repeat (first | (with_reducible first | exact HB.out | apply below_alloc | apply pw_below_drewN | apply below_drew1) | exact HB.out)⟩

end Go.Proofs.YtiidpicgdjjikaaGreatDoor.P

