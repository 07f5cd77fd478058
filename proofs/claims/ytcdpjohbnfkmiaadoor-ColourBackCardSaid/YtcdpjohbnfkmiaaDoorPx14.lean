-- of this claim: by a program of this session's own over the kit's print
import Derived.Test.YtcdpjohbnfkmiaaDoorPx0
import Derived.Test.YtcdpjohbnfkmiaaDoorPx7
import Derived.Test.YtcdpjohbnfkmiaaDoorPx8
import Derived.Test.YtcdpjohbnfkmiaaDoorGL
import Derived.Test.YtcdpjohbnfkmiaaDoorGC
import Derived.Test.YtcdpjohbnfkmiaaDoorGLow
import Derived.Test.YtcdpjohbnfkmiaaDoorGMoney
import Derived.Test.YtcdpjohbnfkmiaaDoorGFu
namespace Go.Proofs.YtcdpjohbnfkmiaaDoor.P
open Go.RowKit Go.Proofs.YtcdpjohbnfkmiaaDoor.G Go.Proofs.YtcdpjohbnfkmiaaDoorW.PrintWords Go.Proofs.YtcdpjohbnfkmiaaDoorW.PrintLast Go.Proofs.YtcdpjohbnfkmiaaDoorW.PrintMore
attribute [local go_sem] max2_int min2_int max_two min_two max_three min_three max_four min_four   -- for this text's walks alone
set_option linter.unusedVariables false
set_option linter.unusedSimpArgs false

/-! ### numerarylaw12_ColourBack: function 5 -/
def numerarylaw12_ColourBack.j0 : Nat → ByteArray → Int → ByteArray → Bool → Bool → Option (Bool)
  | 0, _, _, _, _, _ => none
  | k + 1, x0, x1, x5, x6, x32 => if x32 = true then (some false) else (if x6 = true then ((colour_Money.f x5).bind fun bt179 => ((numerarylaw12_wakes.f k).bind fun t182 => (if t182 = true then (if bt179.2.2 = true then (if bt179.1.toList = x0.toList then (some (bt179.2.1 == x1)) else (some false)) else (some false)) else (some false)))) else ((numerarylaw12_wakes.f k).bind fun t183 => (some t183)))
def numerarylaw12_ColourBack.f (k : Nat) (a0 : ByteArray) (a1 : Int) : Option (Bool) := if 0 ≤ (mn (a0.size : Int) 40) then (if (mn (a0.size : Int) 40) ≤ (a0.size : Int) then ((colour_Wallet.f (a0.extract 0 ((mn (a0.size : Int) 40) : Int).toNat) a1).bind fun bt176 => ((strings_Contains.f (a0.extract 0 ((mn (a0.size : Int) 40) : Int).toNat) (⟨#[45]⟩ : ByteArray)).bind fun t178 => (if (bt176.2 == t178) = true then (numerarylaw12_ColourBack.j0 k (a0.extract 0 ((mn (a0.size : Int) 40) : Int).toNat) a1 bt176.1 bt176.2 true) else (if bt176.2 = true then (numerarylaw12_ColourBack.j0 k (a0.extract 0 ((mn (a0.size : Int) 40) : Int).toNat) a1 bt176.1 bt176.2 false) else (numerarylaw12_ColourBack.j0 k (a0.extract 0 ((mn (a0.size : Int) 40) : Int).toNat) a1 bt176.1 bt176.2 (bt176.1.toList != ([] : List UInt8))))))) else (none)) else (none)
theorem numerarylaw12_ColourBack.mono_l : ∀ k, (∀ y0 y1 y2 y3 y4, LeO (numerarylaw12_ColourBack.j0 k y0 y1 y2 y3 y4) (numerarylaw12_ColourBack.j0 (k + 1) y0 y1 y2 y3 y4))
  | 0 => fun _ _ _ _ _ r h => by simp [numerarylaw12_ColourBack.j0] at h
  | k + 1 => by
    have ih0 := numerarylaw12_ColourBack.mono_l k
    · intro y0 y1 y2 y3 y4
      unfold numerarylaw12_ColourBack.j0
      repeat' first
      | (with_reducible exact ih0 _ _ _ _ _)
      | (with_reducible exact numerarylaw12_wakes.mono _)
      | (with_reducible exact LeO.refl _)
      | (with_reducible exact LeO.none _)
      | (with_reducible refine LeO.ite ?_ ?_)
      | (with_reducible refine LeO.bind ?_ (fun _ => ?_))
      | exact ih0 _ _ _ _ _
      | exact numerarylaw12_wakes.mono _
      | exact LeO.none _
      | refine LeO.ite ?_ ?_
      | refine LeO.bind ?_ (fun _ => ?_)
theorem numerarylaw12_ColourBack.mono : ∀ a0 a1 k, LeO (numerarylaw12_ColourBack.f k a0 a1) (numerarylaw12_ColourBack.f (k + 1) a0 a1) := by
  intro a0 a1 k
  have ih0 := numerarylaw12_ColourBack.mono_l k
  unfold numerarylaw12_ColourBack.f
  repeat' first
      | (with_reducible exact ih0 _ _ _ _ _)
      | (with_reducible exact numerarylaw12_wakes.mono _)
      | (with_reducible exact LeO.refl _)
      | (with_reducible exact LeO.none _)
      | (with_reducible refine LeO.ite ?_ ?_)
      | (with_reducible refine LeO.bind ?_ (fun _ => ?_))
      | exact ih0 _ _ _ _ _
      | exact numerarylaw12_wakes.mono _
      | exact LeO.none _
      | refine LeO.ite ?_ ?_
      | refine LeO.bind ?_ (fun _ => ?_)
set_option maxHeartbeats 8000000 in
set_option maxRecDepth 100000 in
theorem numerarylaw12_ColourBack.calls (k : Nat) (a0 : ByteArray) (a1 : Int) (r : Bool) (w : World) (h : numerarylaw12_ColourBack.f k a0 a1 = some r) (HLW_ : LW w) :
    Calls Tryd.prog 5 #[.string a0, .int .u32 a1] w fun e w' => e = .returned (.bool r) ∧ Below w.heap.size w w' := by
  have HLW := Aside0.mk HLW_
  clear HLW_
  have HB := Aside0.mk (Below.refl w.heap.size w)
  have H : (if 0 ≤ (mn (a0.size : Int) 40) then (if (mn (a0.size : Int) 40) ≤ (a0.size : Int) then ((colour_Wallet.f (a0.extract 0 ((mn (a0.size : Int) 40) : Int).toNat) a1).bind fun bt176 => ((strings_Contains.f (a0.extract 0 ((mn (a0.size : Int) 40) : Int).toNat) (⟨#[45]⟩ : ByteArray)).bind fun t178 => (if (bt176.2 == t178) = true then (numerarylaw12_ColourBack.j0 k (a0.extract 0 ((mn (a0.size : Int) 40) : Int).toNat) a1 bt176.1 bt176.2 true) else (if bt176.2 = true then (numerarylaw12_ColourBack.j0 k (a0.extract 0 ((mn (a0.size : Int) 40) : Int).toNat) a1 bt176.1 bt176.2 false) else (numerarylaw12_ColourBack.j0 k (a0.extract 0 ((mn (a0.size : Int) 40) : Int).toNat) a1 bt176.1 bt176.2 (bt176.1.toList != ([] : List UInt8))))))) else (none)) else (none)) = some r := h
  clear h
  obtain ⟨ji3, hji3⟩ : ∃ j_ : Int, (mn (a0.size : Int) 40) = j_ := ⟨_, rfl⟩
  replace H : (if 0 ≤ (ji3) then (if (ji3) ≤ (a0.size : Int) then ((colour_Wallet.f (a0.extract 0 ((ji3) : Int).toNat) a1).bind fun bt176 => ((strings_Contains.f (a0.extract 0 ((ji3) : Int).toNat) (⟨#[45]⟩ : ByteArray)).bind fun t178 => (if (bt176.2 == t178) = true then (numerarylaw12_ColourBack.j0 k (a0.extract 0 ((ji3) : Int).toNat) a1 bt176.1 bt176.2 true) else (if bt176.2 = true then (numerarylaw12_ColourBack.j0 k (a0.extract 0 ((ji3) : Int).toNat) a1 bt176.1 bt176.2 false) else (numerarylaw12_ColourBack.j0 k (a0.extract 0 ((ji3) : Int).toNat) a1 bt176.1 bt176.2 (bt176.1.toList != ([] : List UInt8))))))) else (none)) else (none)) = some r := by first | (rw [hji3] at H; exact H) | (simp only [hji3] at H ⊢; exact H)
  (try (have hji3h : ji3 ≤ 40 := by (rw [← hji3]; unfold mn; (repeat' split) <;> omega)))
  (try (have hji3g : ji3 ≤ 64 := by omega))
  (try (have hji3l : 0 ≤ ji3 := by (rw [← hji3]; unfold mn; (repeat' split) <;> omega)))
  (try (have hji3m : 0 ≤ ji3 := by omega))
  have hji3_ : (if 40 < (a0.size : Int) then 40 else (a0.size : Int)) = ji3 := hji3
  by_cases c4 : 0 ≤ (ji3)
  · rw [if_pos c4] at H
    have c4b0 := eq_true c4
    have c4b1 : decide (0 ≤ (ji3)) = true := decide_eq_true c4
    clear c4
    by_cases c5 : (ji3) ≤ (a0.size : Int)
    · rw [if_pos c5] at H
      have c5b0 := eq_true c5
      have c5b1 : decide ((ji3) ≤ (a0.size : Int)) = true := decide_eq_true c5
      clear c5
      replace H := Option.bind_eq_some_iff.mp H
      obtain ⟨⟨t176, t177⟩, A60, H⟩ := H
      replace H : ((strings_Contains.f (a0.extract 0 ((ji3) : Int).toNat) (⟨#[45]⟩ : ByteArray)).bind fun t178 => (if (t177 == t178) = true then (numerarylaw12_ColourBack.j0 k (a0.extract 0 ((ji3) : Int).toNat) a1 t176 t177 true) else (if t177 = true then (numerarylaw12_ColourBack.j0 k (a0.extract 0 ((ji3) : Int).toNat) a1 t176 t177 false) else (numerarylaw12_ColourBack.j0 k (a0.extract 0 ((ji3) : Int).toNat) a1 t176 t177 (t176.toList != ([] : List UInt8)))))) = some r := H
      have A6 := Aside0.mk A60
      clear A60
      have HC7 := Aside0.mk H
      clear H
      go_enter Tryd.func5, Tryd.ntmps5
      go_upto_region 3 with (first | ((with_reducible refine gate_callee (f := 17) rfl ?_); refine goesL_ (some 18) rfl rfl Tryd.func17 (by kernel_rfl) rfl #[.string (a0.extract 0 ((ji3) : Int).toNat), .int .u32 a1] rfl (by (try simp only [List.map_toArray, List.map_cons, List.map_nil]); first | done | (simp only [hji3]; rfl) | rfl | (simp only [List.length_drop, List.length_take]; rfl)) ?_; (with_reducible refine (colour_Wallet.calls (a0.extract 0 ((ji3) : Int).toNat) a1 t176 t177 _ A6.out ?side1).mono ?_); (case side1 => exact LW.below HLW.out (by repeat (first | (with_reducible first | exact HB.out | apply below_alloc | apply pw_below_drewN | apply below_drew1) | exact HB.out))); rintro e w8 ⟨rfl, hb⟩; refine ⟨_, rfl, ?_⟩; have n0_ := Aside0.mk (below_step (by repeat (first | (with_reducible first | exact HB.out | apply below_alloc | apply pw_below_drewN | apply below_drew1) | exact HB.out)) hb); clear HB; have HB := n0_; clear n0_; (try clear hb); (try clear hb2); (try clear hk); (try clear hi)))
      (try simp only [Act.put, List.setIfInBounds_toArray, List.set_cons_zero, List.set_cons_succ])
      go_cut [32] (fun v32 wc => ∃ (kq : Nat) (x32_6 : Bool), v32 = .bool x32_6 ∧ Aside0 (numerarylaw12_ColourBack.j0 kq (a0.extract 0 ((ji3) : Int).toNat) a1 t176 t177 x32_6 = some r) ∧ Aside0 (kq ≤ k) ∧ Aside0 (Below w.heap.size w wc))
      case first =>
        have H := HC7.out
        clear HC7
        replace H := Option.bind_eq_some_iff.mp H
        obtain ⟨t178, A90, H⟩ := H
        replace H : (if (t177 == t178) = true then (numerarylaw12_ColourBack.j0 k (a0.extract 0 ((ji3) : Int).toNat) a1 t176 t177 true) else (if t177 = true then (numerarylaw12_ColourBack.j0 k (a0.extract 0 ((ji3) : Int).toNat) a1 t176 t177 false) else (numerarylaw12_ColourBack.j0 k (a0.extract 0 ((ji3) : Int).toNat) a1 t176 t177 (t176.toList != ([] : List UInt8))))) = some r := H
        have A9 := Aside0.mk A90
        clear A90
        by_cases c10 : (t177 == t178) = true
        · rw [if_pos c10] at H
          have c10b0 : (t177 == t178) = true := c10
          (try (have c10b1 : decide (t177 = t178) = true := by simpa using c10))
          (try (have c10b2 : (t177 == t178) = true := by simpa using c10))
          clear c10
          (first | rw [c10b0] | (simp only [i64_w, i32_w]; rw [c10b0]) | skip)
          have H' := Aside0.mk H
          clear H
          go_wp2_with (first | ((with_reducible refine gate_callee (f := 18) rfl ?_); refine goesL_ (some 23) rfl rfl Tryd.func18 (by kernel_rfl) rfl #[.string (a0.extract 0 ((ji3) : Int).toNat), .string (⟨#[45]⟩ : ByteArray)] rfl (by (try simp only [List.map_toArray, List.map_cons, List.map_nil]); first | done | (simp only [hji3]; rfl) | rfl | (simp only [List.length_drop, List.length_take]; rfl)) ?_; (with_reducible refine (strings_Contains.calls (a0.extract 0 ((ji3) : Int).toNat) (⟨#[45]⟩ : ByteArray) t178 _ A9.out ?side1).mono ?_); (case side1 => exact LW.below HLW.out (by repeat (first | (with_reducible first | exact HB.out | apply below_alloc | apply pw_below_drewN | apply below_drew1) | exact HB.out))); rintro e w' ⟨rfl, ⟨nd, rfl⟩⟩; refine ⟨_, rfl, ?_⟩))
          go_meet
          case rel => exact ⟨_, (true), (by first | rfl | (simp; done) | (simp [*]; done) | (simp only [isEmpty_ne, Bool.not_not]) | (simp only [isEmpty_ne])), H', ⟨by first | omega | exact Nat.le_refl _⟩, ⟨by repeat (first | (with_reducible first | exact HB.out | apply below_alloc | apply pw_below_drewN | apply below_drew1) | exact HB.out)⟩⟩
        · rw [if_neg c10] at H
          have c10b0 : (t177 == t178) = false := by simpa using c10
          (try (have c10b1 : decide (t177 = t178) = false := by simpa using c10))
          (try (have c10b2 : (t177 == t178) = false := by simpa using c10))
          (try (have c10b3 : ¬ (t177 = t178) := by simpa using c10))
          clear c10
          (first | rw [c10b0] | (simp only [i64_w, i32_w]; rw [c10b0]) | skip)
          by_cases c11 : t177 = true
          · subst c11
            have H1 : (numerarylaw12_ColourBack.j0 k (a0.extract 0 ((ji3) : Int).toNat) a1 t176 true false) = some r := by rw [if_pos rfl] at H; exact H
            clear H
            have H := H1
            clear H1
            have H' := Aside0.mk H
            clear H
            go_wp2_with (first | ((with_reducible refine gate_callee (f := 18) rfl ?_); refine goesL_ (some 23) rfl rfl Tryd.func18 (by kernel_rfl) rfl #[.string (a0.extract 0 ((ji3) : Int).toNat), .string (⟨#[45]⟩ : ByteArray)] rfl (by (try simp only [List.map_toArray, List.map_cons, List.map_nil]); first | done | (simp only [hji3]; rfl) | rfl | (simp only [List.length_drop, List.length_take]; rfl)) ?_; (with_reducible refine (strings_Contains.calls (a0.extract 0 ((ji3) : Int).toNat) (⟨#[45]⟩ : ByteArray) t178 _ A9.out ?side1).mono ?_); (case side1 => exact LW.below HLW.out (by repeat (first | (with_reducible first | exact HB.out | apply below_alloc | apply pw_below_drewN | apply below_drew1) | exact HB.out))); rintro e w' ⟨rfl, ⟨nd, rfl⟩⟩; refine ⟨_, rfl, ?_⟩))
            go_meet
            case rel => exact ⟨_, (false), (by first | rfl | (simp; done) | (simp [*]; done) | (simp only [isEmpty_ne, Bool.not_not]) | (simp only [isEmpty_ne])), H', ⟨by first | omega | exact Nat.le_refl _⟩, ⟨by repeat (first | (with_reducible first | exact HB.out | apply below_alloc | apply pw_below_drewN | apply below_drew1) | exact HB.out)⟩⟩
          · replace c11 := Bool.eq_false_iff.mpr c11
            subst c11
            have H1 : (numerarylaw12_ColourBack.j0 k (a0.extract 0 ((ji3) : Int).toNat) a1 t176 false (t176.toList != ([] : List UInt8))) = some r := by rw [if_neg (show ¬ (false = true) by decide)] at H; exact H
            clear H
            have H := H1
            clear H1
            have H' := Aside0.mk H
            clear H
            go_wp2_with (first | ((with_reducible refine gate_callee (f := 18) rfl ?_); refine goesL_ (some 23) rfl rfl Tryd.func18 (by kernel_rfl) rfl #[.string (a0.extract 0 ((ji3) : Int).toNat), .string (⟨#[45]⟩ : ByteArray)] rfl (by (try simp only [List.map_toArray, List.map_cons, List.map_nil]); first | done | (simp only [hji3]; rfl) | rfl | (simp only [List.length_drop, List.length_take]; rfl)) ?_; (with_reducible refine (strings_Contains.calls (a0.extract 0 ((ji3) : Int).toNat) (⟨#[45]⟩ : ByteArray) t178 _ A9.out ?side1).mono ?_); (case side1 => exact LW.below HLW.out (by repeat (first | (with_reducible first | exact HB.out | apply below_alloc | apply pw_below_drewN | apply below_drew1) | exact HB.out))); rintro e w' ⟨rfl, ⟨nd, rfl⟩⟩; refine ⟨_, rfl, ?_⟩))
            go_meet
            case rel => exact ⟨_, ((t176.toList != ([] : List UInt8))), (by first | rfl | (simp; done) | (simp [*]; done) | (simp only [isEmpty_ne, Bool.not_not]) | (simp only [isEmpty_ne])), H', ⟨by first | omega | exact Nat.le_refl _⟩, ⟨by repeat (first | (with_reducible first | exact HB.out | apply below_alloc | apply pw_below_drewN | apply below_drew1) | exact HB.out)⟩⟩
      case rest =>
        clear HC7
        try clear c1
        try clear p2
        try clear c4
        try clear c4b0
        try clear c4b1
        try clear c5
        try clear c5b0
        try clear c5b1
        try clear c10
        try clear c10b0
        try clear c10b1
        try clear c10b2
        try clear c11
        obtain ⟨kq, x32_6, rfl, HA, HJ6, HB⟩ := hcut
        cases kq with
        | zero => exact absurd HA.out (by simp [numerarylaw12_ColourBack.j0])
        | succ kj6 =>
          have H := HA.out
          clear HA
          simp only [numerarylaw12_ColourBack.j0] at H
          by_cases c12 : x32_6 = true
          · subst c12
            have H1 : (some false) = some r := by rw [if_pos rfl] at H; exact H
            clear H
            have H := H1
            clear H1
            obtain rfl := Option.some.inj H
            go_wp2
            go_ret
            exact ⟨by first | rfl | (simp [errW_none, errW_some] <;> rfl) | (simp only [← hji3]; first | rfl | (simp [errW_none, errW_some] <;> rfl)) | (simp [*, errW_none, errW_some] <;> rfl), by repeat (first | (with_reducible first | exact HB.out | apply below_alloc | apply pw_below_drewN | apply below_drew1) | exact HB.out)⟩
          · replace c12 := Bool.eq_false_iff.mpr c12
            subst c12
            have H1 : (if t177 = true then ((colour_Money.f t176).bind fun bt179 => ((numerarylaw12_wakes.f kj6).bind fun t182 => (if t182 = true then (if bt179.2.2 = true then (if bt179.1.toList = (a0.extract 0 ((ji3) : Int).toNat).toList then (some (bt179.2.1 == a1)) else (some false)) else (some false)) else (some false)))) else ((numerarylaw12_wakes.f kj6).bind fun t183 => (some t183))) = some r := by rw [if_neg (show ¬ (false = true) by decide)] at H; exact H
            clear H
            have H := H1
            clear H1
            by_cases c13 : t177 = true
            · subst c13
              have H1 : ((colour_Money.f t176).bind fun bt179 => ((numerarylaw12_wakes.f kj6).bind fun t182 => (if t182 = true then (if bt179.2.2 = true then (if bt179.1.toList = (a0.extract 0 ((ji3) : Int).toNat).toList then (some (bt179.2.1 == a1)) else (some false)) else (some false)) else (some false)))) = some r := by rw [if_pos rfl] at H; exact H
              clear H
              have H := H1
              clear H1
              replace H := Option.bind_eq_some_iff.mp H
              obtain ⟨⟨t179, t180, t181⟩, A140, H⟩ := H
              replace H : ((numerarylaw12_wakes.f kj6).bind fun t182 => (if t182 = true then (if t181 = true then (if t179.toList = (a0.extract 0 ((ji3) : Int).toNat).toList then (some (t180 == a1)) else (some false)) else (some false)) else (some false))) = some r := H
              have A14 := Aside0.mk A140
              clear A140
              replace H := Option.bind_eq_some_iff.mp H
              obtain ⟨t182, A150, H⟩ := H
              replace H : (if t182 = true then (if t181 = true then (if t179.toList = (a0.extract 0 ((ji3) : Int).toNat).toList then (some (t180 == a1)) else (some false)) else (some false)) else (some false)) = some r := H
              have A15 := Aside0.mk A150
              clear A150
              by_cases c16 : t182 = true
              · subst c16
                have H1 : (if t181 = true then (if t179.toList = (a0.extract 0 ((ji3) : Int).toNat).toList then (some (t180 == a1)) else (some false)) else (some false)) = some r := by rw [if_pos rfl] at H; exact H
                clear H
                have H := H1
                clear H1
                by_cases c17 : t181 = true
                · subst c17
                  have H1 : (if t179.toList = (a0.extract 0 ((ji3) : Int).toNat).toList then (some (t180 == a1)) else (some false)) = some r := by rw [if_pos rfl] at H; exact H
                  clear H
                  have H := H1
                  clear H1
                  by_cases c18 : t179.toList = (a0.extract 0 ((ji3) : Int).toNat).toList
                  · rw [if_pos c18] at H
                    have c18b0 : (t179.toList == (a0.extract 0 ((ji3) : Int).toNat).toList) = true := beq_iff_eq.mpr c18
                    have c18b1 : (t179.toList != (a0.extract 0 ((ji3) : Int).toNat).toList) = false := bne_eq_false_iff_eq.mpr c18
                    clear c18
                    obtain rfl := Option.some.inj H
                    go_wp2_with (first | ((with_reducible refine gate_callee (f := 15) rfl ?_); refine goesL_ (some 38) rfl rfl Tryd.func15 (by kernel_rfl) rfl #[.string t176] rfl (by (try simp only [List.map_toArray, List.map_cons, List.map_nil]); first | done | rfl | (simp only [List.length_drop, List.length_take]; rfl)) ?_; (with_reducible refine (colour_Money.calls t176 t179 t180 true _ A14.out ?side1).mono ?_); (case side1 => exact LW.below HLW.out (by repeat (first | (with_reducible first | exact HB.out | apply below_alloc | apply pw_below_drewN | apply below_drew1) | exact HB.out))); rintro e w19 ⟨rfl, hb⟩; refine ⟨_, rfl, ?_⟩; have n0_ := Aside0.mk (below_step (by repeat (first | (with_reducible first | exact HB.out | apply below_alloc | apply pw_below_drewN | apply below_drew1) | exact HB.out)) hb); clear HB; have HB := n0_; clear n0_; (try clear hb); (try clear hb2); (try clear hk); (try clear hi)) | ((with_reducible refine gate_callee (f := 12) rfl ?_); refine goesL_ (some 42) rfl rfl Tryd.func12 (by kernel_rfl) rfl #[] rfl (by (try simp only [List.map_toArray, List.map_cons, List.map_nil]); first | done | rfl | (simp only [List.length_drop, List.length_take]; rfl)) ?_; (with_reducible refine (numerarylaw12_wakes.calls kj6  true _ A15.out ?side1).mono ?_); (case side1 => exact LW.below HLW.out (by repeat (first | (with_reducible first | exact HB.out | apply below_alloc | apply pw_below_drewN | apply below_drew1) | exact HB.out))); rintro e w20 ⟨rfl, hb⟩; refine ⟨_, rfl, ?_⟩; have n0_ := Aside0.mk (below_step (by repeat (first | (with_reducible first | exact HB.out | apply below_alloc | apply pw_below_drewN | apply below_drew1) | exact HB.out)) hb); clear HB; have HB := n0_; clear n0_; (try clear hb); (try clear hb2); (try clear hk); (try clear hi)))
                    go_ret
                    exact ⟨by first | rfl | (simp [errW_none, errW_some] <;> rfl) | (simp only [← hji3]; first | rfl | (simp [errW_none, errW_some] <;> rfl)) | (simp [*, errW_none, errW_some] <;> rfl), by repeat (first | (with_reducible first | exact HB.out | apply below_alloc | apply pw_below_drewN | apply below_drew1) | exact HB.out)⟩
                  · rw [if_neg c18] at H
                    have c18b0 : (t179.toList == (a0.extract 0 ((ji3) : Int).toNat).toList) = false := beq_eq_false_iff_ne.mpr c18
                    have c18b1 : (t179.toList != (a0.extract 0 ((ji3) : Int).toNat).toList) = true := bne_iff_ne.mpr c18
                    obtain rfl := Option.some.inj H
                    go_wp2_with (first | ((with_reducible refine gate_callee (f := 15) rfl ?_); refine goesL_ (some 38) rfl rfl Tryd.func15 (by kernel_rfl) rfl #[.string t176] rfl (by (try simp only [List.map_toArray, List.map_cons, List.map_nil]); first | done | rfl | (simp only [List.length_drop, List.length_take]; rfl)) ?_; (with_reducible refine (colour_Money.calls t176 t179 t180 true _ A14.out ?side1).mono ?_); (case side1 => exact LW.below HLW.out (by repeat (first | (with_reducible first | exact HB.out | apply below_alloc | apply pw_below_drewN | apply below_drew1) | exact HB.out))); rintro e w21 ⟨rfl, hb⟩; refine ⟨_, rfl, ?_⟩; have n0_ := Aside0.mk (below_step (by repeat (first | (with_reducible first | exact HB.out | apply below_alloc | apply pw_below_drewN | apply below_drew1) | exact HB.out)) hb); clear HB; have HB := n0_; clear n0_; (try clear hb); (try clear hb2); (try clear hk); (try clear hi)) | ((with_reducible refine gate_callee (f := 12) rfl ?_); refine goesL_ (some 42) rfl rfl Tryd.func12 (by kernel_rfl) rfl #[] rfl (by (try simp only [List.map_toArray, List.map_cons, List.map_nil]); first | done | rfl | (simp only [List.length_drop, List.length_take]; rfl)) ?_; (with_reducible refine (numerarylaw12_wakes.calls kj6  true _ A15.out ?side1).mono ?_); (case side1 => exact LW.below HLW.out (by repeat (first | (with_reducible first | exact HB.out | apply below_alloc | apply pw_below_drewN | apply below_drew1) | exact HB.out))); rintro e w22 ⟨rfl, hb⟩; refine ⟨_, rfl, ?_⟩; have n0_ := Aside0.mk (below_step (by repeat (first | (with_reducible first | exact HB.out | apply below_alloc | apply pw_below_drewN | apply below_drew1) | exact HB.out)) hb); clear HB; have HB := n0_; clear n0_; (try clear hb); (try clear hb2); (try clear hk); (try clear hi)))
                    go_ret
                    exact ⟨by first | rfl | (simp [errW_none, errW_some] <;> rfl) | (simp only [← hji3]; first | rfl | (simp [errW_none, errW_some] <;> rfl)) | (simp [*, errW_none, errW_some] <;> rfl), by repeat (first | (with_reducible first | exact HB.out | apply below_alloc | apply pw_below_drewN | apply below_drew1) | exact HB.out)⟩
                · replace c17 := Bool.eq_false_iff.mpr c17
                  subst c17
                  have H1 : (some false) = some r := by rw [if_neg (show ¬ (false = true) by decide)] at H; exact H
                  clear H
                  have H := H1
                  clear H1
                  obtain rfl := Option.some.inj H
                  go_wp2_with (first | ((with_reducible refine gate_callee (f := 15) rfl ?_); refine goesL_ (some 38) rfl rfl Tryd.func15 (by kernel_rfl) rfl #[.string t176] rfl (by (try simp only [List.map_toArray, List.map_cons, List.map_nil]); first | done | rfl | (simp only [List.length_drop, List.length_take]; rfl)) ?_; (with_reducible refine (colour_Money.calls t176 t179 t180 false _ A14.out ?side1).mono ?_); (case side1 => exact LW.below HLW.out (by repeat (first | (with_reducible first | exact HB.out | apply below_alloc | apply pw_below_drewN | apply below_drew1) | exact HB.out))); rintro e w23 ⟨rfl, hb⟩; refine ⟨_, rfl, ?_⟩; have n0_ := Aside0.mk (below_step (by repeat (first | (with_reducible first | exact HB.out | apply below_alloc | apply pw_below_drewN | apply below_drew1) | exact HB.out)) hb); clear HB; have HB := n0_; clear n0_; (try clear hb); (try clear hb2); (try clear hk); (try clear hi)) | ((with_reducible refine gate_callee (f := 12) rfl ?_); refine goesL_ (some 42) rfl rfl Tryd.func12 (by kernel_rfl) rfl #[] rfl (by (try simp only [List.map_toArray, List.map_cons, List.map_nil]); first | done | rfl | (simp only [List.length_drop, List.length_take]; rfl)) ?_; (with_reducible refine (numerarylaw12_wakes.calls kj6  true _ A15.out ?side1).mono ?_); (case side1 => exact LW.below HLW.out (by repeat (first | (with_reducible first | exact HB.out | apply below_alloc | apply pw_below_drewN | apply below_drew1) | exact HB.out))); rintro e w24 ⟨rfl, hb⟩; refine ⟨_, rfl, ?_⟩; have n0_ := Aside0.mk (below_step (by repeat (first | (with_reducible first | exact HB.out | apply below_alloc | apply pw_below_drewN | apply below_drew1) | exact HB.out)) hb); clear HB; have HB := n0_; clear n0_; (try clear hb); (try clear hb2); (try clear hk); (try clear hi)))
                  go_ret
                  exact ⟨by first | rfl | (simp [errW_none, errW_some] <;> rfl) | (simp only [← hji3]; first | rfl | (simp [errW_none, errW_some] <;> rfl)) | (simp [*, errW_none, errW_some] <;> rfl), by repeat (first | (with_reducible first | exact HB.out | apply below_alloc | apply pw_below_drewN | apply below_drew1) | exact HB.out)⟩
              · replace c16 := Bool.eq_false_iff.mpr c16
                subst c16
                have H1 : (some false) = some r := by rw [if_neg (show ¬ (false = true) by decide)] at H; exact H
                clear H
                have H := H1
                clear H1
                obtain rfl := Option.some.inj H
                go_wp2_with (first | ((with_reducible refine gate_callee (f := 15) rfl ?_); refine goesL_ (some 38) rfl rfl Tryd.func15 (by kernel_rfl) rfl #[.string t176] rfl (by (try simp only [List.map_toArray, List.map_cons, List.map_nil]); first | done | rfl | (simp only [List.length_drop, List.length_take]; rfl)) ?_; (with_reducible refine (colour_Money.calls t176 t179 t180 t181 _ A14.out ?side1).mono ?_); (case side1 => exact LW.below HLW.out (by repeat (first | (with_reducible first | exact HB.out | apply below_alloc | apply pw_below_drewN | apply below_drew1) | exact HB.out))); rintro e w25 ⟨rfl, hb⟩; refine ⟨_, rfl, ?_⟩; have n0_ := Aside0.mk (below_step (by repeat (first | (with_reducible first | exact HB.out | apply below_alloc | apply pw_below_drewN | apply below_drew1) | exact HB.out)) hb); clear HB; have HB := n0_; clear n0_; (try clear hb); (try clear hb2); (try clear hk); (try clear hi)) | ((with_reducible refine gate_callee (f := 12) rfl ?_); refine goesL_ (some 42) rfl rfl Tryd.func12 (by kernel_rfl) rfl #[] rfl (by (try simp only [List.map_toArray, List.map_cons, List.map_nil]); first | done | rfl | (simp only [List.length_drop, List.length_take]; rfl)) ?_; (with_reducible refine (numerarylaw12_wakes.calls kj6  false _ A15.out ?side1).mono ?_); (case side1 => exact LW.below HLW.out (by repeat (first | (with_reducible first | exact HB.out | apply below_alloc | apply pw_below_drewN | apply below_drew1) | exact HB.out))); rintro e w26 ⟨rfl, hb⟩; refine ⟨_, rfl, ?_⟩; have n0_ := Aside0.mk (below_step (by repeat (first | (with_reducible first | exact HB.out | apply below_alloc | apply pw_below_drewN | apply below_drew1) | exact HB.out)) hb); clear HB; have HB := n0_; clear n0_; (try clear hb); (try clear hb2); (try clear hk); (try clear hi)))
                go_ret
                exact ⟨by first | rfl | (simp [errW_none, errW_some] <;> rfl) | (simp only [← hji3]; first | rfl | (simp [errW_none, errW_some] <;> rfl)) | (simp [*, errW_none, errW_some] <;> rfl), by repeat (first | (with_reducible first | exact HB.out | apply below_alloc | apply pw_below_drewN | apply below_drew1) | exact HB.out)⟩
            · replace c13 := Bool.eq_false_iff.mpr c13
              subst c13
              have H1 : ((numerarylaw12_wakes.f kj6).bind fun t183 => (some t183)) = some r := by rw [if_neg (show ¬ (false = true) by decide)] at H; exact H
              clear H
              have H := H1
              clear H1
              replace H := Option.bind_eq_some_iff.mp H
              obtain ⟨t183, A270, H⟩ := H
              replace H : (some t183) = some r := H
              have A27 := Aside0.mk A270
              clear A270
              obtain rfl := Option.some.inj H
              go_wp2_with (first | ((with_reducible refine gate_callee (f := 12) rfl ?_); refine goesL_ (some 35) rfl rfl Tryd.func12 (by kernel_rfl) rfl #[] rfl (by (try simp only [List.map_toArray, List.map_cons, List.map_nil]); first | done | rfl | (simp only [List.length_drop, List.length_take]; rfl)) ?_; (with_reducible refine (numerarylaw12_wakes.calls kj6  t183 _ A27.out ?side1).mono ?_); (case side1 => exact LW.below HLW.out (by repeat (first | (with_reducible first | exact HB.out | apply below_alloc | apply pw_below_drewN | apply below_drew1) | exact HB.out))); rintro e w28 ⟨rfl, hb⟩; refine ⟨_, rfl, ?_⟩; have n0_ := Aside0.mk (below_step (by repeat (first | (with_reducible first | exact HB.out | apply below_alloc | apply pw_below_drewN | apply below_drew1) | exact HB.out)) hb); clear HB; have HB := n0_; clear n0_; (try clear hb); (try clear hb2); (try clear hk); (try clear hi)))
              go_ret
              exact ⟨by first | rfl | (simp [errW_none, errW_some] <;> rfl) | (simp only [← hji3]; first | rfl | (simp [errW_none, errW_some] <;> rfl)) | (simp [*, errW_none, errW_some] <;> rfl), by repeat (first | (with_reducible first | exact HB.out | apply below_alloc | apply pw_below_drewN | apply below_drew1) | exact HB.out)⟩
    · rw [if_neg c5] at H
      exact absurd H (by simp)
  · rw [if_neg c4] at H
    exact absurd H (by simp)

/-- THE ONE PURE STATEMENT of numerarylaw12_ColourBack: yours. -/
def numerarylaw12_ColourBack.Pure : Prop := ∀ (a0 : ByteArray) (a1 : Int), a0.size ≤ 140737488351232 → (Lit.int .u32 a1).wf = true → ∃ k, numerarylaw12_ColourBack.f k a0 a1 = some true
theorem numerarylaw12_ColourBack.walk (P : numerarylaw12_ColourBack.Pure) (a0 : ByteArray) (a1 : Int) (w : World) (w0 : a0.size ≤ 140737488351232) (w1 : (Lit.int .u32 a1).wf = true) (HLW_ : LW w) :
    Calls Tryd.prog 5 #[.string a0, .int .u32 a1] w fun e w' => e = .returned (.bool true) ∧ Below w.heap.size w w' := by
  obtain ⟨k, h⟩ := P a0 a1 w0 w1
  refine (numerarylaw12_ColourBack.calls k a0 a1 true w h HLW_).mono ?_
  rintro e w' ⟨rfl, hd⟩
  exact ⟨rfl, hd⟩

end Go.Proofs.YtcdpjohbnfkmiaaDoor.P
