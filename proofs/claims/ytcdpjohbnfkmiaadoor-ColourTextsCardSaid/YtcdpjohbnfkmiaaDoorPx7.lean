-- of this claim: by a program of this session's own over the kit's print
import Derived.Test.YtcdpjohbnfkmiaaDoorPx0
import Derived.Test.YtcdpjohbnfkmiaaDoorGL
import Derived.Test.YtcdpjohbnfkmiaaDoorGC
import Derived.Test.YtcdpjohbnfkmiaaDoorGLow
import Derived.Test.YtcdpjohbnfkmiaaDoorGMoney
import Derived.Test.YtcdpjohbnfkmiaaDoorGFu
namespace Go.Proofs.YtcdpjohbnfkmiaaDoor.P
open Go.RowKit Go.Proofs.YtcdpjohbnfkmiaaDoor.G Go.Proofs.YtcdpjohbnfkmiaaDoorW.PrintWords Go.Proofs.YtcdpjohbnfkmiaaDoorW.PrintLast Go.Proofs.YtcdpjohbnfkmiaaDoorW.PrintMore
attribute [local go_sem] max2_int min2_int max_two min_two max_three min_three max_four min_four   -- for this text's walks alone
set_option linter.unusedVariables false
set_option linter.unusedSimpArgs false

/-! ### colour_Wallet: function 17 -/
def colour_Wallet.f (a0 : ByteArray) (a1 : Int) : Option (ByteArray × Bool) := (strings_Contains.f a0 (⟨#[45]⟩ : ByteArray)).bind fun t129 => (if t129 = true then (some ((⟨#[]⟩ : ByteArray), false)) else (if 1 + a0.size ≤ 9223372036854775807 then (if a1 = 0 then (some ((⟨#[36]⟩ : ByteArray) ++ a0, true)) else ((strconv_FormatUint.f (IntKind.u64.wrap (a1)) 16).bind fun t130 => ((strings_ToUpper.f t130).bind fun t131 => (if 1 + t131.size ≤ 9223372036854775807 then (if ((⟨#[36]⟩ : ByteArray) ++ a0).size + ((⟨#[45]⟩ : ByteArray) ++ t131).size ≤ 9223372036854775807 then (some (((⟨#[36]⟩ : ByteArray) ++ a0) ++ ((⟨#[45]⟩ : ByteArray) ++ t131), true)) else (none)) else (none))))) else (none)))
set_option maxHeartbeats 8000000 in
set_option maxRecDepth 100000 in
theorem colour_Wallet.calls (a0 : ByteArray) (a1 : Int) (r1 : ByteArray) (r2 : Bool) (w : World) (h : colour_Wallet.f a0 a1 = some (r1, r2)) (HLW_ : LW w) :
    Calls Tryd.prog 17 #[.string a0, .int .u32 a1] w fun e w' => e = .returned (.tuple #[.string r1, .bool r2]) ∧ Below w.heap.size w w' := by
  have HLW := Aside0.mk HLW_
  clear HLW_
  have HB := Aside0.mk (Below.refl w.heap.size w)
  have H : ((strings_Contains.f a0 (⟨#[45]⟩ : ByteArray)).bind fun t129 => (if t129 = true then (some ((⟨#[]⟩ : ByteArray), false)) else (if 1 + a0.size ≤ 9223372036854775807 then (if a1 = 0 then (some ((⟨#[36]⟩ : ByteArray) ++ a0, true)) else ((strconv_FormatUint.f (IntKind.u64.wrap (a1)) 16).bind fun t130 => ((strings_ToUpper.f t130).bind fun t131 => (if 1 + t131.size ≤ 9223372036854775807 then (if ((⟨#[36]⟩ : ByteArray) ++ a0).size + ((⟨#[45]⟩ : ByteArray) ++ t131).size ≤ 9223372036854775807 then (some (((⟨#[36]⟩ : ByteArray) ++ a0) ++ ((⟨#[45]⟩ : ByteArray) ++ t131), true)) else (none)) else (none))))) else (none)))) = some (r1, r2) := h
  clear h
  replace H := Option.bind_eq_some_iff.mp H
  obtain ⟨t129, A30, H⟩ := H
  replace H : (if t129 = true then (some ((⟨#[]⟩ : ByteArray), false)) else (if 1 + a0.size ≤ 9223372036854775807 then (if a1 = 0 then (some ((⟨#[36]⟩ : ByteArray) ++ a0, true)) else ((strconv_FormatUint.f (IntKind.u64.wrap (a1)) 16).bind fun t130 => ((strings_ToUpper.f t130).bind fun t131 => (if 1 + t131.size ≤ 9223372036854775807 then (if ((⟨#[36]⟩ : ByteArray) ++ a0).size + ((⟨#[45]⟩ : ByteArray) ++ t131).size ≤ 9223372036854775807 then (some (((⟨#[36]⟩ : ByteArray) ++ a0) ++ ((⟨#[45]⟩ : ByteArray) ++ t131), true)) else (none)) else (none))))) else (none))) = some (r1, r2) := H
  have A3 := Aside0.mk A30
  clear A30
  by_cases c4 : t129 = true
  · subst c4
    have H1 : (some ((⟨#[]⟩ : ByteArray), false)) = some (r1, r2) := by rw [if_pos rfl] at H; exact H
    clear H
    have H := H1
    clear H1
    simp only [Option.some.injEq, Prod.mk.injEq] at H
    obtain ⟨rfl, rfl⟩ := H
    go_enter Tryd.func17, Tryd.ntmps17
    go_wp2_with (first | ((with_reducible refine gate_callee (f := 18) rfl ?_); refine goesL_ (some 8) rfl rfl Tryd.func18 (by kernel_rfl) rfl #[.string a0, .string (⟨#[45]⟩ : ByteArray)] rfl (by (try simp only [List.map_toArray, List.map_cons, List.map_nil]); first | done | rfl | (simp only [List.length_drop, List.length_take]; rfl)) ?_; (with_reducible refine (strings_Contains.calls a0 (⟨#[45]⟩ : ByteArray) true _ A3.out ?side1).mono ?_); (case side1 => exact LW.below HLW.out (by repeat (first | (with_reducible first | exact HB.out | apply below_alloc | apply pw_below_drewN | apply below_drew1) | exact HB.out))); rintro e w' ⟨rfl, ⟨nd, rfl⟩⟩; refine ⟨_, rfl, ?_⟩))
    go_ret2
    exact ⟨by first | rfl | (simp [errW_none, errW_some] <;> rfl) | (simp [*, errW_none, errW_some] <;> rfl), by repeat (first | (with_reducible first | exact HB.out | apply below_alloc | apply pw_below_drewN | apply below_drew1) | exact HB.out)⟩
  · replace c4 := Bool.eq_false_iff.mpr c4
    subst c4
    have H1 : (if 1 + a0.size ≤ 9223372036854775807 then (if a1 = 0 then (some ((⟨#[36]⟩ : ByteArray) ++ a0, true)) else ((strconv_FormatUint.f (IntKind.u64.wrap (a1)) 16).bind fun t130 => ((strings_ToUpper.f t130).bind fun t131 => (if 1 + t131.size ≤ 9223372036854775807 then (if ((⟨#[36]⟩ : ByteArray) ++ a0).size + ((⟨#[45]⟩ : ByteArray) ++ t131).size ≤ 9223372036854775807 then (some (((⟨#[36]⟩ : ByteArray) ++ a0) ++ ((⟨#[45]⟩ : ByteArray) ++ t131), true)) else (none)) else (none))))) else (none)) = some (r1, r2) := by rw [if_neg (show ¬ (false = true) by decide)] at H; exact H
    clear H
    have H := H1
    clear H1
    by_cases c5 : 1 + a0.size ≤ 9223372036854775807
    · rw [if_pos c5] at H
      have c5b0 := eq_true c5
      have c5b1 : decide (1 + a0.size ≤ 9223372036854775807) = true := decide_eq_true c5
      try have c5b2 : (9223372036854775807 < 1 + a0.size) = False := eq_false (Nat.not_lt.2 c5)
      by_cases c6 : a1 = 0
      · rw [if_pos c6] at H
        have c6b0 : (a1 == 0) = true := beq_iff_eq.mpr c6
        have c6b1 : (a1 != 0) = false := bne_eq_false_iff_eq.mpr c6
        clear c6
        simp only [Option.some.injEq, Prod.mk.injEq] at H
        obtain ⟨rfl, rfl⟩ := H
        go_enter Tryd.func17, Tryd.ntmps17
        go_wp2_with (first | ((with_reducible refine gate_callee (f := 18) rfl ?_); refine goesL_ (some 8) rfl rfl Tryd.func18 (by kernel_rfl) rfl #[.string a0, .string (⟨#[45]⟩ : ByteArray)] rfl (by (try simp only [List.map_toArray, List.map_cons, List.map_nil]); first | done | rfl | (simp only [List.length_drop, List.length_take]; rfl)) ?_; (with_reducible refine (strings_Contains.calls a0 (⟨#[45]⟩ : ByteArray) false _ A3.out ?side1).mono ?_); (case side1 => exact LW.below HLW.out (by repeat (first | (with_reducible first | exact HB.out | apply below_alloc | apply pw_below_drewN | apply below_drew1) | exact HB.out))); rintro e w' ⟨rfl, ⟨nd, rfl⟩⟩; refine ⟨_, rfl, ?_⟩))
        go_ret2
        exact ⟨by first | rfl | (simp [errW_none, errW_some] <;> rfl) | (simp [*, errW_none, errW_some] <;> rfl), by repeat (first | (with_reducible first | exact HB.out | apply below_alloc | apply pw_below_drewN | apply below_drew1) | exact HB.out)⟩
      · rw [if_neg c6] at H
        have c6b0 : (a1 == 0) = false := beq_eq_false_iff_ne.mpr c6
        have c6b1 : (a1 != 0) = true := bne_iff_ne.mpr c6
        replace H := Option.bind_eq_some_iff.mp H
        obtain ⟨t130, A70, H⟩ := H
        replace H : ((strings_ToUpper.f t130).bind fun t131 => (if 1 + t131.size ≤ 9223372036854775807 then (if ((⟨#[36]⟩ : ByteArray) ++ a0).size + ((⟨#[45]⟩ : ByteArray) ++ t131).size ≤ 9223372036854775807 then (some (((⟨#[36]⟩ : ByteArray) ++ a0) ++ ((⟨#[45]⟩ : ByteArray) ++ t131), true)) else (none)) else (none))) = some (r1, r2) := H
        have A7 := Aside0.mk A70
        clear A70
        replace H := Option.bind_eq_some_iff.mp H
        obtain ⟨t131, A80, H⟩ := H
        replace H : (if 1 + t131.size ≤ 9223372036854775807 then (if ((⟨#[36]⟩ : ByteArray) ++ a0).size + ((⟨#[45]⟩ : ByteArray) ++ t131).size ≤ 9223372036854775807 then (some (((⟨#[36]⟩ : ByteArray) ++ a0) ++ ((⟨#[45]⟩ : ByteArray) ++ t131), true)) else (none)) else (none)) = some (r1, r2) := H
        have A8 := Aside0.mk A80
        clear A80
        by_cases c9 : 1 + t131.size ≤ 9223372036854775807
        · rw [if_pos c9] at H
          have c9b0 := eq_true c9
          have c9b1 : decide (1 + t131.size ≤ 9223372036854775807) = true := decide_eq_true c9
          try have c9b2 : (9223372036854775807 < 1 + t131.size) = False := eq_false (Nat.not_lt.2 c9)
          by_cases c10 : ((⟨#[36]⟩ : ByteArray) ++ a0).size + ((⟨#[45]⟩ : ByteArray) ++ t131).size ≤ 9223372036854775807
          · rw [if_pos c10] at H
            have c10b0 := eq_true c10
            have c10b1 : decide (((⟨#[36]⟩ : ByteArray) ++ a0).size + ((⟨#[45]⟩ : ByteArray) ++ t131).size ≤ 9223372036854775807) = true := decide_eq_true c10
            try have c10b2 : (9223372036854775807 < ((⟨#[36]⟩ : ByteArray) ++ a0).size + ((⟨#[45]⟩ : ByteArray) ++ t131).size) = False := eq_false (Nat.not_lt.2 c10)
            simp only [Option.some.injEq, Prod.mk.injEq] at H
            obtain ⟨rfl, rfl⟩ := H
            go_enter Tryd.func17, Tryd.ntmps17
            go_wp2_with (first | ((with_reducible refine gate_callee (f := 18) rfl ?_); refine goesL_ (some 8) rfl rfl Tryd.func18 (by kernel_rfl) rfl #[.string a0, .string (⟨#[45]⟩ : ByteArray)] rfl (by (try simp only [List.map_toArray, List.map_cons, List.map_nil]); first | done | rfl | (simp only [List.length_drop, List.length_take]; rfl)) ?_; (with_reducible refine (strings_Contains.calls a0 (⟨#[45]⟩ : ByteArray) false _ A3.out ?side1).mono ?_); (case side1 => exact LW.below HLW.out (by repeat (first | (with_reducible first | exact HB.out | apply below_alloc | apply pw_below_drewN | apply below_drew1) | exact HB.out))); rintro e w' ⟨rfl, ⟨nd, rfl⟩⟩; refine ⟨_, rfl, ?_⟩) | ((with_reducible refine gate_callee (f := 38) rfl ?_); refine goesL_ (some 16) rfl rfl Tryd.func38 (by kernel_rfl) rfl #[.int .u64 (IntKind.u64.wrap (a1)), .int .i64 16] rfl (by (try simp only [List.map_toArray, List.map_cons, List.map_nil]); first | done | rfl | (simp only [List.length_drop, List.length_take]; rfl)) ?_; (with_reducible refine (strconv_FormatUint.calls (IntKind.u64.wrap (a1)) 16 t130 _ A7.out ?side1).mono ?_); (case side1 => exact LW.below HLW.out (by repeat (first | (with_reducible first | exact HB.out | apply below_alloc | apply pw_below_drewN | apply below_drew1) | exact HB.out))); rintro e w11 ⟨rfl, hb⟩; refine ⟨_, rfl, ?_⟩; have n0_ := Aside0.mk (below_step (by repeat (first | (with_reducible first | exact HB.out | apply below_alloc | apply pw_below_drewN | apply below_drew1) | exact HB.out)) hb); clear HB; have HB := n0_; clear n0_; (try clear hb); (try clear hb2); (try clear hk); (try clear hi)) | ((with_reducible refine gate_callee (f := 11) rfl ?_); refine goesL_ (some 17) rfl rfl Tryd.func11 (by kernel_rfl) rfl #[.string t130] rfl (by (try simp only [List.map_toArray, List.map_cons, List.map_nil]); first | done | rfl | (simp only [List.length_drop, List.length_take]; rfl)) ?_; (with_reducible refine (strings_ToUpper.calls t130 t131 _ A8.out ?side1).mono ?_); (case side1 => exact LW.below HLW.out (by repeat (first | (with_reducible first | exact HB.out | apply below_alloc | apply pw_below_drewN | apply below_drew1) | exact HB.out))); rintro e w12 ⟨rfl, hb⟩; refine ⟨_, rfl, ?_⟩; have n0_ := Aside0.mk (below_step (by repeat (first | (with_reducible first | exact HB.out | apply below_alloc | apply pw_below_drewN | apply below_drew1) | exact HB.out)) hb); clear HB; have HB := n0_; clear n0_; (try clear hb); (try clear hb2); (try clear hk); (try clear hi)))
            go_ret2
            exact ⟨by first | rfl | (simp [errW_none, errW_some] <;> rfl) | (simp [*, errW_none, errW_some] <;> rfl), by repeat (first | (with_reducible first | exact HB.out | apply below_alloc | apply pw_below_drewN | apply below_drew1) | exact HB.out)⟩
          · rw [if_neg c10] at H
            exact absurd H (by simp)
        · rw [if_neg c9] at H
          exact absurd H (by simp)
    · rw [if_neg c5] at H
      exact absurd H (by simp)

end Go.Proofs.YtcdpjohbnfkmiaaDoor.P
