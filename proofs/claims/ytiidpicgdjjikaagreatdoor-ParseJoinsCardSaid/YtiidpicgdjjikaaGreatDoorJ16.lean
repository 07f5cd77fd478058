import Derived.Test.YtiidpicgdjjikaaGreatDoorJ15
namespace Go.Proofs.YtiidpicgdjjikaaGreatDoor.G
open Go.RowKit Go.Lib Go.Proofs Go.Proofs.YtiidpicgdjjikaaGreatDoorW.PrintWords Go.Proofs.YtiidpicgdjjikaaGreatDoorW.PrintLast Go.Proofs.YtiidpicgdjjikaaGreatDoorW.PrintMore
set_option linter.unusedVariables false
set_option linter.unusedSimpArgs false

def mRest (a0 : ByteArray) : ByteArray := ⟨(Lib.trimPrefix a0.data.toList [36]).toArray⟩
def mHas (a0 : ByteArray) : Bool := Lib.hasPrefix a0.data.toList [36]
def mName (r : ByteArray) : ByteArray := ⟨(Lib.cut r.data.toList [45]).1.toArray⟩
def mHex (r : ByteArray) : ByteArray := ⟨(Lib.cut r.data.toList [45]).2.1.toArray⟩
def mDash (r : ByteArray) : Bool := (Lib.cut r.data.toList [45]).2.2
def colour_Money.f (a0 : ByteArray) : Option (ByteArray × Int × Bool) :=
  if mHas a0 = true then
    if (mRest a0).size < 4294967281 then
      if mDash (mRest a0) = true then
        if (mHex (mRest a0)).size < 4294967281 then
          if (pr16 (mHex (mRest a0))).1 = 0 then
            if 8 < (mHex (mRest a0)).size then some (⟨#[]⟩, 0, false)
            else if asciiB (mHex (mRest a0)) = true then
              if Lib.containsAny (mHex (mRest a0)).data.toList [95, 43] = true then some (⟨#[]⟩, 0, false)
              else some (mName (mRest a0), IntKind.u32.wrap (pr16 (mHex (mRest a0))).2, true)
            else none
          else some (⟨#[]⟩, 0, false)
        else none
      else some (mName (mRest a0), 0, true)
    else none
  else some (⟨#[]⟩, 0, false)

set_option maxHeartbeats 8000000 in
set_option maxRecDepth 1000000 in
theorem colour_Money.calls (a0 : ByteArray) (r1 : ByteArray) (r2 : Int) (r3 : Bool) (w : World) (h : colour_Money.f a0 = some (r1, r2, r3)) (HLW_ : LW w) :
    Calls Tryz.prog 111 #[.string a0] w fun e w' => e = .returned (.tuple #[.string r1, .int .u32 r2, .bool r3]) ∧ Below w.heap.size w w' := by
  have cP : Calls Tryz.prog 133 #[.string a0, .string ⟨#[36]⟩] w fun e w' => e = .returned (.tuple #[.string (mRest a0), .bool (mHas a0)]) ∧ w' = w := Tryz.strings_CutPrefix a0 ⟨#[36]⟩ w
  have HLW := Aside0.mk HLW_
  clear HLW_
  unfold colour_Money.f at h
  by_cases h1 : mHas a0 = true
  · rw [if_pos h1] at h
    rw [h1] at cP
    clear h1
    generalize mRest a0 = R at h cP
    by_cases h2 : R.size < 4294967281
    · rw [if_pos h2] at h
      have cC : ∀ W : World, LW W → Calls Tryz.prog 134 #[.string R, .string ⟨#[45]⟩] W fun e w' => e = .returned (.tuple #[.string (mName R), .string (mHex R), .bool (mDash R)]) ∧ ∃ n, w' = W.drewN n := by
        intro W hW
        obtain ⟨m, hm⟩ := hW.maxlen
        exact Tryz.strings_Cut R ⟨#[45]⟩ m W h2 hm
      have cC0 := cC w HLW.out
      clear cC
      by_cases h3 : mDash R = true
      · rw [if_pos h3] at h
        rw [h3] at cC0
        clear h3
        generalize mHex R = X at h cC0
        generalize mName R = Y at h cC0
        by_cases h4 : X.size < 4294967281
        · rw [if_pos h4] at h
          have hl : ∀ n, LW (w.drewN n) := fun n => HLW.out.drewN
          by_cases h5 : (pr16 X).1 = 0
          · rw [if_pos h5] at h
            have cU : ∀ n, Calls Tryz.prog 138 #[.string X, .int .i64 16, .int .i64 32] (w.drewN n) fun e w' => e = .returned (.tuple #[.int .u64 (pr16 X).2, .nilIface]) ∧ Below (w.drewN n).heap.size (w.drewN n) w' := fun n => parseUint16_ok X (w.drewN n) (by omega) h5
            generalize (pr16 X).2 = V at h cU
            have CU := Aside0.mk cU
            have HL := Aside0.mk hl
            clear cU hl h5
            by_cases h6 : 8 < X.size
            · rw [if_pos h6] at h
              simp only [Option.some.injEq, Prod.mk.injEq] at h
              obtain ⟨rfl, rfl, rfl⟩ := h
              have hb6 : decide (8 < X.size) = true := decide_eq_true h6
              go_enter Tryz.func111, Tryz.ntmps111
              go_wp2_with (first | (go_at_call 133; refine cP.mono ?_; rintro e w' ⟨rfl, rfl⟩) | (go_at_call 134; refine cC0.mono ?_; rintro e w' ⟨rfl, n, rfl⟩) | (go_at_call 138; refine (CU.out _).mono ?_; rintro e w' ⟨rfl, hb⟩))
              go_ret3
              exact ⟨rfl, (pw_below_drewN (Below.refl _ _) _).trans (hb.mono (by simp))⟩
            · rw [if_neg h6] at h
              have hb6 : decide (8 < X.size) = false := decide_eq_false h6
              by_cases h7 : asciiB X = true
              · rw [if_pos h7] at h
                have cA : ∀ W : World, Calls Tryz.prog 139 #[.string X, .string ⟨#[95, 43]⟩] W fun e w' => e = .returned (.bool (Lib.containsAny X.data.toList [95, 43])) ∧ Below W.heap.size W w' := fun W => Tryz.strings_ContainsAny_laid X ⟨#[95, 43]⟩ W h4 (by decide) (asciiB_at h7) (asciiB_at (by decide))
                clear h7
                by_cases h8 : Lib.containsAny X.data.toList [95, 43] = true
                · rw [if_pos h8] at h
                  simp only [Option.some.injEq, Prod.mk.injEq] at h
                  obtain ⟨rfl, rfl, rfl⟩ := h
                  rw [h8] at cA
                  have CA := Aside0.mk cA
                  clear cA h8
                  go_enter Tryz.func111, Tryz.ntmps111
                  go_wp2_with (first | (go_at_call 133; refine cP.mono ?_; rintro e w' ⟨rfl, rfl⟩) | (go_at_call 134; refine cC0.mono ?_; rintro e w' ⟨rfl, n, rfl⟩) | (go_at_call 138; refine (CU.out _).mono ?_; rintro e w' ⟨rfl, hb⟩) | (go_at_call 139; refine (CA.out _).mono ?_; rintro e w3 ⟨rfl, hb2⟩))
                  go_ret3
                  exact ⟨rfl, ((pw_below_drewN (Below.refl _ _) _).trans (hb.mono (by simp))).trans (hb2.mono (Nat.le_trans (by simp) hb.size))⟩
                · rw [if_neg h8] at h
                  simp only [Option.some.injEq, Prod.mk.injEq] at h
                  obtain ⟨rfl, rfl, rfl⟩ := h
                  rw [Bool.not_eq_true] at h8
                  rw [h8] at cA
                  have CA := Aside0.mk cA
                  clear cA h8
                  go_enter Tryz.func111, Tryz.ntmps111
                  go_wp2_with (first | (go_at_call 133; refine cP.mono ?_; rintro e w' ⟨rfl, rfl⟩) | (go_at_call 134; refine cC0.mono ?_; rintro e w' ⟨rfl, n, rfl⟩) | (go_at_call 138; refine (CU.out _).mono ?_; rintro e w' ⟨rfl, hb⟩) | (go_at_call 139; refine (CA.out _).mono ?_; rintro e w3 ⟨rfl, hb2⟩))
                  go_ret3
                  exact ⟨rfl, ((pw_below_drewN (Below.refl _ _) _).trans (hb.mono (by simp))).trans (hb2.mono (Nat.le_trans (by simp) hb.size))⟩
              · rw [if_neg h7] at h
                cases h
          · rw [if_neg h5] at h
            simp only [Option.some.injEq, Prod.mk.injEq] at h
            obtain ⟨rfl, rfl, rfl⟩ := h
            have cU : ∀ n, Calls Tryz.prog 138 #[.string X, .int .i64 16, .int .i64 32] (w.drewN n) fun e w' => ∃ v T p, e = .returned (.tuple #[.int .u64 v, .iface T p]) ∧ Below (w.drewN n).heap.size (w.drewN n) w' := fun n => parseUint16_bad X (w.drewN n) (by omega) h5 (hl n)
            have CU := Aside0.mk cU
            clear cU hl h5
            go_enter Tryz.func111, Tryz.ntmps111
            go_wp2_with (first | (go_at_call 133; refine cP.mono ?_; rintro e w' ⟨rfl, rfl⟩) | (go_at_call 134; refine cC0.mono ?_; rintro e w' ⟨rfl, n, rfl⟩) | (go_at_call 138; refine (CU.out _).mono ?_; rintro e w' ⟨v, T, p, rfl, hb⟩))
            go_ret3
            exact ⟨rfl, (pw_below_drewN (Below.refl _ _) _).trans (hb.mono (by simp))⟩
        · rw [if_neg h4] at h
          cases h
      · rw [if_neg h3] at h
        simp only [Option.some.injEq, Prod.mk.injEq] at h
        obtain ⟨rfl, rfl, rfl⟩ := h
        rw [Bool.not_eq_true] at h3
        rw [h3] at cC0
        clear h3
        go_enter Tryz.func111, Tryz.ntmps111
        go_wp2_with (first | (go_at_call 133; refine cP.mono ?_; rintro e w' ⟨rfl, rfl⟩) | (go_at_call 134; refine cC0.mono ?_; rintro e w' ⟨rfl, n, rfl⟩))
        go_ret3
        exact ⟨rfl, by repeat (first | exact Below.refl _ _ | apply pw_below_drewN | apply below_drew1)⟩
    · rw [if_neg h2] at h
      cases h
  · rw [if_neg h1] at h
    simp only [Option.some.injEq, Prod.mk.injEq] at h
    obtain ⟨rfl, rfl, rfl⟩ := h
    rw [Bool.not_eq_true] at h1
    rw [h1] at cP
    clear h1
    go_enter Tryz.func111, Tryz.ntmps111
    go_wp2_with (go_at_call 133; refine cP.mono ?_; rintro e w' ⟨rfl, rfl⟩)
    go_ret3
    exact ⟨rfl, Below.refl _ _⟩
end Go.Proofs.YtiidpicgdjjikaaGreatDoor.G
