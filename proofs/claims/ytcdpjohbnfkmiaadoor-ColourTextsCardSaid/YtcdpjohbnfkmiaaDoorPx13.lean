-- of this claim: by a program of this session's own over the kit's print
import Derived.Test.YtcdpjohbnfkmiaaDoorPx0
import Derived.Test.YtcdpjohbnfkmiaaDoorPx6
import Derived.Test.YtcdpjohbnfkmiaaDoorPx8
import Derived.Test.YtcdpjohbnfkmiaaDoorPx10
import Derived.Test.YtcdpjohbnfkmiaaDoorPx12
import Derived.Test.YtcdpjohbnfkmiaaDoorGL
import Derived.Test.YtcdpjohbnfkmiaaDoorGC
import Derived.Test.YtcdpjohbnfkmiaaDoorGLow
import Derived.Test.YtcdpjohbnfkmiaaDoorGMoney
import Derived.Test.YtcdpjohbnfkmiaaDoorGFu
namespace Go.Proofs.YtcdpjohbnfkmiaaDoor.P
open Go.RowKit Go.Proofs.YtcdpjohbnfkmiaaDoor.G Go.Proofs.YtcdpjohbnfkmiaaDoorW.PrintWords Go.Proofs.YtcdpjohbnfkmiaaDoorW.PrintLast Go.Proofs.YtcdpjohbnfkmiaaDoorW.PrintMore
attribute [local go_sem] max2_int min2_int max_two min_two max_three min_three max_four min_four   -- for this text's walks alone
set_option linter.unusedVariables false
set_option linter.unusedSimpArgs false

/-! ### numerarylaw12_ColourTexts: function 4 -/
def numerarylaw12_ColourTexts.l0 : Nat → List ByteArray → Int → Int → Option (Bool)
  | 0, _, _, _ => none
  | k + 1, x27, x28, x29 => if x29 < x28 then (if 0 ≤ x29 then (if x29 < (x27.length : Int) then ((colour_Elapsed.f (rdOf ByteArray.empty x27 x29)).bind fun bt164 => ((numeraryref12_Elapsed.f k (rdOf ByteArray.empty x27 x29)).bind fun bt167 => ((colour_Money.f (rdOf ByteArray.empty x27 x29)).bind fun bt170 => ((numeraryref12_Money.f k (rdOf ByteArray.empty x27 x29)).bind fun bt173 => (if bt164.1.toList = bt167.1.toList then (if bt164.2.1 = bt167.2.1 then (if (bt164.2.2 != bt167.2.2) = true then (some false) else (if bt170.1.toList = bt173.1.toList then (if bt170.2.1 = bt173.2.1 then (if (bt170.2.2 != bt173.2.2) = true then (some false) else (numerarylaw12_ColourTexts.l0 k x27 x28 (wrap64 (x29 + 1)))) else (some false)) else (some false))) else (some false)) else (some false)))))) else (none)) else (none)) else ((numerarylaw12_wakes.f k).bind fun t162 => (some t162))
def numerarylaw12_ColourTexts.f (k : Nat) (a0 : ByteArray) : Option (Bool) := if 0 ≤ (mn (a0.size : Int) 40) then (if (mn (a0.size : Int) 40) ≤ (a0.size : Int) then (if 1 + (a0.extract 0 ((mn (a0.size : Int) 40) : Int).toNat).size ≤ 9223372036854775807 then (if 3 + (a0.extract 0 ((mn (a0.size : Int) 40) : Int).toNat).size ≤ 9223372036854775807 then ((some (([a0.extract 0 ((mn (a0.size : Int) 40) : Int).toNat, (⟨#[36]⟩ : ByteArray) ++ (a0.extract 0 ((mn (a0.size : Int) 40) : Int).toNat), (⟨#[36, 120, 45]⟩ : ByteArray) ++ (a0.extract 0 ((mn (a0.size : Int) 40) : Int).toNat)] : List ByteArray) : List ByteArray)).bind fun y159 => (numerarylaw12_ColourTexts.l0 k y159 (y159.length : Int) 0)) else (none)) else (none)) else (none)) else (none)
theorem numerarylaw12_ColourTexts.mono_l : ∀ k, (∀ y0 y1 y2, LeO (numerarylaw12_ColourTexts.l0 k y0 y1 y2) (numerarylaw12_ColourTexts.l0 (k + 1) y0 y1 y2))
  | 0 => fun _ _ _ r h => by simp [numerarylaw12_ColourTexts.l0] at h
  | k + 1 => by
    have ih0 := numerarylaw12_ColourTexts.mono_l k
    · intro y0 y1 y2
      unfold numerarylaw12_ColourTexts.l0
      repeat' first
      | (with_reducible exact ih0 _ _ _)
      | (with_reducible exact numerarylaw12_wakes.mono _)
      | (with_reducible exact numeraryref12_Elapsed.mono _ _)
      | (with_reducible exact numeraryref12_Money.mono _ _)
      | (with_reducible exact LeO.refl _)
      | (with_reducible exact LeO.none _)
      | (with_reducible refine LeO.ite ?_ ?_)
      | (with_reducible refine LeO.bind ?_ (fun _ => ?_))
      | exact ih0 _ _ _
      | exact numerarylaw12_wakes.mono _
      | exact numeraryref12_Elapsed.mono _ _
      | exact numeraryref12_Money.mono _ _
      | exact LeO.none _
      | refine LeO.ite ?_ ?_
      | refine LeO.bind ?_ (fun _ => ?_)
theorem numerarylaw12_ColourTexts.mono : ∀ a0 k, LeO (numerarylaw12_ColourTexts.f k a0) (numerarylaw12_ColourTexts.f (k + 1) a0) := by
  intro a0 k
  have ih0 := numerarylaw12_ColourTexts.mono_l k
  unfold numerarylaw12_ColourTexts.f
  repeat' first
      | (with_reducible exact ih0 _ _ _)
      | (with_reducible exact numerarylaw12_wakes.mono _)
      | (with_reducible exact numeraryref12_Elapsed.mono _ _)
      | (with_reducible exact numeraryref12_Money.mono _ _)
      | (with_reducible exact LeO.refl _)
      | (with_reducible exact LeO.none _)
      | (with_reducible refine LeO.ite ?_ ?_)
      | (with_reducible refine LeO.bind ?_ (fun _ => ?_))
      | exact ih0 _ _ _
      | exact numerarylaw12_wakes.mono _
      | exact numeraryref12_Elapsed.mono _ _
      | exact numeraryref12_Money.mono _ _
      | exact LeO.none _
      | refine LeO.ite ?_ ?_
      | refine LeO.bind ?_ (fun _ => ?_)
set_option maxHeartbeats 8000000 in
set_option maxRecDepth 100000 in
theorem numerarylaw12_ColourTexts.calls (k : Nat) (a0 : ByteArray) (r : Bool) (w : World) (h : numerarylaw12_ColourTexts.f k a0 = some r) (HLW_ : LW w) :
    Calls Tryd.prog 4 #[.string a0] w fun e w' => e = .returned (.bool r) ∧ Below w.heap.size w w' := by
  have HLW := Aside0.mk HLW_
  clear HLW_
  have HB := Aside0.mk (Below.refl w.heap.size w)
  have H : (if 0 ≤ (mn (a0.size : Int) 40) then (if (mn (a0.size : Int) 40) ≤ (a0.size : Int) then (if 1 + (a0.extract 0 ((mn (a0.size : Int) 40) : Int).toNat).size ≤ 9223372036854775807 then (if 3 + (a0.extract 0 ((mn (a0.size : Int) 40) : Int).toNat).size ≤ 9223372036854775807 then ((some (([a0.extract 0 ((mn (a0.size : Int) 40) : Int).toNat, (⟨#[36]⟩ : ByteArray) ++ (a0.extract 0 ((mn (a0.size : Int) 40) : Int).toNat), (⟨#[36, 120, 45]⟩ : ByteArray) ++ (a0.extract 0 ((mn (a0.size : Int) 40) : Int).toNat)] : List ByteArray) : List ByteArray)).bind fun y159 => (numerarylaw12_ColourTexts.l0 k y159 (y159.length : Int) 0)) else (none)) else (none)) else (none)) else (none)) = some r := h
  clear h
  obtain ⟨ji2, hji2⟩ : ∃ j_ : Int, (mn (a0.size : Int) 40) = j_ := ⟨_, rfl⟩
  replace H : (if 0 ≤ (ji2) then (if (ji2) ≤ (a0.size : Int) then (if 1 + (a0.extract 0 ((ji2) : Int).toNat).size ≤ 9223372036854775807 then (if 3 + (a0.extract 0 ((ji2) : Int).toNat).size ≤ 9223372036854775807 then ((some (([a0.extract 0 ((ji2) : Int).toNat, (⟨#[36]⟩ : ByteArray) ++ (a0.extract 0 ((ji2) : Int).toNat), (⟨#[36, 120, 45]⟩ : ByteArray) ++ (a0.extract 0 ((ji2) : Int).toNat)] : List ByteArray) : List ByteArray)).bind fun y159 => (numerarylaw12_ColourTexts.l0 k y159 (y159.length : Int) 0)) else (none)) else (none)) else (none)) else (none)) = some r := by first | (rw [hji2] at H; exact H) | (simp only [hji2] at H ⊢; exact H)
  (try (have hji2h : ji2 ≤ 40 := by (rw [← hji2]; unfold mn; (repeat' split) <;> omega)))
  (try (have hji2g : ji2 ≤ 64 := by omega))
  (try (have hji2l : 0 ≤ ji2 := by (rw [← hji2]; unfold mn; (repeat' split) <;> omega)))
  (try (have hji2m : 0 ≤ ji2 := by omega))
  have hji2_ : (if 40 < (a0.size : Int) then 40 else (a0.size : Int)) = ji2 := hji2
  by_cases c3 : 0 ≤ (ji2)
  · rw [if_pos c3] at H
    have c3b0 := eq_true c3
    have c3b1 : decide (0 ≤ (ji2)) = true := decide_eq_true c3
    clear c3
    by_cases c4 : (ji2) ≤ (a0.size : Int)
    · rw [if_pos c4] at H
      have c4b0 := eq_true c4
      have c4b1 : decide ((ji2) ≤ (a0.size : Int)) = true := decide_eq_true c4
      clear c4
      by_cases c5 : 1 + (a0.extract 0 ((ji2) : Int).toNat).size ≤ 9223372036854775807
      · rw [if_pos c5] at H
        have c5b0 := eq_true c5
        have c5b1 : decide (1 + (a0.extract 0 ((ji2) : Int).toNat).size ≤ 9223372036854775807) = true := decide_eq_true c5
        try have c5b2 : (9223372036854775807 < 1 + (a0.extract 0 ((ji2) : Int).toNat).size) = False := eq_false (Nat.not_lt.2 c5)
        by_cases c6 : 3 + (a0.extract 0 ((ji2) : Int).toNat).size ≤ 9223372036854775807
        · rw [if_pos c6] at H
          have c6b0 := eq_true c6
          have c6b1 : decide (3 + (a0.extract 0 ((ji2) : Int).toNat).size ≤ 9223372036854775807) = true := decide_eq_true c6
          try have c6b2 : (9223372036854775807 < 3 + (a0.extract 0 ((ji2) : Int).toNat).size) = False := eq_false (Nat.not_lt.2 c6)
          obtain ⟨y159, hy159⟩ : ∃ y_ : List ByteArray, y_ = (([a0.extract 0 ((ji2) : Int).toNat, (⟨#[36]⟩ : ByteArray) ++ (a0.extract 0 ((ji2) : Int).toNat), (⟨#[36, 120, 45]⟩ : ByteArray) ++ (a0.extract 0 ((ji2) : Int).toNat)] : List ByteArray)) := ⟨_, rfl⟩
          replace H : (numerarylaw12_ColourTexts.l0 k y159 (y159.length : Int) 0) = some r := by first | (rw [hy159]; with_reducible exact H) | (have H2_ := (Option.bind_some _ _).symm.trans H; rw [hy159]; with_reducible exact H2_) | (have H2_ := (Option.bind_some _ _).symm.trans H; with_reducible exact H2_) | with_reducible exact H | (rw [hy159]; exact H) | exact H
          have Ny159 := Aside0.mk hy159
          clear hy159
          have H' := Aside0.mk H
          clear H
          go_enter Tryd.func4, Tryd.ntmps4
          go_wp2_with (first | ((with_reducible refine gate_dst (N := 27) rfl ?_); refine Kd.R_lit Kd.string _ 9 ?hg (N := 27) ?hd (xs := ([a0.extract 0 ((ji2) : Int).toNat, (⟨#[36]⟩ : ByteArray) ++ (a0.extract 0 ((ji2) : Int).toNat), (⟨#[36, 120, 45]⟩ : ByteArray) ++ (a0.extract 0 ((ji2) : Int).toNat)] : List ByteArray)) (inner := [.string (a0.extract 0 ((ji2) : Int).toNat), .string ((⟨#[36]⟩ : ByteArray) ++ (a0.extract 0 ((ji2) : Int).toNat)), .string ((⟨#[36, 120, 45]⟩ : ByteArray) ++ (a0.extract 0 ((ji2) : Int).toNat))]) (ok := fun _ => True) (okp := fun _ => True) ?hr ?hp (fun _ hk => hk) trivial (Below.refl _ _) (Nat.le_refl _) (by simp) ?_; (case hd => rfl); (case hg => rfl); (case hr => first | (go_simp; done) | (go_simp; rfl)); (case hp => exact (Reps.one (show Kd.M Kd.string _ _ _ (a0.extract 0 ((ji2) : Int).toNat) [.string (a0.extract 0 ((ji2) : Int).toNat)] from rfl) (Reps.one (show Kd.M Kd.string _ _ _ ((⟨#[36]⟩ : ByteArray) ++ (a0.extract 0 ((ji2) : Int).toNat)) [.string ((⟨#[36]⟩ : ByteArray) ++ (a0.extract 0 ((ji2) : Int).toNat))] from rfl) (Reps.one (show Kd.M Kd.string _ _ _ ((⟨#[36, 120, 45]⟩ : ByteArray) ++ (a0.extract 0 ((ji2) : Int).toNat)) [.string ((⟨#[36, 120, 45]⟩ : ByteArray) ++ (a0.extract 0 ((ji2) : Int).toNat))] from rfl) (Reps.none _ _))))); intro v160 w7 ho8 hb hg_ hnew_; clear hg_ hnew_; (first | rw [← Ny159.out] at ho8 | (simp only [Int.reduceToNat] at ho8; rw [← Ny159.out] at ho8)); have n0_ := Aside0.mk (Kd.R_lower ho8 (below_size (by repeat (first | (with_reducible first | exact HB.out | apply below_alloc | apply pw_below_drewN | apply below_drew1) | exact HB.out)))); have n1_ := Aside0.mk (below_step (by repeat (first | (with_reducible first | exact HB.out | apply below_alloc | apply pw_below_drewN | apply below_drew1) | exact HB.out)) hb); clear HB; have HO161 := n0_; have HB := n1_; clear n0_ n1_; clear hb ho8; obtain ⟨Ao9, co9, eo9⟩ := Kd.R_slice HO161.out; subst eo9))
          go_loopg [29] k (fun kq v29 w' => ∃ (x29_1 : Int), v29 = .int .i64 x29_1 ∧ Aside0 (numerarylaw12_ColourTexts.l0 kq y159 (y159.length : Int) x29_1 = some r) ∧ Aside0 (kq ≤ k) ∧ Aside0 (Kd.R Kd.string 9 w' w.heap.size (fun _ => True) (.slice Ao9 y159.length co9) y159) ∧ Aside0 (Below w.heap.size w w'))
          case atStart => exact ⟨(0), (by first | rfl | (simp; done) | (simp [*]; done) | (simp only [isEmpty_ne, Bool.not_not]) | (simp only [isEmpty_ne])), H', ⟨Nat.le_refl _⟩, ⟨by (with_reducible repeat (first | apply Kd.R_alloc | apply Kd.R_drewN | apply Kd.R_drew)); exact HO161.out⟩, ⟨by repeat (first | (with_reducible first | exact HB.out | apply below_alloc | apply pw_below_drewN | apply below_drew1) | exact HB.out)⟩⟩
          case round =>
            clear H'
            try clear p2
            try clear c3
            try clear c3b0
            try clear c3b1
            try clear c4
            try clear c4b0
            try clear c4b1
            try clear c5
            try clear c5b0
            try clear c5b1
            try clear c5b2
            try clear c6
            try clear c6b0
            try clear c6b1
            try clear c6b2
            obtain ⟨x29_1, rfl, HA, HK1, HO_27, HB⟩ := hrel
            cases gk with
            | zero => exact absurd HA.out (by simp [numerarylaw12_ColourTexts.l0])
            | succ k1 =>
              have H := HA.out
              clear HA
              simp only [numerarylaw12_ColourTexts.l0] at H
              by_cases c10 : x29_1 < (y159.length : Int)
              · rw [if_pos c10] at H
                have c10b0 : decide (x29_1 < (y159.length : Int)) = true := decide_eq_true c10
                clear c10
                by_cases c11 : 0 ≤ x29_1
                · rw [if_pos c11] at H
                  have c11b0 : decide (0 ≤ x29_1) = true := decide_eq_true c11
                  clear c11
                  by_cases c12 : x29_1 < (y159.length : Int)
                  · rw [if_pos c12] at H
                    have c12b0 : decide (x29_1 < (y159.length : Int)) = true := decide_eq_true c12
                    clear c12
                    replace H := Option.bind_eq_some_iff.mp H
                    obtain ⟨⟨t164, t165, t166⟩, A130, H⟩ := H
                    replace H : ((numeraryref12_Elapsed.f k1 (rdOf ByteArray.empty y159 x29_1)).bind fun bt167 => ((colour_Money.f (rdOf ByteArray.empty y159 x29_1)).bind fun bt170 => ((numeraryref12_Money.f k1 (rdOf ByteArray.empty y159 x29_1)).bind fun bt173 => (if t164.toList = bt167.1.toList then (if t165 = bt167.2.1 then (if (t166 != bt167.2.2) = true then (some false) else (if bt170.1.toList = bt173.1.toList then (if bt170.2.1 = bt173.2.1 then (if (bt170.2.2 != bt173.2.2) = true then (some false) else (numerarylaw12_ColourTexts.l0 k1 y159 (y159.length : Int) (wrap64 (x29_1 + 1)))) else (some false)) else (some false))) else (some false)) else (some false))))) = some r := H
                    have A13 := Aside0.mk A130
                    clear A130
                    replace H := Option.bind_eq_some_iff.mp H
                    obtain ⟨⟨t167, t168, t169⟩, A140, H⟩ := H
                    replace H : ((colour_Money.f (rdOf ByteArray.empty y159 x29_1)).bind fun bt170 => ((numeraryref12_Money.f k1 (rdOf ByteArray.empty y159 x29_1)).bind fun bt173 => (if t164.toList = t167.toList then (if t165 = t168 then (if (t166 != t169) = true then (some false) else (if bt170.1.toList = bt173.1.toList then (if bt170.2.1 = bt173.2.1 then (if (bt170.2.2 != bt173.2.2) = true then (some false) else (numerarylaw12_ColourTexts.l0 k1 y159 (y159.length : Int) (wrap64 (x29_1 + 1)))) else (some false)) else (some false))) else (some false)) else (some false)))) = some r := H
                    have A14 := Aside0.mk A140
                    clear A140
                    replace H := Option.bind_eq_some_iff.mp H
                    obtain ⟨⟨t170, t171, t172⟩, A150, H⟩ := H
                    replace H : ((numeraryref12_Money.f k1 (rdOf ByteArray.empty y159 x29_1)).bind fun bt173 => (if t164.toList = t167.toList then (if t165 = t168 then (if (t166 != t169) = true then (some false) else (if t170.toList = bt173.1.toList then (if t171 = bt173.2.1 then (if (t172 != bt173.2.2) = true then (some false) else (numerarylaw12_ColourTexts.l0 k1 y159 (y159.length : Int) (wrap64 (x29_1 + 1)))) else (some false)) else (some false))) else (some false)) else (some false))) = some r := H
                    have A15 := Aside0.mk A150
                    clear A150
                    replace H := Option.bind_eq_some_iff.mp H
                    obtain ⟨⟨t173, t174, t175⟩, A160, H⟩ := H
                    replace H : (if t164.toList = t167.toList then (if t165 = t168 then (if (t166 != t169) = true then (some false) else (if t170.toList = t173.toList then (if t171 = t174 then (if (t172 != t175) = true then (some false) else (numerarylaw12_ColourTexts.l0 k1 y159 (y159.length : Int) (wrap64 (x29_1 + 1)))) else (some false)) else (some false))) else (some false)) else (some false)) = some r := H
                    have A16 := Aside0.mk A160
                    clear A160
                    by_cases c17 : t164.toList = t167.toList
                    · rw [if_pos c17] at H
                      have c17b0 : (t164.toList == t167.toList) = true := beq_iff_eq.mpr c17
                      have c17b1 : (t164.toList != t167.toList) = false := bne_eq_false_iff_eq.mpr c17
                      clear c17
                      by_cases c18 : t165 = t168
                      · rw [if_pos c18] at H
                        have c18b0 : (t165 == t168) = true := beq_iff_eq.mpr c18
                        have c18b1 : (t165 != t168) = false := bne_eq_false_iff_eq.mpr c18
                        clear c18
                        by_cases c19 : (t166 != t169) = true
                        · rw [if_pos c19] at H
                          have c19b0 : (t166 != t169) = true := c19
                          (try (have c19b1 : decide (t166 = t169) = false := by simpa using c19))
                          (try (have c19b2 : (t166 == t169) = false := by simpa using c19))
                          (try (have c19b3 : ¬ (t166 = t169) := by simpa using c19))
                          clear c19
                          obtain rfl := Option.some.inj H
                          have p163 : 0 ≤ (x29_1 : Int) := of_decide_eq_true (by first | (with_reducible assumption) | assumption)
                          have q163 : x29_1 < (y159.length : Int) := of_decide_eq_true (by first | (with_reducible assumption) | assumption)
                          obtain ⟨ad163, e163, hx163_0⟩ := Kd.at_string (Kd.R_reads' HO_27.out).2.2 x29_1 p163 q163
                          cases e163
                          replace p163 := eq_true p163
                          replace q163 := eq_true q163
                          go_wp2_with (first | ((with_reducible refine gate_callee (f := 13) rfl ?_); refine goesL_ (some 35) rfl rfl Tryd.func13 (by kernel_rfl) rfl #[.string (rdOf ByteArray.empty y159 x29_1)] rfl (by (try simp only [List.map_toArray, List.map_cons, List.map_nil]); first | done | rfl | (simp only [List.length_drop, List.length_take]; rfl)) ?_; (with_reducible refine (colour_Elapsed.calls (rdOf ByteArray.empty y159 x29_1) t164 t165 t166 _ A13.out ?side1).mono ?_); (case side1 => exact LW.below HLW.out (by repeat (first | (with_reducible first | exact HB.out | apply below_alloc | apply pw_below_drewN | apply below_drew1) | exact HB.out))); rintro e w20 ⟨rfl, hb⟩; refine ⟨_, rfl, ?_⟩; have n0_ := Aside0.mk (Kd.R_below (by (with_reducible repeat (first | apply Kd.R_alloc | apply Kd.R_drewN | apply Kd.R_drew)); exact HO_27.out) hb); have n1_ := Aside0.mk (below_step (by repeat (first | (with_reducible first | exact HB.out | apply below_alloc | apply pw_below_drewN | apply below_drew1) | exact HB.out)) hb); clear HO_27; clear HB; have HO_27 := n0_; have HB := n1_; clear n0_ n1_; (try clear hb); (try clear hb2); (try clear hk); (try clear hi)) | ((with_reducible refine gate_callee (f := 14) rfl ?_); refine goesL_ (some 41) rfl rfl Tryd.func14 (by kernel_rfl) rfl #[.string (rdOf ByteArray.empty y159 x29_1)] rfl (by (try simp only [List.map_toArray, List.map_cons, List.map_nil]); first | done | rfl | (simp only [List.length_drop, List.length_take]; rfl)) ?_; (with_reducible refine (numeraryref12_Elapsed.calls k1 (rdOf ByteArray.empty y159 x29_1) t167 t168 t169 _ A14.out).mono ?_); rintro e w21 ⟨rfl, hb⟩; refine ⟨_, rfl, ?_⟩; have n0_ := Aside0.mk (Kd.R_below (by (with_reducible repeat (first | apply Kd.R_alloc | apply Kd.R_drewN | apply Kd.R_drew)); exact HO_27.out) hb); have n1_ := Aside0.mk (below_step (by repeat (first | (with_reducible first | exact HB.out | apply below_alloc | apply pw_below_drewN | apply below_drew1) | exact HB.out)) hb); clear HO_27; clear HB; have HO_27 := n0_; have HB := n1_; clear n0_ n1_; (try clear hb); (try clear hb2); (try clear hk); (try clear hi)) | ((with_reducible refine gate_callee (f := 15) rfl ?_); refine goesL_ (some 47) rfl rfl Tryd.func15 (by kernel_rfl) rfl #[.string (rdOf ByteArray.empty y159 x29_1)] rfl (by (try simp only [List.map_toArray, List.map_cons, List.map_nil]); first | done | rfl | (simp only [List.length_drop, List.length_take]; rfl)) ?_; (with_reducible refine (colour_Money.calls (rdOf ByteArray.empty y159 x29_1) t170 t171 t172 _ A15.out ?side1).mono ?_); (case side1 => exact LW.below HLW.out (by repeat (first | (with_reducible first | exact HB.out | apply below_alloc | apply pw_below_drewN | apply below_drew1) | exact HB.out))); rintro e w22 ⟨rfl, hb⟩; refine ⟨_, rfl, ?_⟩; have n0_ := Aside0.mk (Kd.R_below (by (with_reducible repeat (first | apply Kd.R_alloc | apply Kd.R_drewN | apply Kd.R_drew)); exact HO_27.out) hb); have n1_ := Aside0.mk (below_step (by repeat (first | (with_reducible first | exact HB.out | apply below_alloc | apply pw_below_drewN | apply below_drew1) | exact HB.out)) hb); clear HO_27; clear HB; have HO_27 := n0_; have HB := n1_; clear n0_ n1_; (try clear hb); (try clear hb2); (try clear hk); (try clear hi)) | ((with_reducible refine gate_callee (f := 16) rfl ?_); refine goesL_ (some 53) rfl rfl Tryd.func16 (by kernel_rfl) rfl #[.string (rdOf ByteArray.empty y159 x29_1)] rfl (by (try simp only [List.map_toArray, List.map_cons, List.map_nil]); first | done | rfl | (simp only [List.length_drop, List.length_take]; rfl)) ?_; (with_reducible refine (numeraryref12_Money.calls k1 (rdOf ByteArray.empty y159 x29_1) t173 t174 t175 _ A16.out).mono ?_); rintro e w' ⟨rfl, ⟨nd, rfl⟩⟩; refine ⟨_, rfl, ?_⟩))
                          go_ret
                          exact ⟨by first | rfl | (simp [errW_none, errW_some] <;> rfl) | (simp only [← hji2]; first | rfl | (simp [errW_none, errW_some] <;> rfl)) | (simp [*, errW_none, errW_some] <;> rfl), by repeat (first | (with_reducible first | exact HB.out | apply below_alloc | apply pw_below_drewN | apply below_drew1) | exact HB.out)⟩
                        · rw [if_neg c19] at H
                          have c19b0 : (t166 != t169) = false := by simpa using c19
                          (try (have c19b1 : decide (t166 = t169) = true := by simpa using c19))
                          (try (have c19b2 : (t166 == t169) = true := by simpa using c19))
                          clear c19
                          by_cases c23 : t170.toList = t173.toList
                          · rw [if_pos c23] at H
                            have c23b0 : (t170.toList == t173.toList) = true := beq_iff_eq.mpr c23
                            have c23b1 : (t170.toList != t173.toList) = false := bne_eq_false_iff_eq.mpr c23
                            clear c23
                            by_cases c24 : t171 = t174
                            · rw [if_pos c24] at H
                              have c24b0 : (t171 == t174) = true := beq_iff_eq.mpr c24
                              have c24b1 : (t171 != t174) = false := bne_eq_false_iff_eq.mpr c24
                              clear c24
                              by_cases c25 : (t172 != t175) = true
                              · rw [if_pos c25] at H
                                have c25b0 : (t172 != t175) = true := c25
                                (try (have c25b1 : decide (t172 = t175) = false := by simpa using c25))
                                (try (have c25b2 : (t172 == t175) = false := by simpa using c25))
                                (try (have c25b3 : ¬ (t172 = t175) := by simpa using c25))
                                clear c25
                                obtain rfl := Option.some.inj H
                                have p163 : 0 ≤ (x29_1 : Int) := of_decide_eq_true (by first | (with_reducible assumption) | assumption)
                                have q163 : x29_1 < (y159.length : Int) := of_decide_eq_true (by first | (with_reducible assumption) | assumption)
                                obtain ⟨ad163, e163, hx163_0⟩ := Kd.at_string (Kd.R_reads' HO_27.out).2.2 x29_1 p163 q163
                                cases e163
                                replace p163 := eq_true p163
                                replace q163 := eq_true q163
                                go_wp2_with (first | ((with_reducible refine gate_callee (f := 13) rfl ?_); refine goesL_ (some 35) rfl rfl Tryd.func13 (by kernel_rfl) rfl #[.string (rdOf ByteArray.empty y159 x29_1)] rfl (by (try simp only [List.map_toArray, List.map_cons, List.map_nil]); first | done | rfl | (simp only [List.length_drop, List.length_take]; rfl)) ?_; (with_reducible refine (colour_Elapsed.calls (rdOf ByteArray.empty y159 x29_1) t164 t165 t166 _ A13.out ?side1).mono ?_); (case side1 => exact LW.below HLW.out (by repeat (first | (with_reducible first | exact HB.out | apply below_alloc | apply pw_below_drewN | apply below_drew1) | exact HB.out))); rintro e w26 ⟨rfl, hb⟩; refine ⟨_, rfl, ?_⟩; have n0_ := Aside0.mk (Kd.R_below (by (with_reducible repeat (first | apply Kd.R_alloc | apply Kd.R_drewN | apply Kd.R_drew)); exact HO_27.out) hb); have n1_ := Aside0.mk (below_step (by repeat (first | (with_reducible first | exact HB.out | apply below_alloc | apply pw_below_drewN | apply below_drew1) | exact HB.out)) hb); clear HO_27; clear HB; have HO_27 := n0_; have HB := n1_; clear n0_ n1_; (try clear hb); (try clear hb2); (try clear hk); (try clear hi)) | ((with_reducible refine gate_callee (f := 14) rfl ?_); refine goesL_ (some 41) rfl rfl Tryd.func14 (by kernel_rfl) rfl #[.string (rdOf ByteArray.empty y159 x29_1)] rfl (by (try simp only [List.map_toArray, List.map_cons, List.map_nil]); first | done | rfl | (simp only [List.length_drop, List.length_take]; rfl)) ?_; (with_reducible refine (numeraryref12_Elapsed.calls k1 (rdOf ByteArray.empty y159 x29_1) t167 t168 t169 _ A14.out).mono ?_); rintro e w27 ⟨rfl, hb⟩; refine ⟨_, rfl, ?_⟩; have n0_ := Aside0.mk (Kd.R_below (by (with_reducible repeat (first | apply Kd.R_alloc | apply Kd.R_drewN | apply Kd.R_drew)); exact HO_27.out) hb); have n1_ := Aside0.mk (below_step (by repeat (first | (with_reducible first | exact HB.out | apply below_alloc | apply pw_below_drewN | apply below_drew1) | exact HB.out)) hb); clear HO_27; clear HB; have HO_27 := n0_; have HB := n1_; clear n0_ n1_; (try clear hb); (try clear hb2); (try clear hk); (try clear hi)) | ((with_reducible refine gate_callee (f := 15) rfl ?_); refine goesL_ (some 47) rfl rfl Tryd.func15 (by kernel_rfl) rfl #[.string (rdOf ByteArray.empty y159 x29_1)] rfl (by (try simp only [List.map_toArray, List.map_cons, List.map_nil]); first | done | rfl | (simp only [List.length_drop, List.length_take]; rfl)) ?_; (with_reducible refine (colour_Money.calls (rdOf ByteArray.empty y159 x29_1) t170 t171 t172 _ A15.out ?side1).mono ?_); (case side1 => exact LW.below HLW.out (by repeat (first | (with_reducible first | exact HB.out | apply below_alloc | apply pw_below_drewN | apply below_drew1) | exact HB.out))); rintro e w28 ⟨rfl, hb⟩; refine ⟨_, rfl, ?_⟩; have n0_ := Aside0.mk (Kd.R_below (by (with_reducible repeat (first | apply Kd.R_alloc | apply Kd.R_drewN | apply Kd.R_drew)); exact HO_27.out) hb); have n1_ := Aside0.mk (below_step (by repeat (first | (with_reducible first | exact HB.out | apply below_alloc | apply pw_below_drewN | apply below_drew1) | exact HB.out)) hb); clear HO_27; clear HB; have HO_27 := n0_; have HB := n1_; clear n0_ n1_; (try clear hb); (try clear hb2); (try clear hk); (try clear hi)) | ((with_reducible refine gate_callee (f := 16) rfl ?_); refine goesL_ (some 53) rfl rfl Tryd.func16 (by kernel_rfl) rfl #[.string (rdOf ByteArray.empty y159 x29_1)] rfl (by (try simp only [List.map_toArray, List.map_cons, List.map_nil]); first | done | rfl | (simp only [List.length_drop, List.length_take]; rfl)) ?_; (with_reducible refine (numeraryref12_Money.calls k1 (rdOf ByteArray.empty y159 x29_1) t173 t174 t175 _ A16.out).mono ?_); rintro e w' ⟨rfl, ⟨nd, rfl⟩⟩; refine ⟨_, rfl, ?_⟩))
                                go_ret
                                exact ⟨by first | rfl | (simp [errW_none, errW_some] <;> rfl) | (simp only [← hji2]; first | rfl | (simp [errW_none, errW_some] <;> rfl)) | (simp [*, errW_none, errW_some] <;> rfl), by repeat (first | (with_reducible first | exact HB.out | apply below_alloc | apply pw_below_drewN | apply below_drew1) | exact HB.out)⟩
                              · rw [if_neg c25] at H
                                have c25b0 : (t172 != t175) = false := by simpa using c25
                                (try (have c25b1 : decide (t172 = t175) = true := by simpa using c25))
                                (try (have c25b2 : (t172 == t175) = true := by simpa using c25))
                                clear c25
                                have H' := Aside0.mk H
                                clear H
                                have p163 : 0 ≤ (x29_1 : Int) := of_decide_eq_true (by first | (with_reducible assumption) | assumption)
                                have q163 : x29_1 < (y159.length : Int) := of_decide_eq_true (by first | (with_reducible assumption) | assumption)
                                obtain ⟨ad163, e163, hx163_0⟩ := Kd.at_string (Kd.R_reads' HO_27.out).2.2 x29_1 p163 q163
                                cases e163
                                replace p163 := eq_true p163
                                replace q163 := eq_true q163
                                go_wp2_with (first | ((with_reducible refine gate_callee (f := 13) rfl ?_); refine goesL_ (some 35) rfl rfl Tryd.func13 (by kernel_rfl) rfl #[.string (rdOf ByteArray.empty y159 x29_1)] rfl (by (try simp only [List.map_toArray, List.map_cons, List.map_nil]); first | done | rfl | (simp only [List.length_drop, List.length_take]; rfl)) ?_; (with_reducible refine (colour_Elapsed.calls (rdOf ByteArray.empty y159 x29_1) t164 t165 t166 _ A13.out ?side1).mono ?_); (case side1 => exact LW.below HLW.out (by repeat (first | (with_reducible first | exact HB.out | apply below_alloc | apply pw_below_drewN | apply below_drew1) | exact HB.out))); rintro e w29 ⟨rfl, hb⟩; refine ⟨_, rfl, ?_⟩; have n0_ := Aside0.mk (Kd.R_below (by (with_reducible repeat (first | apply Kd.R_alloc | apply Kd.R_drewN | apply Kd.R_drew)); exact HO_27.out) hb); have n1_ := Aside0.mk (below_step (by repeat (first | (with_reducible first | exact HB.out | apply below_alloc | apply pw_below_drewN | apply below_drew1) | exact HB.out)) hb); clear HO_27; clear HB; have HO_27 := n0_; have HB := n1_; clear n0_ n1_; (try clear hb); (try clear hb2); (try clear hk); (try clear hi)) | ((with_reducible refine gate_callee (f := 14) rfl ?_); refine goesL_ (some 41) rfl rfl Tryd.func14 (by kernel_rfl) rfl #[.string (rdOf ByteArray.empty y159 x29_1)] rfl (by (try simp only [List.map_toArray, List.map_cons, List.map_nil]); first | done | rfl | (simp only [List.length_drop, List.length_take]; rfl)) ?_; (with_reducible refine (numeraryref12_Elapsed.calls k1 (rdOf ByteArray.empty y159 x29_1) t167 t168 t169 _ A14.out).mono ?_); rintro e w30 ⟨rfl, hb⟩; refine ⟨_, rfl, ?_⟩; have n0_ := Aside0.mk (Kd.R_below (by (with_reducible repeat (first | apply Kd.R_alloc | apply Kd.R_drewN | apply Kd.R_drew)); exact HO_27.out) hb); have n1_ := Aside0.mk (below_step (by repeat (first | (with_reducible first | exact HB.out | apply below_alloc | apply pw_below_drewN | apply below_drew1) | exact HB.out)) hb); clear HO_27; clear HB; have HO_27 := n0_; have HB := n1_; clear n0_ n1_; (try clear hb); (try clear hb2); (try clear hk); (try clear hi)) | ((with_reducible refine gate_callee (f := 15) rfl ?_); refine goesL_ (some 47) rfl rfl Tryd.func15 (by kernel_rfl) rfl #[.string (rdOf ByteArray.empty y159 x29_1)] rfl (by (try simp only [List.map_toArray, List.map_cons, List.map_nil]); first | done | rfl | (simp only [List.length_drop, List.length_take]; rfl)) ?_; (with_reducible refine (colour_Money.calls (rdOf ByteArray.empty y159 x29_1) t170 t171 t172 _ A15.out ?side1).mono ?_); (case side1 => exact LW.below HLW.out (by repeat (first | (with_reducible first | exact HB.out | apply below_alloc | apply pw_below_drewN | apply below_drew1) | exact HB.out))); rintro e w31 ⟨rfl, hb⟩; refine ⟨_, rfl, ?_⟩; have n0_ := Aside0.mk (Kd.R_below (by (with_reducible repeat (first | apply Kd.R_alloc | apply Kd.R_drewN | apply Kd.R_drew)); exact HO_27.out) hb); have n1_ := Aside0.mk (below_step (by repeat (first | (with_reducible first | exact HB.out | apply below_alloc | apply pw_below_drewN | apply below_drew1) | exact HB.out)) hb); clear HO_27; clear HB; have HO_27 := n0_; have HB := n1_; clear n0_ n1_; (try clear hb); (try clear hb2); (try clear hk); (try clear hi)) | ((with_reducible refine gate_callee (f := 16) rfl ?_); refine goesL_ (some 53) rfl rfl Tryd.func16 (by kernel_rfl) rfl #[.string (rdOf ByteArray.empty y159 x29_1)] rfl (by (try simp only [List.map_toArray, List.map_cons, List.map_nil]); first | done | rfl | (simp only [List.length_drop, List.length_take]; rfl)) ?_; (with_reducible refine (numeraryref12_Money.calls k1 (rdOf ByteArray.empty y159 x29_1) t173 t174 t175 _ A16.out).mono ?_); rintro e w' ⟨rfl, ⟨nd, rfl⟩⟩; refine ⟨_, rfl, ?_⟩))
                                go_roundg k1
                                case measure => have := HK1.out; omega
                                case rel => exact ⟨(wrap64 (x29_1 + 1)), (by first | rfl | (simp; done) | (simp [*]; done) | (simp only [isEmpty_ne, Bool.not_not]) | (simp only [isEmpty_ne])), H', ⟨by have := HK1.out; omega⟩, ⟨by (with_reducible repeat (first | apply Kd.R_alloc | apply Kd.R_drewN | apply Kd.R_drew)); exact HO_27.out⟩, ⟨by repeat (first | (with_reducible first | exact HB.out | apply below_alloc | apply pw_below_drewN | apply below_drew1) | exact HB.out)⟩⟩
                            · rw [if_neg c24] at H
                              have c24b0 : (t171 == t174) = false := beq_eq_false_iff_ne.mpr c24
                              have c24b1 : (t171 != t174) = true := bne_iff_ne.mpr c24
                              obtain rfl := Option.some.inj H
                              have p163 : 0 ≤ (x29_1 : Int) := of_decide_eq_true (by first | (with_reducible assumption) | assumption)
                              have q163 : x29_1 < (y159.length : Int) := of_decide_eq_true (by first | (with_reducible assumption) | assumption)
                              obtain ⟨ad163, e163, hx163_0⟩ := Kd.at_string (Kd.R_reads' HO_27.out).2.2 x29_1 p163 q163
                              cases e163
                              replace p163 := eq_true p163
                              replace q163 := eq_true q163
                              go_wp2_with (first | ((with_reducible refine gate_callee (f := 13) rfl ?_); refine goesL_ (some 35) rfl rfl Tryd.func13 (by kernel_rfl) rfl #[.string (rdOf ByteArray.empty y159 x29_1)] rfl (by (try simp only [List.map_toArray, List.map_cons, List.map_nil]); first | done | rfl | (simp only [List.length_drop, List.length_take]; rfl)) ?_; (with_reducible refine (colour_Elapsed.calls (rdOf ByteArray.empty y159 x29_1) t164 t165 t166 _ A13.out ?side1).mono ?_); (case side1 => exact LW.below HLW.out (by repeat (first | (with_reducible first | exact HB.out | apply below_alloc | apply pw_below_drewN | apply below_drew1) | exact HB.out))); rintro e w32 ⟨rfl, hb⟩; refine ⟨_, rfl, ?_⟩; have n0_ := Aside0.mk (Kd.R_below (by (with_reducible repeat (first | apply Kd.R_alloc | apply Kd.R_drewN | apply Kd.R_drew)); exact HO_27.out) hb); have n1_ := Aside0.mk (below_step (by repeat (first | (with_reducible first | exact HB.out | apply below_alloc | apply pw_below_drewN | apply below_drew1) | exact HB.out)) hb); clear HO_27; clear HB; have HO_27 := n0_; have HB := n1_; clear n0_ n1_; (try clear hb); (try clear hb2); (try clear hk); (try clear hi)) | ((with_reducible refine gate_callee (f := 14) rfl ?_); refine goesL_ (some 41) rfl rfl Tryd.func14 (by kernel_rfl) rfl #[.string (rdOf ByteArray.empty y159 x29_1)] rfl (by (try simp only [List.map_toArray, List.map_cons, List.map_nil]); first | done | rfl | (simp only [List.length_drop, List.length_take]; rfl)) ?_; (with_reducible refine (numeraryref12_Elapsed.calls k1 (rdOf ByteArray.empty y159 x29_1) t167 t168 t169 _ A14.out).mono ?_); rintro e w33 ⟨rfl, hb⟩; refine ⟨_, rfl, ?_⟩; have n0_ := Aside0.mk (Kd.R_below (by (with_reducible repeat (first | apply Kd.R_alloc | apply Kd.R_drewN | apply Kd.R_drew)); exact HO_27.out) hb); have n1_ := Aside0.mk (below_step (by repeat (first | (with_reducible first | exact HB.out | apply below_alloc | apply pw_below_drewN | apply below_drew1) | exact HB.out)) hb); clear HO_27; clear HB; have HO_27 := n0_; have HB := n1_; clear n0_ n1_; (try clear hb); (try clear hb2); (try clear hk); (try clear hi)) | ((with_reducible refine gate_callee (f := 15) rfl ?_); refine goesL_ (some 47) rfl rfl Tryd.func15 (by kernel_rfl) rfl #[.string (rdOf ByteArray.empty y159 x29_1)] rfl (by (try simp only [List.map_toArray, List.map_cons, List.map_nil]); first | done | rfl | (simp only [List.length_drop, List.length_take]; rfl)) ?_; (with_reducible refine (colour_Money.calls (rdOf ByteArray.empty y159 x29_1) t170 t171 t172 _ A15.out ?side1).mono ?_); (case side1 => exact LW.below HLW.out (by repeat (first | (with_reducible first | exact HB.out | apply below_alloc | apply pw_below_drewN | apply below_drew1) | exact HB.out))); rintro e w34 ⟨rfl, hb⟩; refine ⟨_, rfl, ?_⟩; have n0_ := Aside0.mk (Kd.R_below (by (with_reducible repeat (first | apply Kd.R_alloc | apply Kd.R_drewN | apply Kd.R_drew)); exact HO_27.out) hb); have n1_ := Aside0.mk (below_step (by repeat (first | (with_reducible first | exact HB.out | apply below_alloc | apply pw_below_drewN | apply below_drew1) | exact HB.out)) hb); clear HO_27; clear HB; have HO_27 := n0_; have HB := n1_; clear n0_ n1_; (try clear hb); (try clear hb2); (try clear hk); (try clear hi)) | ((with_reducible refine gate_callee (f := 16) rfl ?_); refine goesL_ (some 53) rfl rfl Tryd.func16 (by kernel_rfl) rfl #[.string (rdOf ByteArray.empty y159 x29_1)] rfl (by (try simp only [List.map_toArray, List.map_cons, List.map_nil]); first | done | rfl | (simp only [List.length_drop, List.length_take]; rfl)) ?_; (with_reducible refine (numeraryref12_Money.calls k1 (rdOf ByteArray.empty y159 x29_1) t173 t174 t175 _ A16.out).mono ?_); rintro e w' ⟨rfl, ⟨nd, rfl⟩⟩; refine ⟨_, rfl, ?_⟩))
                              go_ret
                              exact ⟨by first | rfl | (simp [errW_none, errW_some] <;> rfl) | (simp only [← hji2]; first | rfl | (simp [errW_none, errW_some] <;> rfl)) | (simp [*, errW_none, errW_some] <;> rfl), by repeat (first | (with_reducible first | exact HB.out | apply below_alloc | apply pw_below_drewN | apply below_drew1) | exact HB.out)⟩
                          · rw [if_neg c23] at H
                            have c23b0 : (t170.toList == t173.toList) = false := beq_eq_false_iff_ne.mpr c23
                            have c23b1 : (t170.toList != t173.toList) = true := bne_iff_ne.mpr c23
                            obtain rfl := Option.some.inj H
                            have p163 : 0 ≤ (x29_1 : Int) := of_decide_eq_true (by first | (with_reducible assumption) | assumption)
                            have q163 : x29_1 < (y159.length : Int) := of_decide_eq_true (by first | (with_reducible assumption) | assumption)
                            obtain ⟨ad163, e163, hx163_0⟩ := Kd.at_string (Kd.R_reads' HO_27.out).2.2 x29_1 p163 q163
                            cases e163
                            replace p163 := eq_true p163
                            replace q163 := eq_true q163
                            go_wp2_with (first | ((with_reducible refine gate_callee (f := 13) rfl ?_); refine goesL_ (some 35) rfl rfl Tryd.func13 (by kernel_rfl) rfl #[.string (rdOf ByteArray.empty y159 x29_1)] rfl (by (try simp only [List.map_toArray, List.map_cons, List.map_nil]); first | done | rfl | (simp only [List.length_drop, List.length_take]; rfl)) ?_; (with_reducible refine (colour_Elapsed.calls (rdOf ByteArray.empty y159 x29_1) t164 t165 t166 _ A13.out ?side1).mono ?_); (case side1 => exact LW.below HLW.out (by repeat (first | (with_reducible first | exact HB.out | apply below_alloc | apply pw_below_drewN | apply below_drew1) | exact HB.out))); rintro e w35 ⟨rfl, hb⟩; refine ⟨_, rfl, ?_⟩; have n0_ := Aside0.mk (Kd.R_below (by (with_reducible repeat (first | apply Kd.R_alloc | apply Kd.R_drewN | apply Kd.R_drew)); exact HO_27.out) hb); have n1_ := Aside0.mk (below_step (by repeat (first | (with_reducible first | exact HB.out | apply below_alloc | apply pw_below_drewN | apply below_drew1) | exact HB.out)) hb); clear HO_27; clear HB; have HO_27 := n0_; have HB := n1_; clear n0_ n1_; (try clear hb); (try clear hb2); (try clear hk); (try clear hi)) | ((with_reducible refine gate_callee (f := 14) rfl ?_); refine goesL_ (some 41) rfl rfl Tryd.func14 (by kernel_rfl) rfl #[.string (rdOf ByteArray.empty y159 x29_1)] rfl (by (try simp only [List.map_toArray, List.map_cons, List.map_nil]); first | done | rfl | (simp only [List.length_drop, List.length_take]; rfl)) ?_; (with_reducible refine (numeraryref12_Elapsed.calls k1 (rdOf ByteArray.empty y159 x29_1) t167 t168 t169 _ A14.out).mono ?_); rintro e w36 ⟨rfl, hb⟩; refine ⟨_, rfl, ?_⟩; have n0_ := Aside0.mk (Kd.R_below (by (with_reducible repeat (first | apply Kd.R_alloc | apply Kd.R_drewN | apply Kd.R_drew)); exact HO_27.out) hb); have n1_ := Aside0.mk (below_step (by repeat (first | (with_reducible first | exact HB.out | apply below_alloc | apply pw_below_drewN | apply below_drew1) | exact HB.out)) hb); clear HO_27; clear HB; have HO_27 := n0_; have HB := n1_; clear n0_ n1_; (try clear hb); (try clear hb2); (try clear hk); (try clear hi)) | ((with_reducible refine gate_callee (f := 15) rfl ?_); refine goesL_ (some 47) rfl rfl Tryd.func15 (by kernel_rfl) rfl #[.string (rdOf ByteArray.empty y159 x29_1)] rfl (by (try simp only [List.map_toArray, List.map_cons, List.map_nil]); first | done | rfl | (simp only [List.length_drop, List.length_take]; rfl)) ?_; (with_reducible refine (colour_Money.calls (rdOf ByteArray.empty y159 x29_1) t170 t171 t172 _ A15.out ?side1).mono ?_); (case side1 => exact LW.below HLW.out (by repeat (first | (with_reducible first | exact HB.out | apply below_alloc | apply pw_below_drewN | apply below_drew1) | exact HB.out))); rintro e w37 ⟨rfl, hb⟩; refine ⟨_, rfl, ?_⟩; have n0_ := Aside0.mk (Kd.R_below (by (with_reducible repeat (first | apply Kd.R_alloc | apply Kd.R_drewN | apply Kd.R_drew)); exact HO_27.out) hb); have n1_ := Aside0.mk (below_step (by repeat (first | (with_reducible first | exact HB.out | apply below_alloc | apply pw_below_drewN | apply below_drew1) | exact HB.out)) hb); clear HO_27; clear HB; have HO_27 := n0_; have HB := n1_; clear n0_ n1_; (try clear hb); (try clear hb2); (try clear hk); (try clear hi)) | ((with_reducible refine gate_callee (f := 16) rfl ?_); refine goesL_ (some 53) rfl rfl Tryd.func16 (by kernel_rfl) rfl #[.string (rdOf ByteArray.empty y159 x29_1)] rfl (by (try simp only [List.map_toArray, List.map_cons, List.map_nil]); first | done | rfl | (simp only [List.length_drop, List.length_take]; rfl)) ?_; (with_reducible refine (numeraryref12_Money.calls k1 (rdOf ByteArray.empty y159 x29_1) t173 t174 t175 _ A16.out).mono ?_); rintro e w' ⟨rfl, ⟨nd, rfl⟩⟩; refine ⟨_, rfl, ?_⟩))
                            go_ret
                            exact ⟨by first | rfl | (simp [errW_none, errW_some] <;> rfl) | (simp only [← hji2]; first | rfl | (simp [errW_none, errW_some] <;> rfl)) | (simp [*, errW_none, errW_some] <;> rfl), by repeat (first | (with_reducible first | exact HB.out | apply below_alloc | apply pw_below_drewN | apply below_drew1) | exact HB.out)⟩
                      · rw [if_neg c18] at H
                        have c18b0 : (t165 == t168) = false := beq_eq_false_iff_ne.mpr c18
                        have c18b1 : (t165 != t168) = true := bne_iff_ne.mpr c18
                        obtain rfl := Option.some.inj H
                        have p163 : 0 ≤ (x29_1 : Int) := of_decide_eq_true (by first | (with_reducible assumption) | assumption)
                        have q163 : x29_1 < (y159.length : Int) := of_decide_eq_true (by first | (with_reducible assumption) | assumption)
                        obtain ⟨ad163, e163, hx163_0⟩ := Kd.at_string (Kd.R_reads' HO_27.out).2.2 x29_1 p163 q163
                        cases e163
                        replace p163 := eq_true p163
                        replace q163 := eq_true q163
                        go_wp2_with (first | ((with_reducible refine gate_callee (f := 13) rfl ?_); refine goesL_ (some 35) rfl rfl Tryd.func13 (by kernel_rfl) rfl #[.string (rdOf ByteArray.empty y159 x29_1)] rfl (by (try simp only [List.map_toArray, List.map_cons, List.map_nil]); first | done | rfl | (simp only [List.length_drop, List.length_take]; rfl)) ?_; (with_reducible refine (colour_Elapsed.calls (rdOf ByteArray.empty y159 x29_1) t164 t165 t166 _ A13.out ?side1).mono ?_); (case side1 => exact LW.below HLW.out (by repeat (first | (with_reducible first | exact HB.out | apply below_alloc | apply pw_below_drewN | apply below_drew1) | exact HB.out))); rintro e w38 ⟨rfl, hb⟩; refine ⟨_, rfl, ?_⟩; have n0_ := Aside0.mk (Kd.R_below (by (with_reducible repeat (first | apply Kd.R_alloc | apply Kd.R_drewN | apply Kd.R_drew)); exact HO_27.out) hb); have n1_ := Aside0.mk (below_step (by repeat (first | (with_reducible first | exact HB.out | apply below_alloc | apply pw_below_drewN | apply below_drew1) | exact HB.out)) hb); clear HO_27; clear HB; have HO_27 := n0_; have HB := n1_; clear n0_ n1_; (try clear hb); (try clear hb2); (try clear hk); (try clear hi)) | ((with_reducible refine gate_callee (f := 14) rfl ?_); refine goesL_ (some 41) rfl rfl Tryd.func14 (by kernel_rfl) rfl #[.string (rdOf ByteArray.empty y159 x29_1)] rfl (by (try simp only [List.map_toArray, List.map_cons, List.map_nil]); first | done | rfl | (simp only [List.length_drop, List.length_take]; rfl)) ?_; (with_reducible refine (numeraryref12_Elapsed.calls k1 (rdOf ByteArray.empty y159 x29_1) t167 t168 t169 _ A14.out).mono ?_); rintro e w39 ⟨rfl, hb⟩; refine ⟨_, rfl, ?_⟩; have n0_ := Aside0.mk (Kd.R_below (by (with_reducible repeat (first | apply Kd.R_alloc | apply Kd.R_drewN | apply Kd.R_drew)); exact HO_27.out) hb); have n1_ := Aside0.mk (below_step (by repeat (first | (with_reducible first | exact HB.out | apply below_alloc | apply pw_below_drewN | apply below_drew1) | exact HB.out)) hb); clear HO_27; clear HB; have HO_27 := n0_; have HB := n1_; clear n0_ n1_; (try clear hb); (try clear hb2); (try clear hk); (try clear hi)) | ((with_reducible refine gate_callee (f := 15) rfl ?_); refine goesL_ (some 47) rfl rfl Tryd.func15 (by kernel_rfl) rfl #[.string (rdOf ByteArray.empty y159 x29_1)] rfl (by (try simp only [List.map_toArray, List.map_cons, List.map_nil]); first | done | rfl | (simp only [List.length_drop, List.length_take]; rfl)) ?_; (with_reducible refine (colour_Money.calls (rdOf ByteArray.empty y159 x29_1) t170 t171 t172 _ A15.out ?side1).mono ?_); (case side1 => exact LW.below HLW.out (by repeat (first | (with_reducible first | exact HB.out | apply below_alloc | apply pw_below_drewN | apply below_drew1) | exact HB.out))); rintro e w40 ⟨rfl, hb⟩; refine ⟨_, rfl, ?_⟩; have n0_ := Aside0.mk (Kd.R_below (by (with_reducible repeat (first | apply Kd.R_alloc | apply Kd.R_drewN | apply Kd.R_drew)); exact HO_27.out) hb); have n1_ := Aside0.mk (below_step (by repeat (first | (with_reducible first | exact HB.out | apply below_alloc | apply pw_below_drewN | apply below_drew1) | exact HB.out)) hb); clear HO_27; clear HB; have HO_27 := n0_; have HB := n1_; clear n0_ n1_; (try clear hb); (try clear hb2); (try clear hk); (try clear hi)) | ((with_reducible refine gate_callee (f := 16) rfl ?_); refine goesL_ (some 53) rfl rfl Tryd.func16 (by kernel_rfl) rfl #[.string (rdOf ByteArray.empty y159 x29_1)] rfl (by (try simp only [List.map_toArray, List.map_cons, List.map_nil]); first | done | rfl | (simp only [List.length_drop, List.length_take]; rfl)) ?_; (with_reducible refine (numeraryref12_Money.calls k1 (rdOf ByteArray.empty y159 x29_1) t173 t174 t175 _ A16.out).mono ?_); rintro e w' ⟨rfl, ⟨nd, rfl⟩⟩; refine ⟨_, rfl, ?_⟩))
                        go_ret
                        exact ⟨by first | rfl | (simp [errW_none, errW_some] <;> rfl) | (simp only [← hji2]; first | rfl | (simp [errW_none, errW_some] <;> rfl)) | (simp [*, errW_none, errW_some] <;> rfl), by repeat (first | (with_reducible first | exact HB.out | apply below_alloc | apply pw_below_drewN | apply below_drew1) | exact HB.out)⟩
                    · rw [if_neg c17] at H
                      have c17b0 : (t164.toList == t167.toList) = false := beq_eq_false_iff_ne.mpr c17
                      have c17b1 : (t164.toList != t167.toList) = true := bne_iff_ne.mpr c17
                      obtain rfl := Option.some.inj H
                      have p163 : 0 ≤ (x29_1 : Int) := of_decide_eq_true (by first | (with_reducible assumption) | assumption)
                      have q163 : x29_1 < (y159.length : Int) := of_decide_eq_true (by first | (with_reducible assumption) | assumption)
                      obtain ⟨ad163, e163, hx163_0⟩ := Kd.at_string (Kd.R_reads' HO_27.out).2.2 x29_1 p163 q163
                      cases e163
                      replace p163 := eq_true p163
                      replace q163 := eq_true q163
                      go_wp2_with (first | ((with_reducible refine gate_callee (f := 13) rfl ?_); refine goesL_ (some 35) rfl rfl Tryd.func13 (by kernel_rfl) rfl #[.string (rdOf ByteArray.empty y159 x29_1)] rfl (by (try simp only [List.map_toArray, List.map_cons, List.map_nil]); first | done | rfl | (simp only [List.length_drop, List.length_take]; rfl)) ?_; (with_reducible refine (colour_Elapsed.calls (rdOf ByteArray.empty y159 x29_1) t164 t165 t166 _ A13.out ?side1).mono ?_); (case side1 => exact LW.below HLW.out (by repeat (first | (with_reducible first | exact HB.out | apply below_alloc | apply pw_below_drewN | apply below_drew1) | exact HB.out))); rintro e w41 ⟨rfl, hb⟩; refine ⟨_, rfl, ?_⟩; have n0_ := Aside0.mk (Kd.R_below (by (with_reducible repeat (first | apply Kd.R_alloc | apply Kd.R_drewN | apply Kd.R_drew)); exact HO_27.out) hb); have n1_ := Aside0.mk (below_step (by repeat (first | (with_reducible first | exact HB.out | apply below_alloc | apply pw_below_drewN | apply below_drew1) | exact HB.out)) hb); clear HO_27; clear HB; have HO_27 := n0_; have HB := n1_; clear n0_ n1_; (try clear hb); (try clear hb2); (try clear hk); (try clear hi)) | ((with_reducible refine gate_callee (f := 14) rfl ?_); refine goesL_ (some 41) rfl rfl Tryd.func14 (by kernel_rfl) rfl #[.string (rdOf ByteArray.empty y159 x29_1)] rfl (by (try simp only [List.map_toArray, List.map_cons, List.map_nil]); first | done | rfl | (simp only [List.length_drop, List.length_take]; rfl)) ?_; (with_reducible refine (numeraryref12_Elapsed.calls k1 (rdOf ByteArray.empty y159 x29_1) t167 t168 t169 _ A14.out).mono ?_); rintro e w42 ⟨rfl, hb⟩; refine ⟨_, rfl, ?_⟩; have n0_ := Aside0.mk (Kd.R_below (by (with_reducible repeat (first | apply Kd.R_alloc | apply Kd.R_drewN | apply Kd.R_drew)); exact HO_27.out) hb); have n1_ := Aside0.mk (below_step (by repeat (first | (with_reducible first | exact HB.out | apply below_alloc | apply pw_below_drewN | apply below_drew1) | exact HB.out)) hb); clear HO_27; clear HB; have HO_27 := n0_; have HB := n1_; clear n0_ n1_; (try clear hb); (try clear hb2); (try clear hk); (try clear hi)) | ((with_reducible refine gate_callee (f := 15) rfl ?_); refine goesL_ (some 47) rfl rfl Tryd.func15 (by kernel_rfl) rfl #[.string (rdOf ByteArray.empty y159 x29_1)] rfl (by (try simp only [List.map_toArray, List.map_cons, List.map_nil]); first | done | rfl | (simp only [List.length_drop, List.length_take]; rfl)) ?_; (with_reducible refine (colour_Money.calls (rdOf ByteArray.empty y159 x29_1) t170 t171 t172 _ A15.out ?side1).mono ?_); (case side1 => exact LW.below HLW.out (by repeat (first | (with_reducible first | exact HB.out | apply below_alloc | apply pw_below_drewN | apply below_drew1) | exact HB.out))); rintro e w43 ⟨rfl, hb⟩; refine ⟨_, rfl, ?_⟩; have n0_ := Aside0.mk (Kd.R_below (by (with_reducible repeat (first | apply Kd.R_alloc | apply Kd.R_drewN | apply Kd.R_drew)); exact HO_27.out) hb); have n1_ := Aside0.mk (below_step (by repeat (first | (with_reducible first | exact HB.out | apply below_alloc | apply pw_below_drewN | apply below_drew1) | exact HB.out)) hb); clear HO_27; clear HB; have HO_27 := n0_; have HB := n1_; clear n0_ n1_; (try clear hb); (try clear hb2); (try clear hk); (try clear hi)) | ((with_reducible refine gate_callee (f := 16) rfl ?_); refine goesL_ (some 53) rfl rfl Tryd.func16 (by kernel_rfl) rfl #[.string (rdOf ByteArray.empty y159 x29_1)] rfl (by (try simp only [List.map_toArray, List.map_cons, List.map_nil]); first | done | rfl | (simp only [List.length_drop, List.length_take]; rfl)) ?_; (with_reducible refine (numeraryref12_Money.calls k1 (rdOf ByteArray.empty y159 x29_1) t173 t174 t175 _ A16.out).mono ?_); rintro e w' ⟨rfl, ⟨nd, rfl⟩⟩; refine ⟨_, rfl, ?_⟩))
                      go_ret
                      exact ⟨by first | rfl | (simp [errW_none, errW_some] <;> rfl) | (simp only [← hji2]; first | rfl | (simp [errW_none, errW_some] <;> rfl)) | (simp [*, errW_none, errW_some] <;> rfl), by repeat (first | (with_reducible first | exact HB.out | apply below_alloc | apply pw_below_drewN | apply below_drew1) | exact HB.out)⟩
                  · rw [if_neg c12] at H
                    exact absurd H (by simp)
                · rw [if_neg c11] at H
                  exact absurd H (by simp)
              · rw [if_neg c10] at H
                have c10b0 : decide (x29_1 < (y159.length : Int)) = false := decide_eq_false c10
                clear c10
                replace H := Option.bind_eq_some_iff.mp H
                obtain ⟨t162, A440, H⟩ := H
                replace H : (some t162) = some r := H
                have A44 := Aside0.mk A440
                clear A440
                obtain rfl := Option.some.inj H
                go_wp2_with (first | ((with_reducible refine gate_callee (f := 12) rfl ?_); refine goesL_ (some 86) rfl rfl Tryd.func12 (by kernel_rfl) rfl #[] rfl (by (try simp only [List.map_toArray, List.map_cons, List.map_nil]); first | done | rfl | (simp only [List.length_drop, List.length_take]; rfl)) ?_; (with_reducible refine (numerarylaw12_wakes.calls k1  t162 _ A44.out ?side1).mono ?_); (case side1 => exact LW.below HLW.out (by repeat (first | (with_reducible first | exact HB.out | apply below_alloc | apply pw_below_drewN | apply below_drew1) | exact HB.out))); rintro e w45 ⟨rfl, hb⟩; refine ⟨_, rfl, ?_⟩; have n0_ := Aside0.mk (Kd.R_below (by (with_reducible repeat (first | apply Kd.R_alloc | apply Kd.R_drewN | apply Kd.R_drew)); exact HO_27.out) hb); have n1_ := Aside0.mk (below_step (by repeat (first | (with_reducible first | exact HB.out | apply below_alloc | apply pw_below_drewN | apply below_drew1) | exact HB.out)) hb); clear HO_27; clear HB; have HO_27 := n0_; have HB := n1_; clear n0_ n1_; (try clear hb); (try clear hb2); (try clear hk); (try clear hi)))
                go_ret
                exact ⟨by first | rfl | (simp [errW_none, errW_some] <;> rfl) | (simp only [← hji2]; first | rfl | (simp [errW_none, errW_some] <;> rfl)) | (simp [*, errW_none, errW_some] <;> rfl), by repeat (first | (with_reducible first | exact HB.out | apply below_alloc | apply pw_below_drewN | apply below_drew1) | exact HB.out)⟩
        · rw [if_neg c6] at H
          exact absurd H (by simp)
      · rw [if_neg c5] at H
        exact absurd H (by simp)
    · rw [if_neg c4] at H
      exact absurd H (by simp)
  · rw [if_neg c3] at H
    exact absurd H (by simp)

/-- THE ONE PURE STATEMENT of numerarylaw12_ColourTexts: yours. -/
def numerarylaw12_ColourTexts.Pure : Prop := ∀ (a0 : ByteArray), a0.size ≤ 140737488351232 → ∃ k, numerarylaw12_ColourTexts.f k a0 = some true
theorem numerarylaw12_ColourTexts.walk (P : numerarylaw12_ColourTexts.Pure) (a0 : ByteArray) (w : World) (w0 : a0.size ≤ 140737488351232) (HLW_ : LW w) :
    Calls Tryd.prog 4 #[.string a0] w fun e w' => e = .returned (.bool true) ∧ Below w.heap.size w w' := by
  obtain ⟨k, h⟩ := P a0 w0
  refine (numerarylaw12_ColourTexts.calls k a0 true w h HLW_).mono ?_
  rintro e w' ⟨rfl, hd⟩
  exact ⟨rfl, hd⟩

end Go.Proofs.YtcdpjohbnfkmiaaDoor.P
