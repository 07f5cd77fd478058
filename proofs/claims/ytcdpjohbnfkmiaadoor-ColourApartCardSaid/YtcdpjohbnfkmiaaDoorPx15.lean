-- of this claim: by a program of this session's own over the kit's print
import Derived.Test.YtcdpjohbnfkmiaaDoorPx0
import Derived.Test.YtcdpjohbnfkmiaaDoorPx2
import Derived.Test.YtcdpjohbnfkmiaaDoorPx3
import Derived.Test.YtcdpjohbnfkmiaaDoorPx6
import Derived.Test.YtcdpjohbnfkmiaaDoorPx8
import Derived.Test.YtcdpjohbnfkmiaaDoorGL
import Derived.Test.YtcdpjohbnfkmiaaDoorGC
import Derived.Test.YtcdpjohbnfkmiaaDoorGLow
import Derived.Test.YtcdpjohbnfkmiaaDoorGMoney
import Derived.Test.YtcdpjohbnfkmiaaDoorGFu
namespace Go.Proofs.YtcdpjohbnfkmiaaDoor.P
open Go.RowKit Go.Proofs.YtcdpjohbnfkmiaaDoor.G Go.Proofs.YtcdpjohbnfkmiaaDoorW.PrintWords Go.Proofs.YtcdpjohbnfkmiaaDoorW.PrintLast Go.Proofs.YtcdpjohbnfkmiaaDoorW.PrintMore
attribute [local go_sem] max2_int min2_int max_two min_two max_three min_three max_four min_four   -- for this text's walks alone
set_option linter.unusedVariables false
set_option linter.unusedSimpArgs false

/-! ### numerarylaw12_ColourApart: function 6 -/
mutual
def numerarylaw12_ColourApart.l0 : Nat → Int → List ByteArray → Int → Int → Option (Bool)
  | 0, _, _, _, _ => none
  | k + 1, x1, x30, x31, x32 => if x32 < x31 then (if 0 ≤ x32 then (if x32 < (x30.length : Int) then ((colour_Number.f k (rdOf ByteArray.empty x30 x32)).bind fun bt189 => ((colour_Elapsed.f (rdOf ByteArray.empty x30 x32)).bind fun bt191 => ((colour_Money.f (rdOf ByteArray.empty x30 x32)).bind fun bt194 => (if bt189.2 = true then (if bt191.2.2 = true then (some false) else (if bt194.2.2 = true then (some false) else (numerarylaw12_ColourApart.l0 k x1 x30 x31 (wrap64 (x32 + 1))))) else (if bt191.2.2 = true then (if bt194.2.2 = true then (some false) else (numerarylaw12_ColourApart.l0 k x1 x30 x31 (wrap64 (x32 + 1)))) else (numerarylaw12_ColourApart.l0 k x1 x30 x31 (wrap64 (x32 + 1)))))))) else (none)) else (none)) else (numerarylaw12_ColourApart.l1 k (1 + ((mx 0 x1) % 64)) 1)
def numerarylaw12_ColourApart.l1 : Nat → Int → Int → Option (Bool)
  | 0, _, _ => none
  | k + 1, x15, x16 => if x16 ≤ 64 then (if x16 = x15 then (numerarylaw12_ColourApart.l1 k x15 (wrap64 (x16 + 1))) else ((colour_Name.f k x16).bind fun t198 => ((colour_Name.f k x15).bind fun t199 => (if t198.toList = t199.toList then (some false) else (numerarylaw12_ColourApart.l1 k x15 (wrap64 (x16 + 1))))))) else ((numerarylaw12_wakes.f k).bind fun t197 => (some t197))
end
def numerarylaw12_ColourApart.f (k : Nat) (a0 : ByteArray) (a1 : Int) : Option (Bool) := if 0 ≤ (mn (a0.size : Int) 30) then (if (mn (a0.size : Int) 30) ≤ (a0.size : Int) then ((colour_Name.f k (1 + ((mx 0 a1) % 64))).bind fun t184 => (if 1 + (a0.extract 0 ((mn (a0.size : Int) 30) : Int).toNat).size ≤ 9223372036854775807 then ((some (([a0.extract 0 ((mn (a0.size : Int) 30) : Int).toNat, t184, (⟨#[36]⟩ : ByteArray) ++ (a0.extract 0 ((mn (a0.size : Int) 30) : Int).toNat)] : List ByteArray) : List ByteArray)).bind fun y185 => (numerarylaw12_ColourApart.l0 k a1 y185 (y185.length : Int) 0)) else (none))) else (none)) else (none)
theorem numerarylaw12_ColourApart.mono_l : ∀ k, (∀ y0 y1 y2 y3, LeO (numerarylaw12_ColourApart.l0 k y0 y1 y2 y3) (numerarylaw12_ColourApart.l0 (k + 1) y0 y1 y2 y3)) ∧ (∀ y0 y1, LeO (numerarylaw12_ColourApart.l1 k y0 y1) (numerarylaw12_ColourApart.l1 (k + 1) y0 y1))
  | 0 => ⟨fun _ _ _ _ r h => by simp [numerarylaw12_ColourApart.l0] at h, fun _ _ r h => by simp [numerarylaw12_ColourApart.l1] at h⟩
  | k + 1 => by
    obtain ⟨ih0, ih1⟩ := numerarylaw12_ColourApart.mono_l k
    refine ⟨?_, ?_⟩
    · intro y0 y1 y2 y3
      unfold numerarylaw12_ColourApart.l0
      repeat' first
      | (with_reducible exact ih0 _ _ _ _)
      | (with_reducible exact ih1 _ _)
      | (with_reducible exact colour_Name.mono _ _)
      | (with_reducible exact colour_Number.mono _ _)
      | (with_reducible exact numerarylaw12_wakes.mono _)
      | (with_reducible exact LeO.refl _)
      | (with_reducible exact LeO.none _)
      | (with_reducible refine LeO.ite ?_ ?_)
      | (with_reducible refine LeO.bind ?_ (fun _ => ?_))
      | exact ih0 _ _ _ _
      | exact ih1 _ _
      | exact colour_Name.mono _ _
      | exact colour_Number.mono _ _
      | exact numerarylaw12_wakes.mono _
      | exact LeO.none _
      | refine LeO.ite ?_ ?_
      | refine LeO.bind ?_ (fun _ => ?_)
    · intro y0 y1
      unfold numerarylaw12_ColourApart.l1
      repeat' first
      | (with_reducible exact ih0 _ _ _ _)
      | (with_reducible exact ih1 _ _)
      | (with_reducible exact colour_Name.mono _ _)
      | (with_reducible exact colour_Number.mono _ _)
      | (with_reducible exact numerarylaw12_wakes.mono _)
      | (with_reducible exact LeO.refl _)
      | (with_reducible exact LeO.none _)
      | (with_reducible refine LeO.ite ?_ ?_)
      | (with_reducible refine LeO.bind ?_ (fun _ => ?_))
      | exact ih0 _ _ _ _
      | exact ih1 _ _
      | exact colour_Name.mono _ _
      | exact colour_Number.mono _ _
      | exact numerarylaw12_wakes.mono _
      | exact LeO.none _
      | refine LeO.ite ?_ ?_
      | refine LeO.bind ?_ (fun _ => ?_)
theorem numerarylaw12_ColourApart.mono : ∀ a0 a1 k, LeO (numerarylaw12_ColourApart.f k a0 a1) (numerarylaw12_ColourApart.f (k + 1) a0 a1) := by
  intro a0 a1 k
  obtain ⟨ih0, ih1⟩ := numerarylaw12_ColourApart.mono_l k
  unfold numerarylaw12_ColourApart.f
  repeat' first
      | (with_reducible exact ih0 _ _ _ _)
      | (with_reducible exact ih1 _ _)
      | (with_reducible exact colour_Name.mono _ _)
      | (with_reducible exact colour_Number.mono _ _)
      | (with_reducible exact numerarylaw12_wakes.mono _)
      | (with_reducible exact LeO.refl _)
      | (with_reducible exact LeO.none _)
      | (with_reducible refine LeO.ite ?_ ?_)
      | (with_reducible refine LeO.bind ?_ (fun _ => ?_))
      | exact ih0 _ _ _ _
      | exact ih1 _ _
      | exact colour_Name.mono _ _
      | exact colour_Number.mono _ _
      | exact numerarylaw12_wakes.mono _
      | exact LeO.none _
      | refine LeO.ite ?_ ?_
      | refine LeO.bind ?_ (fun _ => ?_)
set_option maxHeartbeats 8000000 in
set_option maxRecDepth 100000 in
theorem numerarylaw12_ColourApart.calls (k : Nat) (a0 : ByteArray) (a1 : Int) (r : Bool) (w : World) (h : numerarylaw12_ColourApart.f k a0 a1 = some r) (HLW_ : LW w) :
    Calls Tryd.prog 6 #[.string a0, .int .i64 a1] w fun e w' => e = .returned (.bool r) ∧ Below w.heap.size w w' := by
  have HLW := Aside0.mk HLW_
  clear HLW_
  have HB := Aside0.mk (Below.refl w.heap.size w)
  have H : (if 0 ≤ (mn (a0.size : Int) 30) then (if (mn (a0.size : Int) 30) ≤ (a0.size : Int) then ((colour_Name.f k (1 + ((mx 0 a1) % 64))).bind fun t184 => (if 1 + (a0.extract 0 ((mn (a0.size : Int) 30) : Int).toNat).size ≤ 9223372036854775807 then ((some (([a0.extract 0 ((mn (a0.size : Int) 30) : Int).toNat, t184, (⟨#[36]⟩ : ByteArray) ++ (a0.extract 0 ((mn (a0.size : Int) 30) : Int).toNat)] : List ByteArray) : List ByteArray)).bind fun y185 => (numerarylaw12_ColourApart.l0 k a1 y185 (y185.length : Int) 0)) else (none))) else (none)) else (none)) = some r := h
  clear h
  obtain ⟨ji3, hji3⟩ : ∃ j_ : Int, (mn (a0.size : Int) 30) = j_ := ⟨_, rfl⟩
  replace H : (if 0 ≤ (ji3) then (if (ji3) ≤ (a0.size : Int) then ((colour_Name.f k (1 + ((mx 0 a1) % 64))).bind fun t184 => (if 1 + (a0.extract 0 ((ji3) : Int).toNat).size ≤ 9223372036854775807 then ((some (([a0.extract 0 ((ji3) : Int).toNat, t184, (⟨#[36]⟩ : ByteArray) ++ (a0.extract 0 ((ji3) : Int).toNat)] : List ByteArray) : List ByteArray)).bind fun y185 => (numerarylaw12_ColourApart.l0 k a1 y185 (y185.length : Int) 0)) else (none))) else (none)) else (none)) = some r := by first | (rw [hji3] at H; exact H) | (simp only [hji3] at H ⊢; exact H)
  (try (have hji3h : ji3 ≤ 30 := by (rw [← hji3]; unfold mn; (repeat' split) <;> omega)))
  (try (have hji3g : ji3 ≤ 64 := by omega))
  (try (have hji3l : 0 ≤ ji3 := by (rw [← hji3]; unfold mn; (repeat' split) <;> omega)))
  (try (have hji3m : 0 ≤ ji3 := by omega))
  have hji3_ : (if 30 < (a0.size : Int) then 30 else (a0.size : Int)) = ji3 := hji3
  by_cases c4 : 0 ≤ (ji3)
  · rw [if_pos c4] at H
    have c4b0 := eq_true c4
    have c4b1 : decide (0 ≤ (ji3)) = true := decide_eq_true c4
    clear c4
    by_cases c5 : (ji3) ≤ (a0.size : Int)
    · rw [if_pos c5] at H
      have c5b0 := eq_true c5
      have c5b1 : decide ((ji3) ≤ (a0.size : Int)) = true := decide_eq_true c5
      clear c5
      obtain ⟨ji6, hji6⟩ : ∃ j_ : Int, (mx 0 a1) = j_ := ⟨_, rfl⟩
      replace H : ((colour_Name.f k (1 + ((ji6) % 64))).bind fun t184 => (if 1 + (a0.extract 0 ((ji3) : Int).toNat).size ≤ 9223372036854775807 then ((some (([a0.extract 0 ((ji3) : Int).toNat, t184, (⟨#[36]⟩ : ByteArray) ++ (a0.extract 0 ((ji3) : Int).toNat)] : List ByteArray) : List ByteArray)).bind fun y185 => (numerarylaw12_ColourApart.l0 k a1 y185 (y185.length : Int) 0)) else (none))) = some r := by first | (rw [hji6] at H; exact H) | (simp only [hji6] at H ⊢; exact H)
      (try (have hji6l : 0 ≤ ji6 := by (rw [← hji6]; unfold mx; (repeat' split) <;> omega)))
      (try (have hji6m : 0 ≤ ji6 := by omega))
      have hji6_ : (if 0 < a1 then a1 else 0) = ji6 := hji6
      replace H := Option.bind_eq_some_iff.mp H
      obtain ⟨t184, A70, H⟩ := H
      replace H : (if 1 + (a0.extract 0 ((ji3) : Int).toNat).size ≤ 9223372036854775807 then ((some (([a0.extract 0 ((ji3) : Int).toNat, t184, (⟨#[36]⟩ : ByteArray) ++ (a0.extract 0 ((ji3) : Int).toNat)] : List ByteArray) : List ByteArray)).bind fun y185 => (numerarylaw12_ColourApart.l0 k a1 y185 (y185.length : Int) 0)) else (none)) = some r := H
      have A7 := Aside0.mk A70
      clear A70
      by_cases c8 : 1 + (a0.extract 0 ((ji3) : Int).toNat).size ≤ 9223372036854775807
      · rw [if_pos c8] at H
        have c8b0 := eq_true c8
        have c8b1 : decide (1 + (a0.extract 0 ((ji3) : Int).toNat).size ≤ 9223372036854775807) = true := decide_eq_true c8
        try have c8b2 : (9223372036854775807 < 1 + (a0.extract 0 ((ji3) : Int).toNat).size) = False := eq_false (Nat.not_lt.2 c8)
        obtain ⟨y185, hy185⟩ : ∃ y_ : List ByteArray, y_ = (([a0.extract 0 ((ji3) : Int).toNat, t184, (⟨#[36]⟩ : ByteArray) ++ (a0.extract 0 ((ji3) : Int).toNat)] : List ByteArray)) := ⟨_, rfl⟩
        replace H : (numerarylaw12_ColourApart.l0 k a1 y185 (y185.length : Int) 0) = some r := by first | (rw [hy185]; with_reducible exact H) | (have H2_ := (Option.bind_some _ _).symm.trans H; rw [hy185]; with_reducible exact H2_) | (have H2_ := (Option.bind_some _ _).symm.trans H; with_reducible exact H2_) | with_reducible exact H | (rw [hy185]; exact H) | exact H
        have Ny185 := Aside0.mk hy185
        clear hy185
        have H' := Aside0.mk H
        clear H
        go_enter Tryd.func6, Tryd.ntmps6
        go_wp2_with (first | ((with_reducible refine gate_callee (f := 9) rfl ?_); refine goesL_ (some 27) rfl rfl Tryd.func9 (by kernel_rfl) rfl #[.int .i64 (1 + ((ji6) % 64))] rfl (by (try simp only [List.map_toArray, List.map_cons, List.map_nil]); first | done | (simp only [hji6]; rfl) | rfl | (simp only [List.length_drop, List.length_take]; rfl)) ?_; (with_reducible refine (colour_Name.calls k (1 + ((ji6) % 64)) t184 _ A7.out ?side1).mono ?_); (case side1 => exact LW.below HLW.out (by repeat (first | (with_reducible first | exact HB.out | apply below_alloc | apply pw_below_drewN | apply below_drew1) | exact HB.out))); rintro e w9 ⟨rfl, hb⟩; refine ⟨_, rfl, ?_⟩; have n0_ := Aside0.mk (below_step (by repeat (first | (with_reducible first | exact HB.out | apply below_alloc | apply pw_below_drewN | apply below_drew1) | exact HB.out)) hb); clear HB; have HB := n0_; clear n0_; (try clear hb); (try clear hb2); (try clear hk); (try clear hi)) | ((with_reducible refine gate_dst (N := 30) rfl ?_); refine Kd.R_lit Kd.string _ 9 ?hg (N := 30) ?hd (xs := ([a0.extract 0 ((ji3) : Int).toNat, t184, (⟨#[36]⟩ : ByteArray) ++ (a0.extract 0 ((ji3) : Int).toNat)] : List ByteArray)) (inner := [.string (a0.extract 0 ((ji3) : Int).toNat), .string t184, .string ((⟨#[36]⟩ : ByteArray) ++ (a0.extract 0 ((ji3) : Int).toNat))]) (ok := fun _ => True) (okp := fun _ => True) ?hr ?hp (fun _ hk => hk) trivial (Below.refl _ _) (Nat.le_refl _) (by simp) ?_; (case hd => rfl); (case hg => rfl); (case hr => first | (go_simp; done) | (go_simp; rfl)); (case hp => exact (Reps.one (show Kd.M Kd.string _ _ _ (a0.extract 0 ((ji3) : Int).toNat) [.string (a0.extract 0 ((ji3) : Int).toNat)] from rfl) (Reps.one (show Kd.M Kd.string _ _ _ t184 [.string t184] from rfl) (Reps.one (show Kd.M Kd.string _ _ _ ((⟨#[36]⟩ : ByteArray) ++ (a0.extract 0 ((ji3) : Int).toNat)) [.string ((⟨#[36]⟩ : ByteArray) ++ (a0.extract 0 ((ji3) : Int).toNat))] from rfl) (Reps.none _ _))))); intro v186 w10 ho11 hb hg_ hnew_; clear hg_ hnew_; (first | rw [← Ny185.out] at ho11 | (simp only [Int.reduceToNat] at ho11; rw [← Ny185.out] at ho11)); have n0_ := Aside0.mk (Kd.R_lower ho11 (below_size (by repeat (first | (with_reducible first | exact HB.out | apply below_alloc | apply pw_below_drewN | apply below_drew1) | exact HB.out)))); have n1_ := Aside0.mk (below_step (by repeat (first | (with_reducible first | exact HB.out | apply below_alloc | apply pw_below_drewN | apply below_drew1) | exact HB.out)) hb); clear HB; have HO187 := n0_; have HB := n1_; clear n0_ n1_; clear hb ho11; obtain ⟨Ao12, co12, eo12⟩ := Kd.R_slice HO187.out; subst eo12))
        go_loopg [32] k (fun kq v32 w' => ∃ (x32_1 : Int), v32 = .int .i64 x32_1 ∧ Aside0 (numerarylaw12_ColourApart.l0 kq a1 y185 (y185.length : Int) x32_1 = some r) ∧ Aside0 (kq ≤ k) ∧ Aside0 (Kd.R Kd.string 9 w' w.heap.size (fun _ => True) (.slice Ao12 y185.length co12) y185) ∧ Aside0 (Below w.heap.size w w'))
        case atStart => exact ⟨(0), (by first | rfl | (simp; done) | (simp [*]; done) | (simp only [isEmpty_ne, Bool.not_not]) | (simp only [isEmpty_ne])), H', ⟨Nat.le_refl _⟩, ⟨by (with_reducible repeat (first | apply Kd.R_alloc | apply Kd.R_drewN | apply Kd.R_drew)); exact HO187.out⟩, ⟨by repeat (first | (with_reducible first | exact HB.out | apply below_alloc | apply pw_below_drewN | apply below_drew1) | exact HB.out)⟩⟩
        case round =>
          clear H'
          try clear p2
          try clear c4
          try clear c4b0
          try clear c4b1
          try clear c5
          try clear c5b0
          try clear c5b1
          try clear c6
          try clear c8
          try clear c8b0
          try clear c8b1
          try clear c8b2
          try clear c9
          obtain ⟨x32_1, rfl, HA, HK1, HO_30, HB⟩ := hrel
          cases gk with
          | zero => exact absurd HA.out (by simp [numerarylaw12_ColourApart.l0])
          | succ k1 =>
            have H := HA.out
            clear HA
            simp only [numerarylaw12_ColourApart.l0] at H
            by_cases c13 : x32_1 < (y185.length : Int)
            · rw [if_pos c13] at H
              have c13b0 : decide (x32_1 < (y185.length : Int)) = true := decide_eq_true c13
              clear c13
              by_cases c14 : 0 ≤ x32_1
              · rw [if_pos c14] at H
                have c14b0 : decide (0 ≤ x32_1) = true := decide_eq_true c14
                clear c14
                by_cases c15 : x32_1 < (y185.length : Int)
                · rw [if_pos c15] at H
                  have c15b0 : decide (x32_1 < (y185.length : Int)) = true := decide_eq_true c15
                  clear c15
                  replace H := Option.bind_eq_some_iff.mp H
                  obtain ⟨⟨t189, t190⟩, A160, H⟩ := H
                  replace H : ((colour_Elapsed.f (rdOf ByteArray.empty y185 x32_1)).bind fun bt191 => ((colour_Money.f (rdOf ByteArray.empty y185 x32_1)).bind fun bt194 => (if t190 = true then (if bt191.2.2 = true then (some false) else (if bt194.2.2 = true then (some false) else (numerarylaw12_ColourApart.l0 k1 a1 y185 (y185.length : Int) (wrap64 (x32_1 + 1))))) else (if bt191.2.2 = true then (if bt194.2.2 = true then (some false) else (numerarylaw12_ColourApart.l0 k1 a1 y185 (y185.length : Int) (wrap64 (x32_1 + 1)))) else (numerarylaw12_ColourApart.l0 k1 a1 y185 (y185.length : Int) (wrap64 (x32_1 + 1))))))) = some r := H
                  have A16 := Aside0.mk A160
                  clear A160
                  replace H := Option.bind_eq_some_iff.mp H
                  obtain ⟨⟨t191, t192, t193⟩, A170, H⟩ := H
                  replace H : ((colour_Money.f (rdOf ByteArray.empty y185 x32_1)).bind fun bt194 => (if t190 = true then (if t193 = true then (some false) else (if bt194.2.2 = true then (some false) else (numerarylaw12_ColourApart.l0 k1 a1 y185 (y185.length : Int) (wrap64 (x32_1 + 1))))) else (if t193 = true then (if bt194.2.2 = true then (some false) else (numerarylaw12_ColourApart.l0 k1 a1 y185 (y185.length : Int) (wrap64 (x32_1 + 1)))) else (numerarylaw12_ColourApart.l0 k1 a1 y185 (y185.length : Int) (wrap64 (x32_1 + 1)))))) = some r := H
                  have A17 := Aside0.mk A170
                  clear A170
                  replace H := Option.bind_eq_some_iff.mp H
                  obtain ⟨⟨t194, t195, t196⟩, A180, H⟩ := H
                  replace H : (if t190 = true then (if t193 = true then (some false) else (if t196 = true then (some false) else (numerarylaw12_ColourApart.l0 k1 a1 y185 (y185.length : Int) (wrap64 (x32_1 + 1))))) else (if t193 = true then (if t196 = true then (some false) else (numerarylaw12_ColourApart.l0 k1 a1 y185 (y185.length : Int) (wrap64 (x32_1 + 1)))) else (numerarylaw12_ColourApart.l0 k1 a1 y185 (y185.length : Int) (wrap64 (x32_1 + 1))))) = some r := H
                  have A18 := Aside0.mk A180
                  clear A180
                  by_cases c19 : t190 = true
                  · subst c19
                    have H1 : (if t193 = true then (some false) else (if t196 = true then (some false) else (numerarylaw12_ColourApart.l0 k1 a1 y185 (y185.length : Int) (wrap64 (x32_1 + 1))))) = some r := by rw [if_pos rfl] at H; exact H
                    clear H
                    have H := H1
                    clear H1
                    by_cases c20 : t193 = true
                    · subst c20
                      have H1 : (some false) = some r := by rw [if_pos rfl] at H; exact H
                      clear H
                      have H := H1
                      clear H1
                      obtain rfl := Option.some.inj H
                      have p188 : 0 ≤ (x32_1 : Int) := of_decide_eq_true (by first | (with_reducible assumption) | assumption)
                      have q188 : x32_1 < (y185.length : Int) := of_decide_eq_true (by first | (with_reducible assumption) | assumption)
                      obtain ⟨ad188, e188, hx188_0⟩ := Kd.at_string (Kd.R_reads' HO_30.out).2.2 x32_1 p188 q188
                      cases e188
                      replace p188 := eq_true p188
                      replace q188 := eq_true q188
                      go_wp2_with (first | ((with_reducible refine gate_callee (f := 7) rfl ?_); refine goesL_ (some 38) rfl rfl Tryd.func7 (by kernel_rfl) rfl #[.string (rdOf ByteArray.empty y185 x32_1)] rfl (by (try simp only [List.map_toArray, List.map_cons, List.map_nil]); first | done | rfl | (simp only [List.length_drop, List.length_take]; rfl)) ?_; (with_reducible refine (colour_Number.calls k1 (rdOf ByteArray.empty y185 x32_1) t189 true _ A16.out ?side1).mono ?_); (case side1 => exact LW.below HLW.out (by repeat (first | (with_reducible first | exact HB.out | apply below_alloc | apply pw_below_drewN | apply below_drew1) | exact HB.out))); rintro e w21 ⟨rfl, hb⟩; refine ⟨_, rfl, ?_⟩; have n0_ := Aside0.mk (Kd.R_below (by (with_reducible repeat (first | apply Kd.R_alloc | apply Kd.R_drewN | apply Kd.R_drew)); exact HO_30.out) hb); have n1_ := Aside0.mk (below_step (by repeat (first | (with_reducible first | exact HB.out | apply below_alloc | apply pw_below_drewN | apply below_drew1) | exact HB.out)) hb); clear HO_30; clear HB; have HO_30 := n0_; have HB := n1_; clear n0_ n1_; (try clear hb); (try clear hb2); (try clear hk); (try clear hi)) | ((with_reducible refine gate_callee (f := 13) rfl ?_); refine goesL_ (some 43) rfl rfl Tryd.func13 (by kernel_rfl) rfl #[.string (rdOf ByteArray.empty y185 x32_1)] rfl (by (try simp only [List.map_toArray, List.map_cons, List.map_nil]); first | done | rfl | (simp only [List.length_drop, List.length_take]; rfl)) ?_; (with_reducible refine (colour_Elapsed.calls (rdOf ByteArray.empty y185 x32_1) t191 t192 true _ A17.out ?side1).mono ?_); (case side1 => exact LW.below HLW.out (by repeat (first | (with_reducible first | exact HB.out | apply below_alloc | apply pw_below_drewN | apply below_drew1) | exact HB.out))); rintro e w22 ⟨rfl, hb⟩; refine ⟨_, rfl, ?_⟩; have n0_ := Aside0.mk (Kd.R_below (by (with_reducible repeat (first | apply Kd.R_alloc | apply Kd.R_drewN | apply Kd.R_drew)); exact HO_30.out) hb); have n1_ := Aside0.mk (below_step (by repeat (first | (with_reducible first | exact HB.out | apply below_alloc | apply pw_below_drewN | apply below_drew1) | exact HB.out)) hb); clear HO_30; clear HB; have HO_30 := n0_; have HB := n1_; clear n0_ n1_; (try clear hb); (try clear hb2); (try clear hk); (try clear hi)) | ((with_reducible refine gate_callee (f := 15) rfl ?_); refine goesL_ (some 49) rfl rfl Tryd.func15 (by kernel_rfl) rfl #[.string (rdOf ByteArray.empty y185 x32_1)] rfl (by (try simp only [List.map_toArray, List.map_cons, List.map_nil]); first | done | rfl | (simp only [List.length_drop, List.length_take]; rfl)) ?_; (with_reducible refine (colour_Money.calls (rdOf ByteArray.empty y185 x32_1) t194 t195 t196 _ A18.out ?side1).mono ?_); (case side1 => exact LW.below HLW.out (by repeat (first | (with_reducible first | exact HB.out | apply below_alloc | apply pw_below_drewN | apply below_drew1) | exact HB.out))); rintro e w23 ⟨rfl, hb⟩; refine ⟨_, rfl, ?_⟩; have n0_ := Aside0.mk (Kd.R_below (by (with_reducible repeat (first | apply Kd.R_alloc | apply Kd.R_drewN | apply Kd.R_drew)); exact HO_30.out) hb); have n1_ := Aside0.mk (below_step (by repeat (first | (with_reducible first | exact HB.out | apply below_alloc | apply pw_below_drewN | apply below_drew1) | exact HB.out)) hb); clear HO_30; clear HB; have HO_30 := n0_; have HB := n1_; clear n0_ n1_; (try clear hb); (try clear hb2); (try clear hk); (try clear hi)))
                      go_ret
                      exact ⟨by first | rfl | (simp [errW_none, errW_some] <;> rfl) | (simp only [← hji3, ← hji6]; first | rfl | (simp [errW_none, errW_some] <;> rfl)) | (simp [*, errW_none, errW_some] <;> rfl), by repeat (first | (with_reducible first | exact HB.out | apply below_alloc | apply pw_below_drewN | apply below_drew1) | exact HB.out)⟩
                    · replace c20 := Bool.eq_false_iff.mpr c20
                      subst c20
                      have H1 : (if t196 = true then (some false) else (numerarylaw12_ColourApart.l0 k1 a1 y185 (y185.length : Int) (wrap64 (x32_1 + 1)))) = some r := by rw [if_neg (show ¬ (false = true) by decide)] at H; exact H
                      clear H
                      have H := H1
                      clear H1
                      by_cases c24 : t196 = true
                      · subst c24
                        have H1 : (some false) = some r := by rw [if_pos rfl] at H; exact H
                        clear H
                        have H := H1
                        clear H1
                        obtain rfl := Option.some.inj H
                        have p188 : 0 ≤ (x32_1 : Int) := of_decide_eq_true (by first | (with_reducible assumption) | assumption)
                        have q188 : x32_1 < (y185.length : Int) := of_decide_eq_true (by first | (with_reducible assumption) | assumption)
                        obtain ⟨ad188, e188, hx188_0⟩ := Kd.at_string (Kd.R_reads' HO_30.out).2.2 x32_1 p188 q188
                        cases e188
                        replace p188 := eq_true p188
                        replace q188 := eq_true q188
                        go_wp2_with (first | ((with_reducible refine gate_callee (f := 7) rfl ?_); refine goesL_ (some 38) rfl rfl Tryd.func7 (by kernel_rfl) rfl #[.string (rdOf ByteArray.empty y185 x32_1)] rfl (by (try simp only [List.map_toArray, List.map_cons, List.map_nil]); first | done | rfl | (simp only [List.length_drop, List.length_take]; rfl)) ?_; (with_reducible refine (colour_Number.calls k1 (rdOf ByteArray.empty y185 x32_1) t189 true _ A16.out ?side1).mono ?_); (case side1 => exact LW.below HLW.out (by repeat (first | (with_reducible first | exact HB.out | apply below_alloc | apply pw_below_drewN | apply below_drew1) | exact HB.out))); rintro e w25 ⟨rfl, hb⟩; refine ⟨_, rfl, ?_⟩; have n0_ := Aside0.mk (Kd.R_below (by (with_reducible repeat (first | apply Kd.R_alloc | apply Kd.R_drewN | apply Kd.R_drew)); exact HO_30.out) hb); have n1_ := Aside0.mk (below_step (by repeat (first | (with_reducible first | exact HB.out | apply below_alloc | apply pw_below_drewN | apply below_drew1) | exact HB.out)) hb); clear HO_30; clear HB; have HO_30 := n0_; have HB := n1_; clear n0_ n1_; (try clear hb); (try clear hb2); (try clear hk); (try clear hi)) | ((with_reducible refine gate_callee (f := 13) rfl ?_); refine goesL_ (some 43) rfl rfl Tryd.func13 (by kernel_rfl) rfl #[.string (rdOf ByteArray.empty y185 x32_1)] rfl (by (try simp only [List.map_toArray, List.map_cons, List.map_nil]); first | done | rfl | (simp only [List.length_drop, List.length_take]; rfl)) ?_; (with_reducible refine (colour_Elapsed.calls (rdOf ByteArray.empty y185 x32_1) t191 t192 false _ A17.out ?side1).mono ?_); (case side1 => exact LW.below HLW.out (by repeat (first | (with_reducible first | exact HB.out | apply below_alloc | apply pw_below_drewN | apply below_drew1) | exact HB.out))); rintro e w26 ⟨rfl, hb⟩; refine ⟨_, rfl, ?_⟩; have n0_ := Aside0.mk (Kd.R_below (by (with_reducible repeat (first | apply Kd.R_alloc | apply Kd.R_drewN | apply Kd.R_drew)); exact HO_30.out) hb); have n1_ := Aside0.mk (below_step (by repeat (first | (with_reducible first | exact HB.out | apply below_alloc | apply pw_below_drewN | apply below_drew1) | exact HB.out)) hb); clear HO_30; clear HB; have HO_30 := n0_; have HB := n1_; clear n0_ n1_; (try clear hb); (try clear hb2); (try clear hk); (try clear hi)) | ((with_reducible refine gate_callee (f := 15) rfl ?_); refine goesL_ (some 49) rfl rfl Tryd.func15 (by kernel_rfl) rfl #[.string (rdOf ByteArray.empty y185 x32_1)] rfl (by (try simp only [List.map_toArray, List.map_cons, List.map_nil]); first | done | rfl | (simp only [List.length_drop, List.length_take]; rfl)) ?_; (with_reducible refine (colour_Money.calls (rdOf ByteArray.empty y185 x32_1) t194 t195 true _ A18.out ?side1).mono ?_); (case side1 => exact LW.below HLW.out (by repeat (first | (with_reducible first | exact HB.out | apply below_alloc | apply pw_below_drewN | apply below_drew1) | exact HB.out))); rintro e w27 ⟨rfl, hb⟩; refine ⟨_, rfl, ?_⟩; have n0_ := Aside0.mk (Kd.R_below (by (with_reducible repeat (first | apply Kd.R_alloc | apply Kd.R_drewN | apply Kd.R_drew)); exact HO_30.out) hb); have n1_ := Aside0.mk (below_step (by repeat (first | (with_reducible first | exact HB.out | apply below_alloc | apply pw_below_drewN | apply below_drew1) | exact HB.out)) hb); clear HO_30; clear HB; have HO_30 := n0_; have HB := n1_; clear n0_ n1_; (try clear hb); (try clear hb2); (try clear hk); (try clear hi)))
                        go_ret
                        exact ⟨by first | rfl | (simp [errW_none, errW_some] <;> rfl) | (simp only [← hji3, ← hji6]; first | rfl | (simp [errW_none, errW_some] <;> rfl)) | (simp [*, errW_none, errW_some] <;> rfl), by repeat (first | (with_reducible first | exact HB.out | apply below_alloc | apply pw_below_drewN | apply below_drew1) | exact HB.out)⟩
                      · replace c24 := Bool.eq_false_iff.mpr c24
                        subst c24
                        have H1 : (numerarylaw12_ColourApart.l0 k1 a1 y185 (y185.length : Int) (wrap64 (x32_1 + 1))) = some r := by rw [if_neg (show ¬ (false = true) by decide)] at H; exact H
                        clear H
                        have H := H1
                        clear H1
                        have H' := Aside0.mk H
                        clear H
                        have p188 : 0 ≤ (x32_1 : Int) := of_decide_eq_true (by first | (with_reducible assumption) | assumption)
                        have q188 : x32_1 < (y185.length : Int) := of_decide_eq_true (by first | (with_reducible assumption) | assumption)
                        obtain ⟨ad188, e188, hx188_0⟩ := Kd.at_string (Kd.R_reads' HO_30.out).2.2 x32_1 p188 q188
                        cases e188
                        replace p188 := eq_true p188
                        replace q188 := eq_true q188
                        go_wp2_with (first | ((with_reducible refine gate_callee (f := 7) rfl ?_); refine goesL_ (some 38) rfl rfl Tryd.func7 (by kernel_rfl) rfl #[.string (rdOf ByteArray.empty y185 x32_1)] rfl (by (try simp only [List.map_toArray, List.map_cons, List.map_nil]); first | done | rfl | (simp only [List.length_drop, List.length_take]; rfl)) ?_; (with_reducible refine (colour_Number.calls k1 (rdOf ByteArray.empty y185 x32_1) t189 true _ A16.out ?side1).mono ?_); (case side1 => exact LW.below HLW.out (by repeat (first | (with_reducible first | exact HB.out | apply below_alloc | apply pw_below_drewN | apply below_drew1) | exact HB.out))); rintro e w28 ⟨rfl, hb⟩; refine ⟨_, rfl, ?_⟩; have n0_ := Aside0.mk (Kd.R_below (by (with_reducible repeat (first | apply Kd.R_alloc | apply Kd.R_drewN | apply Kd.R_drew)); exact HO_30.out) hb); have n1_ := Aside0.mk (below_step (by repeat (first | (with_reducible first | exact HB.out | apply below_alloc | apply pw_below_drewN | apply below_drew1) | exact HB.out)) hb); clear HO_30; clear HB; have HO_30 := n0_; have HB := n1_; clear n0_ n1_; (try clear hb); (try clear hb2); (try clear hk); (try clear hi)) | ((with_reducible refine gate_callee (f := 13) rfl ?_); refine goesL_ (some 43) rfl rfl Tryd.func13 (by kernel_rfl) rfl #[.string (rdOf ByteArray.empty y185 x32_1)] rfl (by (try simp only [List.map_toArray, List.map_cons, List.map_nil]); first | done | rfl | (simp only [List.length_drop, List.length_take]; rfl)) ?_; (with_reducible refine (colour_Elapsed.calls (rdOf ByteArray.empty y185 x32_1) t191 t192 false _ A17.out ?side1).mono ?_); (case side1 => exact LW.below HLW.out (by repeat (first | (with_reducible first | exact HB.out | apply below_alloc | apply pw_below_drewN | apply below_drew1) | exact HB.out))); rintro e w29 ⟨rfl, hb⟩; refine ⟨_, rfl, ?_⟩; have n0_ := Aside0.mk (Kd.R_below (by (with_reducible repeat (first | apply Kd.R_alloc | apply Kd.R_drewN | apply Kd.R_drew)); exact HO_30.out) hb); have n1_ := Aside0.mk (below_step (by repeat (first | (with_reducible first | exact HB.out | apply below_alloc | apply pw_below_drewN | apply below_drew1) | exact HB.out)) hb); clear HO_30; clear HB; have HO_30 := n0_; have HB := n1_; clear n0_ n1_; (try clear hb); (try clear hb2); (try clear hk); (try clear hi)) | ((with_reducible refine gate_callee (f := 15) rfl ?_); refine goesL_ (some 49) rfl rfl Tryd.func15 (by kernel_rfl) rfl #[.string (rdOf ByteArray.empty y185 x32_1)] rfl (by (try simp only [List.map_toArray, List.map_cons, List.map_nil]); first | done | rfl | (simp only [List.length_drop, List.length_take]; rfl)) ?_; (with_reducible refine (colour_Money.calls (rdOf ByteArray.empty y185 x32_1) t194 t195 false _ A18.out ?side1).mono ?_); (case side1 => exact LW.below HLW.out (by repeat (first | (with_reducible first | exact HB.out | apply below_alloc | apply pw_below_drewN | apply below_drew1) | exact HB.out))); rintro e w30 ⟨rfl, hb⟩; refine ⟨_, rfl, ?_⟩; have n0_ := Aside0.mk (Kd.R_below (by (with_reducible repeat (first | apply Kd.R_alloc | apply Kd.R_drewN | apply Kd.R_drew)); exact HO_30.out) hb); have n1_ := Aside0.mk (below_step (by repeat (first | (with_reducible first | exact HB.out | apply below_alloc | apply pw_below_drewN | apply below_drew1) | exact HB.out)) hb); clear HO_30; clear HB; have HO_30 := n0_; have HB := n1_; clear n0_ n1_; (try clear hb); (try clear hb2); (try clear hk); (try clear hi)))
                        go_roundg k1
                        case measure => have := HK1.out; omega
                        case rel => exact ⟨(wrap64 (x32_1 + 1)), (by first | rfl | (simp; done) | (simp [*]; done) | (simp only [isEmpty_ne, Bool.not_not]) | (simp only [isEmpty_ne])), H', ⟨by have := HK1.out; omega⟩, ⟨by (with_reducible repeat (first | apply Kd.R_alloc | apply Kd.R_drewN | apply Kd.R_drew)); exact HO_30.out⟩, ⟨by repeat (first | (with_reducible first | exact HB.out | apply below_alloc | apply pw_below_drewN | apply below_drew1) | exact HB.out)⟩⟩
                  · replace c19 := Bool.eq_false_iff.mpr c19
                    subst c19
                    have H1 : (if t193 = true then (if t196 = true then (some false) else (numerarylaw12_ColourApart.l0 k1 a1 y185 (y185.length : Int) (wrap64 (x32_1 + 1)))) else (numerarylaw12_ColourApart.l0 k1 a1 y185 (y185.length : Int) (wrap64 (x32_1 + 1)))) = some r := by rw [if_neg (show ¬ (false = true) by decide)] at H; exact H
                    clear H
                    have H := H1
                    clear H1
                    by_cases c31 : t193 = true
                    · subst c31
                      have H1 : (if t196 = true then (some false) else (numerarylaw12_ColourApart.l0 k1 a1 y185 (y185.length : Int) (wrap64 (x32_1 + 1)))) = some r := by rw [if_pos rfl] at H; exact H
                      clear H
                      have H := H1
                      clear H1
                      by_cases c32 : t196 = true
                      · subst c32
                        have H1 : (some false) = some r := by rw [if_pos rfl] at H; exact H
                        clear H
                        have H := H1
                        clear H1
                        obtain rfl := Option.some.inj H
                        have p188 : 0 ≤ (x32_1 : Int) := of_decide_eq_true (by first | (with_reducible assumption) | assumption)
                        have q188 : x32_1 < (y185.length : Int) := of_decide_eq_true (by first | (with_reducible assumption) | assumption)
                        obtain ⟨ad188, e188, hx188_0⟩ := Kd.at_string (Kd.R_reads' HO_30.out).2.2 x32_1 p188 q188
                        cases e188
                        replace p188 := eq_true p188
                        replace q188 := eq_true q188
                        go_wp2_with (first | ((with_reducible refine gate_callee (f := 7) rfl ?_); refine goesL_ (some 38) rfl rfl Tryd.func7 (by kernel_rfl) rfl #[.string (rdOf ByteArray.empty y185 x32_1)] rfl (by (try simp only [List.map_toArray, List.map_cons, List.map_nil]); first | done | rfl | (simp only [List.length_drop, List.length_take]; rfl)) ?_; (with_reducible refine (colour_Number.calls k1 (rdOf ByteArray.empty y185 x32_1) t189 false _ A16.out ?side1).mono ?_); (case side1 => exact LW.below HLW.out (by repeat (first | (with_reducible first | exact HB.out | apply below_alloc | apply pw_below_drewN | apply below_drew1) | exact HB.out))); rintro e w33 ⟨rfl, hb⟩; refine ⟨_, rfl, ?_⟩; have n0_ := Aside0.mk (Kd.R_below (by (with_reducible repeat (first | apply Kd.R_alloc | apply Kd.R_drewN | apply Kd.R_drew)); exact HO_30.out) hb); have n1_ := Aside0.mk (below_step (by repeat (first | (with_reducible first | exact HB.out | apply below_alloc | apply pw_below_drewN | apply below_drew1) | exact HB.out)) hb); clear HO_30; clear HB; have HO_30 := n0_; have HB := n1_; clear n0_ n1_; (try clear hb); (try clear hb2); (try clear hk); (try clear hi)) | ((with_reducible refine gate_callee (f := 13) rfl ?_); refine goesL_ (some 43) rfl rfl Tryd.func13 (by kernel_rfl) rfl #[.string (rdOf ByteArray.empty y185 x32_1)] rfl (by (try simp only [List.map_toArray, List.map_cons, List.map_nil]); first | done | rfl | (simp only [List.length_drop, List.length_take]; rfl)) ?_; (with_reducible refine (colour_Elapsed.calls (rdOf ByteArray.empty y185 x32_1) t191 t192 true _ A17.out ?side1).mono ?_); (case side1 => exact LW.below HLW.out (by repeat (first | (with_reducible first | exact HB.out | apply below_alloc | apply pw_below_drewN | apply below_drew1) | exact HB.out))); rintro e w34 ⟨rfl, hb⟩; refine ⟨_, rfl, ?_⟩; have n0_ := Aside0.mk (Kd.R_below (by (with_reducible repeat (first | apply Kd.R_alloc | apply Kd.R_drewN | apply Kd.R_drew)); exact HO_30.out) hb); have n1_ := Aside0.mk (below_step (by repeat (first | (with_reducible first | exact HB.out | apply below_alloc | apply pw_below_drewN | apply below_drew1) | exact HB.out)) hb); clear HO_30; clear HB; have HO_30 := n0_; have HB := n1_; clear n0_ n1_; (try clear hb); (try clear hb2); (try clear hk); (try clear hi)) | ((with_reducible refine gate_callee (f := 15) rfl ?_); refine goesL_ (some 49) rfl rfl Tryd.func15 (by kernel_rfl) rfl #[.string (rdOf ByteArray.empty y185 x32_1)] rfl (by (try simp only [List.map_toArray, List.map_cons, List.map_nil]); first | done | rfl | (simp only [List.length_drop, List.length_take]; rfl)) ?_; (with_reducible refine (colour_Money.calls (rdOf ByteArray.empty y185 x32_1) t194 t195 true _ A18.out ?side1).mono ?_); (case side1 => exact LW.below HLW.out (by repeat (first | (with_reducible first | exact HB.out | apply below_alloc | apply pw_below_drewN | apply below_drew1) | exact HB.out))); rintro e w35 ⟨rfl, hb⟩; refine ⟨_, rfl, ?_⟩; have n0_ := Aside0.mk (Kd.R_below (by (with_reducible repeat (first | apply Kd.R_alloc | apply Kd.R_drewN | apply Kd.R_drew)); exact HO_30.out) hb); have n1_ := Aside0.mk (below_step (by repeat (first | (with_reducible first | exact HB.out | apply below_alloc | apply pw_below_drewN | apply below_drew1) | exact HB.out)) hb); clear HO_30; clear HB; have HO_30 := n0_; have HB := n1_; clear n0_ n1_; (try clear hb); (try clear hb2); (try clear hk); (try clear hi)))
                        go_ret
                        exact ⟨by first | rfl | (simp [errW_none, errW_some] <;> rfl) | (simp only [← hji3, ← hji6]; first | rfl | (simp [errW_none, errW_some] <;> rfl)) | (simp [*, errW_none, errW_some] <;> rfl), by repeat (first | (with_reducible first | exact HB.out | apply below_alloc | apply pw_below_drewN | apply below_drew1) | exact HB.out)⟩
                      · replace c32 := Bool.eq_false_iff.mpr c32
                        subst c32
                        have H1 : (numerarylaw12_ColourApart.l0 k1 a1 y185 (y185.length : Int) (wrap64 (x32_1 + 1))) = some r := by rw [if_neg (show ¬ (false = true) by decide)] at H; exact H
                        clear H
                        have H := H1
                        clear H1
                        have H' := Aside0.mk H
                        clear H
                        have p188 : 0 ≤ (x32_1 : Int) := of_decide_eq_true (by first | (with_reducible assumption) | assumption)
                        have q188 : x32_1 < (y185.length : Int) := of_decide_eq_true (by first | (with_reducible assumption) | assumption)
                        obtain ⟨ad188, e188, hx188_0⟩ := Kd.at_string (Kd.R_reads' HO_30.out).2.2 x32_1 p188 q188
                        cases e188
                        replace p188 := eq_true p188
                        replace q188 := eq_true q188
                        go_wp2_with (first | ((with_reducible refine gate_callee (f := 7) rfl ?_); refine goesL_ (some 38) rfl rfl Tryd.func7 (by kernel_rfl) rfl #[.string (rdOf ByteArray.empty y185 x32_1)] rfl (by (try simp only [List.map_toArray, List.map_cons, List.map_nil]); first | done | rfl | (simp only [List.length_drop, List.length_take]; rfl)) ?_; (with_reducible refine (colour_Number.calls k1 (rdOf ByteArray.empty y185 x32_1) t189 false _ A16.out ?side1).mono ?_); (case side1 => exact LW.below HLW.out (by repeat (first | (with_reducible first | exact HB.out | apply below_alloc | apply pw_below_drewN | apply below_drew1) | exact HB.out))); rintro e w36 ⟨rfl, hb⟩; refine ⟨_, rfl, ?_⟩; have n0_ := Aside0.mk (Kd.R_below (by (with_reducible repeat (first | apply Kd.R_alloc | apply Kd.R_drewN | apply Kd.R_drew)); exact HO_30.out) hb); have n1_ := Aside0.mk (below_step (by repeat (first | (with_reducible first | exact HB.out | apply below_alloc | apply pw_below_drewN | apply below_drew1) | exact HB.out)) hb); clear HO_30; clear HB; have HO_30 := n0_; have HB := n1_; clear n0_ n1_; (try clear hb); (try clear hb2); (try clear hk); (try clear hi)) | ((with_reducible refine gate_callee (f := 13) rfl ?_); refine goesL_ (some 43) rfl rfl Tryd.func13 (by kernel_rfl) rfl #[.string (rdOf ByteArray.empty y185 x32_1)] rfl (by (try simp only [List.map_toArray, List.map_cons, List.map_nil]); first | done | rfl | (simp only [List.length_drop, List.length_take]; rfl)) ?_; (with_reducible refine (colour_Elapsed.calls (rdOf ByteArray.empty y185 x32_1) t191 t192 true _ A17.out ?side1).mono ?_); (case side1 => exact LW.below HLW.out (by repeat (first | (with_reducible first | exact HB.out | apply below_alloc | apply pw_below_drewN | apply below_drew1) | exact HB.out))); rintro e w37 ⟨rfl, hb⟩; refine ⟨_, rfl, ?_⟩; have n0_ := Aside0.mk (Kd.R_below (by (with_reducible repeat (first | apply Kd.R_alloc | apply Kd.R_drewN | apply Kd.R_drew)); exact HO_30.out) hb); have n1_ := Aside0.mk (below_step (by repeat (first | (with_reducible first | exact HB.out | apply below_alloc | apply pw_below_drewN | apply below_drew1) | exact HB.out)) hb); clear HO_30; clear HB; have HO_30 := n0_; have HB := n1_; clear n0_ n1_; (try clear hb); (try clear hb2); (try clear hk); (try clear hi)) | ((with_reducible refine gate_callee (f := 15) rfl ?_); refine goesL_ (some 49) rfl rfl Tryd.func15 (by kernel_rfl) rfl #[.string (rdOf ByteArray.empty y185 x32_1)] rfl (by (try simp only [List.map_toArray, List.map_cons, List.map_nil]); first | done | rfl | (simp only [List.length_drop, List.length_take]; rfl)) ?_; (with_reducible refine (colour_Money.calls (rdOf ByteArray.empty y185 x32_1) t194 t195 false _ A18.out ?side1).mono ?_); (case side1 => exact LW.below HLW.out (by repeat (first | (with_reducible first | exact HB.out | apply below_alloc | apply pw_below_drewN | apply below_drew1) | exact HB.out))); rintro e w38 ⟨rfl, hb⟩; refine ⟨_, rfl, ?_⟩; have n0_ := Aside0.mk (Kd.R_below (by (with_reducible repeat (first | apply Kd.R_alloc | apply Kd.R_drewN | apply Kd.R_drew)); exact HO_30.out) hb); have n1_ := Aside0.mk (below_step (by repeat (first | (with_reducible first | exact HB.out | apply below_alloc | apply pw_below_drewN | apply below_drew1) | exact HB.out)) hb); clear HO_30; clear HB; have HO_30 := n0_; have HB := n1_; clear n0_ n1_; (try clear hb); (try clear hb2); (try clear hk); (try clear hi)))
                        go_roundg k1
                        case measure => have := HK1.out; omega
                        case rel => exact ⟨(wrap64 (x32_1 + 1)), (by first | rfl | (simp; done) | (simp [*]; done) | (simp only [isEmpty_ne, Bool.not_not]) | (simp only [isEmpty_ne])), H', ⟨by have := HK1.out; omega⟩, ⟨by (with_reducible repeat (first | apply Kd.R_alloc | apply Kd.R_drewN | apply Kd.R_drew)); exact HO_30.out⟩, ⟨by repeat (first | (with_reducible first | exact HB.out | apply below_alloc | apply pw_below_drewN | apply below_drew1) | exact HB.out)⟩⟩
                    · replace c31 := Bool.eq_false_iff.mpr c31
                      subst c31
                      have H1 : (numerarylaw12_ColourApart.l0 k1 a1 y185 (y185.length : Int) (wrap64 (x32_1 + 1))) = some r := by rw [if_neg (show ¬ (false = true) by decide)] at H; exact H
                      clear H
                      have H := H1
                      clear H1
                      have H' := Aside0.mk H
                      clear H
                      have p188 : 0 ≤ (x32_1 : Int) := of_decide_eq_true (by first | (with_reducible assumption) | assumption)
                      have q188 : x32_1 < (y185.length : Int) := of_decide_eq_true (by first | (with_reducible assumption) | assumption)
                      obtain ⟨ad188, e188, hx188_0⟩ := Kd.at_string (Kd.R_reads' HO_30.out).2.2 x32_1 p188 q188
                      cases e188
                      replace p188 := eq_true p188
                      replace q188 := eq_true q188
                      go_wp2_with (first | ((with_reducible refine gate_callee (f := 7) rfl ?_); refine goesL_ (some 38) rfl rfl Tryd.func7 (by kernel_rfl) rfl #[.string (rdOf ByteArray.empty y185 x32_1)] rfl (by (try simp only [List.map_toArray, List.map_cons, List.map_nil]); first | done | rfl | (simp only [List.length_drop, List.length_take]; rfl)) ?_; (with_reducible refine (colour_Number.calls k1 (rdOf ByteArray.empty y185 x32_1) t189 false _ A16.out ?side1).mono ?_); (case side1 => exact LW.below HLW.out (by repeat (first | (with_reducible first | exact HB.out | apply below_alloc | apply pw_below_drewN | apply below_drew1) | exact HB.out))); rintro e w39 ⟨rfl, hb⟩; refine ⟨_, rfl, ?_⟩; have n0_ := Aside0.mk (Kd.R_below (by (with_reducible repeat (first | apply Kd.R_alloc | apply Kd.R_drewN | apply Kd.R_drew)); exact HO_30.out) hb); have n1_ := Aside0.mk (below_step (by repeat (first | (with_reducible first | exact HB.out | apply below_alloc | apply pw_below_drewN | apply below_drew1) | exact HB.out)) hb); clear HO_30; clear HB; have HO_30 := n0_; have HB := n1_; clear n0_ n1_; (try clear hb); (try clear hb2); (try clear hk); (try clear hi)) | ((with_reducible refine gate_callee (f := 13) rfl ?_); refine goesL_ (some 43) rfl rfl Tryd.func13 (by kernel_rfl) rfl #[.string (rdOf ByteArray.empty y185 x32_1)] rfl (by (try simp only [List.map_toArray, List.map_cons, List.map_nil]); first | done | rfl | (simp only [List.length_drop, List.length_take]; rfl)) ?_; (with_reducible refine (colour_Elapsed.calls (rdOf ByteArray.empty y185 x32_1) t191 t192 false _ A17.out ?side1).mono ?_); (case side1 => exact LW.below HLW.out (by repeat (first | (with_reducible first | exact HB.out | apply below_alloc | apply pw_below_drewN | apply below_drew1) | exact HB.out))); rintro e w40 ⟨rfl, hb⟩; refine ⟨_, rfl, ?_⟩; have n0_ := Aside0.mk (Kd.R_below (by (with_reducible repeat (first | apply Kd.R_alloc | apply Kd.R_drewN | apply Kd.R_drew)); exact HO_30.out) hb); have n1_ := Aside0.mk (below_step (by repeat (first | (with_reducible first | exact HB.out | apply below_alloc | apply pw_below_drewN | apply below_drew1) | exact HB.out)) hb); clear HO_30; clear HB; have HO_30 := n0_; have HB := n1_; clear n0_ n1_; (try clear hb); (try clear hb2); (try clear hk); (try clear hi)) | ((with_reducible refine gate_callee (f := 15) rfl ?_); refine goesL_ (some 49) rfl rfl Tryd.func15 (by kernel_rfl) rfl #[.string (rdOf ByteArray.empty y185 x32_1)] rfl (by (try simp only [List.map_toArray, List.map_cons, List.map_nil]); first | done | rfl | (simp only [List.length_drop, List.length_take]; rfl)) ?_; (with_reducible refine (colour_Money.calls (rdOf ByteArray.empty y185 x32_1) t194 t195 t196 _ A18.out ?side1).mono ?_); (case side1 => exact LW.below HLW.out (by repeat (first | (with_reducible first | exact HB.out | apply below_alloc | apply pw_below_drewN | apply below_drew1) | exact HB.out))); rintro e w41 ⟨rfl, hb⟩; refine ⟨_, rfl, ?_⟩; have n0_ := Aside0.mk (Kd.R_below (by (with_reducible repeat (first | apply Kd.R_alloc | apply Kd.R_drewN | apply Kd.R_drew)); exact HO_30.out) hb); have n1_ := Aside0.mk (below_step (by repeat (first | (with_reducible first | exact HB.out | apply below_alloc | apply pw_below_drewN | apply below_drew1) | exact HB.out)) hb); clear HO_30; clear HB; have HO_30 := n0_; have HB := n1_; clear n0_ n1_; (try clear hb); (try clear hb2); (try clear hk); (try clear hi)))
                      go_roundg k1
                      case measure => have := HK1.out; omega
                      case rel => exact ⟨(wrap64 (x32_1 + 1)), (by first | rfl | (simp; done) | (simp [*]; done) | (simp only [isEmpty_ne, Bool.not_not]) | (simp only [isEmpty_ne])), H', ⟨by have := HK1.out; omega⟩, ⟨by (with_reducible repeat (first | apply Kd.R_alloc | apply Kd.R_drewN | apply Kd.R_drew)); exact HO_30.out⟩, ⟨by repeat (first | (with_reducible first | exact HB.out | apply below_alloc | apply pw_below_drewN | apply below_drew1) | exact HB.out)⟩⟩
                · rw [if_neg c15] at H
                  exact absurd H (by simp)
              · rw [if_neg c14] at H
                exact absurd H (by simp)
            · rw [if_neg c13] at H
              have c13b0 : decide (x32_1 < (y185.length : Int)) = false := decide_eq_false c13
              clear c13
              replace H : (numerarylaw12_ColourApart.l1 k1 (1 + ((ji6) % 64)) 1) = some r := by first | (rw [hji6] at H; exact H) | (simp only [hji6] at H ⊢; exact H)
              (try (have hji6l : 0 ≤ ji6 := by (rw [← hji6]; unfold mx; (repeat' split) <;> omega)))
              (try (have hji6m : 0 ≤ ji6 := by omega))
              have hji6_ : (if 0 < a1 then a1 else 0) = ji6 := hji6
              have H' := Aside0.mk H
              clear H
              go_wp2
              go_loopg [16] k1 (fun kq v16 w' => ∃ (x16_2 : Int), v16 = .int .i64 x16_2 ∧ Aside0 (numerarylaw12_ColourApart.l1 kq (1 + ((ji6) % 64)) x16_2 = some r) ∧ Aside0 (kq ≤ k1) ∧ Aside0 (Below w.heap.size w w'))
              case atStart => exact ⟨(1), (by first | rfl | (simp; done) | (simp [*]; done) | (simp only [isEmpty_ne, Bool.not_not]) | (simp only [isEmpty_ne])), H', ⟨Nat.le_refl _⟩, ⟨by repeat (first | (with_reducible first | exact HB.out | apply below_alloc | apply pw_below_drewN | apply below_drew1) | exact HB.out)⟩⟩
              case round =>
                clear H'
                try clear c1
                try clear p1
                try clear q1
                try clear hx1
                try clear c2
                try clear p2
                try clear c3
                try clear c4
                try clear c4b0
                try clear c4b1
                try clear c5
                try clear c5b0
                try clear c5b1
                try clear c6
                try clear p6
                try clear c7
                try clear c8
                try clear c8b0
                try clear c8b1
                try clear c8b2
                try clear c9
                try clear c13
                try clear c13b0
                try clear c14
                try clear c14b0
                try clear c15
                try clear c15b0
                try clear p18
                try clear q18
                try clear hx18
                try clear c19
                try clear c20
                try clear c24
                try clear c31
                try clear c32
                try clear hx188_0
                try clear p188
                try clear p2
                try clear q188
                obtain ⟨x16_2, rfl, HA, HK2, HB⟩ := hrel
                cases gk with
                | zero => exact absurd HA.out (by simp [numerarylaw12_ColourApart.l1])
                | succ k2 =>
                  have H := HA.out
                  clear HA
                  simp only [numerarylaw12_ColourApart.l1] at H
                  by_cases c42 : x16_2 ≤ 64
                  · rw [if_pos c42] at H
                    have c42b0 : decide (x16_2 ≤ 64) = true := decide_eq_true c42
                    clear c42
                    by_cases c43 : x16_2 = (1 + ((ji6) % 64))
                    · rw [if_pos c43] at H
                      have c43b0 : (x16_2 == (1 + ((ji6) % 64))) = true := beq_iff_eq.mpr c43
                      have c43b1 : (x16_2 != (1 + ((ji6) % 64))) = false := bne_eq_false_iff_eq.mpr c43
                      clear c43
                      have H' := Aside0.mk H
                      clear H
                      go_wp2
                      go_roundg k2
                      case measure => have := HK1.out; have := HK2.out; omega
                      case rel => exact ⟨(wrap64 (x16_2 + 1)), (by first | rfl | (simp; done) | (simp [*]; done) | (simp only [isEmpty_ne, Bool.not_not]) | (simp only [isEmpty_ne])), H', ⟨by have := HK1.out; have := HK2.out; omega⟩, ⟨by repeat (first | (with_reducible first | exact HB.out | apply below_alloc | apply pw_below_drewN | apply below_drew1) | exact HB.out)⟩⟩
                    · rw [if_neg c43] at H
                      have c43b0 : (x16_2 == (1 + ((ji6) % 64))) = false := beq_eq_false_iff_ne.mpr c43
                      have c43b1 : (x16_2 != (1 + ((ji6) % 64))) = true := bne_iff_ne.mpr c43
                      replace H := Option.bind_eq_some_iff.mp H
                      obtain ⟨t198, A440, H⟩ := H
                      replace H : ((colour_Name.f k2 (1 + ((ji6) % 64))).bind fun t199 => (if t198.toList = t199.toList then (some false) else (numerarylaw12_ColourApart.l1 k2 (1 + ((ji6) % 64)) (wrap64 (x16_2 + 1))))) = some r := H
                      have A44 := Aside0.mk A440
                      clear A440
                      replace H := Option.bind_eq_some_iff.mp H
                      obtain ⟨t199, A450, H⟩ := H
                      replace H : (if t198.toList = t199.toList then (some false) else (numerarylaw12_ColourApart.l1 k2 (1 + ((ji6) % 64)) (wrap64 (x16_2 + 1)))) = some r := H
                      have A45 := Aside0.mk A450
                      clear A450
                      by_cases c46 : t198.toList = t199.toList
                      · rw [if_pos c46] at H
                        have c46b0 : (t198.toList == t199.toList) = true := beq_iff_eq.mpr c46
                        have c46b1 : (t198.toList != t199.toList) = false := bne_eq_false_iff_eq.mpr c46
                        clear c46
                        obtain rfl := Option.some.inj H
                        go_wp2_with (first | (go_at_call 9; (with_reducible refine (colour_Name.calls k2 x16_2 t198 _ A44.out ?side1).mono ?_); (case side1 => exact LW.below HLW.out (by repeat (first | (with_reducible first | exact HB.out | apply below_alloc | apply pw_below_drewN | apply below_drew1) | exact HB.out))); rintro e w47 ⟨rfl, hb⟩; have n0_ := Aside0.mk (below_step (by repeat (first | (with_reducible first | exact HB.out | apply below_alloc | apply pw_below_drewN | apply below_drew1) | exact HB.out)) hb); clear HB; have HB := n0_; clear n0_; (try clear hb); (try clear hb2); (try clear hk); (try clear hi)) | (go_at_call 9; (with_reducible refine (colour_Name.calls k2 (1 + ((ji6) % 64)) t199 _ A45.out ?side1).mono ?_); (case side1 => exact LW.below HLW.out (by repeat (first | (with_reducible first | exact HB.out | apply below_alloc | apply pw_below_drewN | apply below_drew1) | exact HB.out))); rintro e w48 ⟨rfl, hb⟩; have n0_ := Aside0.mk (below_step (by repeat (first | (with_reducible first | exact HB.out | apply below_alloc | apply pw_below_drewN | apply below_drew1) | exact HB.out)) hb); clear HB; have HB := n0_; clear n0_; (try clear hb); (try clear hb2); (try clear hk); (try clear hi)))
                        go_ret
                        exact ⟨by first | rfl | (simp [errW_none, errW_some] <;> rfl) | (simp only [← hji3, ← hji6, ← hji6]; first | rfl | (simp [errW_none, errW_some] <;> rfl)) | (simp [*, errW_none, errW_some] <;> rfl), by repeat (first | (with_reducible first | exact HB.out | apply below_alloc | apply pw_below_drewN | apply below_drew1) | exact HB.out)⟩
                      · rw [if_neg c46] at H
                        have c46b0 : (t198.toList == t199.toList) = false := beq_eq_false_iff_ne.mpr c46
                        have c46b1 : (t198.toList != t199.toList) = true := bne_iff_ne.mpr c46
                        have H' := Aside0.mk H
                        clear H
                        go_wp2_with (first | (go_at_call 9; (with_reducible refine (colour_Name.calls k2 x16_2 t198 _ A44.out ?side1).mono ?_); (case side1 => exact LW.below HLW.out (by repeat (first | (with_reducible first | exact HB.out | apply below_alloc | apply pw_below_drewN | apply below_drew1) | exact HB.out))); rintro e w49 ⟨rfl, hb⟩; have n0_ := Aside0.mk (below_step (by repeat (first | (with_reducible first | exact HB.out | apply below_alloc | apply pw_below_drewN | apply below_drew1) | exact HB.out)) hb); clear HB; have HB := n0_; clear n0_; (try clear hb); (try clear hb2); (try clear hk); (try clear hi)) | (go_at_call 9; (with_reducible refine (colour_Name.calls k2 (1 + ((ji6) % 64)) t199 _ A45.out ?side1).mono ?_); (case side1 => exact LW.below HLW.out (by repeat (first | (with_reducible first | exact HB.out | apply below_alloc | apply pw_below_drewN | apply below_drew1) | exact HB.out))); rintro e w50 ⟨rfl, hb⟩; have n0_ := Aside0.mk (below_step (by repeat (first | (with_reducible first | exact HB.out | apply below_alloc | apply pw_below_drewN | apply below_drew1) | exact HB.out)) hb); clear HB; have HB := n0_; clear n0_; (try clear hb); (try clear hb2); (try clear hk); (try clear hi)))
                        go_roundg k2
                        case measure => have := HK1.out; have := HK2.out; omega
                        case rel => exact ⟨(wrap64 (x16_2 + 1)), (by first | rfl | (simp; done) | (simp [*]; done) | (simp only [isEmpty_ne, Bool.not_not]) | (simp only [isEmpty_ne])), H', ⟨by have := HK1.out; have := HK2.out; omega⟩, ⟨by repeat (first | (with_reducible first | exact HB.out | apply below_alloc | apply pw_below_drewN | apply below_drew1) | exact HB.out)⟩⟩
                  · rw [if_neg c42] at H
                    have c42b0 : decide (x16_2 ≤ 64) = false := decide_eq_false c42
                    clear c42
                    replace H := Option.bind_eq_some_iff.mp H
                    obtain ⟨t197, A510, H⟩ := H
                    replace H : (some t197) = some r := H
                    have A51 := Aside0.mk A510
                    clear A510
                    obtain rfl := Option.some.inj H
                    go_wp2_with (first | ((with_reducible refine gate_callee (f := 12) rfl ?_); refine goesL_ (some 88) rfl rfl Tryd.func12 (by kernel_rfl) rfl #[] rfl (by (try simp only [List.map_toArray, List.map_cons, List.map_nil]); first | done | rfl | (simp only [List.length_drop, List.length_take]; rfl)) ?_; (with_reducible refine (numerarylaw12_wakes.calls k2  t197 _ A51.out ?side1).mono ?_); (case side1 => exact LW.below HLW.out (by repeat (first | (with_reducible first | exact HB.out | apply below_alloc | apply pw_below_drewN | apply below_drew1) | exact HB.out))); rintro e w52 ⟨rfl, hb⟩; refine ⟨_, rfl, ?_⟩; have n0_ := Aside0.mk (below_step (by repeat (first | (with_reducible first | exact HB.out | apply below_alloc | apply pw_below_drewN | apply below_drew1) | exact HB.out)) hb); clear HB; have HB := n0_; clear n0_; (try clear hb); (try clear hb2); (try clear hk); (try clear hi)))
                    go_ret
                    exact ⟨by first | rfl | (simp [errW_none, errW_some] <;> rfl) | (simp only [← hji3, ← hji6, ← hji6]; first | rfl | (simp [errW_none, errW_some] <;> rfl)) | (simp [*, errW_none, errW_some] <;> rfl), by repeat (first | (with_reducible first | exact HB.out | apply below_alloc | apply pw_below_drewN | apply below_drew1) | exact HB.out)⟩
      · rw [if_neg c8] at H
        exact absurd H (by simp)
    · rw [if_neg c5] at H
      exact absurd H (by simp)
  · rw [if_neg c4] at H
    exact absurd H (by simp)

/-- THE ONE PURE STATEMENT of numerarylaw12_ColourApart: yours. -/
def numerarylaw12_ColourApart.Pure : Prop := ∀ (a0 : ByteArray) (a1 : Int), a0.size ≤ 140737488351232 → (Lit.int .i64 a1).wf = true → ∃ k, numerarylaw12_ColourApart.f k a0 a1 = some true
theorem numerarylaw12_ColourApart.walk (P : numerarylaw12_ColourApart.Pure) (a0 : ByteArray) (a1 : Int) (w : World) (w0 : a0.size ≤ 140737488351232) (w1 : (Lit.int .i64 a1).wf = true) (HLW_ : LW w) :
    Calls Tryd.prog 6 #[.string a0, .int .i64 a1] w fun e w' => e = .returned (.bool true) ∧ Below w.heap.size w w' := by
  obtain ⟨k, h⟩ := P a0 a1 w0 w1
  refine (numerarylaw12_ColourApart.calls k a0 a1 true w h HLW_).mono ?_
  rintro e w' ⟨rfl, hd⟩
  exact ⟨rfl, hd⟩

end Go.Proofs.YtcdpjohbnfkmiaaDoor.P
