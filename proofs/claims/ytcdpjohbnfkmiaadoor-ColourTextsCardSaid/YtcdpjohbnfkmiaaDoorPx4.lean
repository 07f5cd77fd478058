-- of this claim: by a program of this session's own over the kit's print
import Derived.Test.YtcdpjohbnfkmiaaDoorPx0
import Derived.Test.YtcdpjohbnfkmiaaDoorGL
import Derived.Test.YtcdpjohbnfkmiaaDoorGC
import Derived.Test.YtcdpjohbnfkmiaaDoorGLow
import Derived.Test.YtcdpjohbnfkmiaaDoorGMoney
import Derived.Test.YtcdpjohbnfkmiaaDoorGFu
namespace Go.Proofs.YtcdpjohbnfkmiaaDoor.P
open Go.RowKit Go.Proofs.YtcdpjohbnfkmiaaDoor.G Go.Proofs.YtcdpjohbnfkmiaaDoorW.PrintWords Go.Proofs.YtcdpjohbnfkmiaaDoorW.PrintLast Go.Proofs.YtcdpjohbnfkmiaaDoorW.PrintMore
attribute [local go_sem] max2_int min2_int max_two min_two max_three min_three max_four min_four   -- for this text's walks alone
set_option linter.unusedVariables false
set_option linter.unusedSimpArgs false

/-! ### numeraryref12_Name: function 10 -/
def numeraryref12_Name.j0 : Nat → Int → Bool → Option (ByteArray)
  | 0, _, _ => none
  | k + 1, x0, x26 => if x26 = true then (some (⟨#[]⟩ : ByteArray)) else (if (wrap64 (x0 - 8)) < 10 then ((some (([(wrap64 (48 + (wrap64 (x0 - 8)))) % 256] : List Int) : List Int)).bind fun y115 => (if 5 + (strOfNums y115).size ≤ 9223372036854775807 then (some ((⟨#[67, 111, 108, 111, 114]⟩ : ByteArray) ++ (strOfNums y115))) else (none))) else ((some (([(wrap64 (48 + (wrap64 (Int.tdiv (wrap64 (x0 - 8)) 10)))) % 256, (wrap64 (48 + (Int.tmod (wrap64 (x0 - 8)) 10))) % 256] : List Int) : List Int)).bind fun y118 => (if 5 + (strOfNums y118).size ≤ 9223372036854775807 then (some ((⟨#[67, 111, 108, 111, 114]⟩ : ByteArray) ++ (strOfNums y118))) else (none))))
def numeraryref12_Name.f (k : Nat) (a0 : Int) : Option (ByteArray) := if a0 = 1 then (some (⟨#[66, 108, 97, 99, 107]⟩ : ByteArray)) else (if a0 = 2 then (some (⟨#[66, 108, 117, 101]⟩ : ByteArray)) else (if a0 = 3 then (some (⟨#[67, 121, 97, 110]⟩ : ByteArray)) else (if a0 = 4 then (some (⟨#[71, 114, 101, 101, 110]⟩ : ByteArray)) else (if a0 = 5 then (some (⟨#[77, 97, 103, 101, 110, 116, 97]⟩ : ByteArray)) else (if a0 = 6 then (some (⟨#[82, 101, 100]⟩ : ByteArray)) else (if a0 = 7 then (some (⟨#[87, 104, 105, 116, 101]⟩ : ByteArray)) else (if a0 = 8 then (some (⟨#[89, 101, 108, 108, 111, 119]⟩ : ByteArray)) else (if a0 < 9 then (numeraryref12_Name.j0 k a0 true) else (numeraryref12_Name.j0 k a0 (decide (a0 > 64)))))))))))
theorem numeraryref12_Name.mono_l : ∀ k, (∀ y0 y1, LeO (numeraryref12_Name.j0 k y0 y1) (numeraryref12_Name.j0 (k + 1) y0 y1))
  | 0 => fun _ _ r h => by simp [numeraryref12_Name.j0] at h
  | k + 1 => by
    have ih0 := numeraryref12_Name.mono_l k
    · intro y0 y1
      unfold numeraryref12_Name.j0
      repeat' first
      | (with_reducible exact ih0 _ _)
      | (with_reducible exact LeO.refl _)
      | (with_reducible exact LeO.none _)
      | (with_reducible refine LeO.ite ?_ ?_)
      | (with_reducible refine LeO.bind ?_ (fun _ => ?_))
      | exact ih0 _ _
      | exact LeO.none _
      | refine LeO.ite ?_ ?_
      | refine LeO.bind ?_ (fun _ => ?_)
theorem numeraryref12_Name.mono : ∀ a0 k, LeO (numeraryref12_Name.f k a0) (numeraryref12_Name.f (k + 1) a0) := by
  intro a0 k
  have ih0 := numeraryref12_Name.mono_l k
  unfold numeraryref12_Name.f
  repeat' first
      | (with_reducible exact ih0 _ _)
      | (with_reducible exact LeO.refl _)
      | (with_reducible exact LeO.none _)
      | (with_reducible refine LeO.ite ?_ ?_)
      | (with_reducible refine LeO.bind ?_ (fun _ => ?_))
      | exact ih0 _ _
      | exact LeO.none _
      | refine LeO.ite ?_ ?_
      | refine LeO.bind ?_ (fun _ => ?_)
set_option maxHeartbeats 8000000 in
set_option maxRecDepth 100000 in
theorem numeraryref12_Name.calls (k : Nat) (a0 : Int) (r : ByteArray) (w : World) (h : numeraryref12_Name.f k a0 = some r) :
    Calls Tryd.prog 10 #[.int .i64 a0] w fun e w' => e = .returned (.string r) ∧ Below w.heap.size w w' := by
  have HB := Aside0.mk (Below.refl w.heap.size w)
  have H : (if a0 = 1 then (some (⟨#[66, 108, 97, 99, 107]⟩ : ByteArray)) else (if a0 = 2 then (some (⟨#[66, 108, 117, 101]⟩ : ByteArray)) else (if a0 = 3 then (some (⟨#[67, 121, 97, 110]⟩ : ByteArray)) else (if a0 = 4 then (some (⟨#[71, 114, 101, 101, 110]⟩ : ByteArray)) else (if a0 = 5 then (some (⟨#[77, 97, 103, 101, 110, 116, 97]⟩ : ByteArray)) else (if a0 = 6 then (some (⟨#[82, 101, 100]⟩ : ByteArray)) else (if a0 = 7 then (some (⟨#[87, 104, 105, 116, 101]⟩ : ByteArray)) else (if a0 = 8 then (some (⟨#[89, 101, 108, 108, 111, 119]⟩ : ByteArray)) else (if a0 < 9 then (numeraryref12_Name.j0 k a0 true) else (numeraryref12_Name.j0 k a0 (decide (a0 > 64)))))))))))) = some r := h
  clear h
  by_cases c2 : a0 = 1
  · rw [if_pos c2] at H
    have c2b0 : (a0 == 1) = true := beq_iff_eq.mpr c2
    have c2b1 : (a0 != 1) = false := bne_eq_false_iff_eq.mpr c2
    clear c2
    obtain rfl := Option.some.inj H
    go_enter Tryd.func10, Tryd.ntmps10
    go_wp2
    go_ret
    exact ⟨by first | rfl | (simp [errW_none, errW_some] <;> rfl) | (simp [*, errW_none, errW_some] <;> rfl), by repeat (first | (with_reducible first | exact HB.out | apply below_alloc | apply pw_below_drewN | apply below_drew1) | exact HB.out)⟩
  · rw [if_neg c2] at H
    have c2b0 : (a0 == 1) = false := beq_eq_false_iff_ne.mpr c2
    have c2b1 : (a0 != 1) = true := bne_iff_ne.mpr c2
    by_cases c3 : a0 = 2
    · rw [if_pos c3] at H
      have c3b0 : (a0 == 2) = true := beq_iff_eq.mpr c3
      have c3b1 : (a0 != 2) = false := bne_eq_false_iff_eq.mpr c3
      clear c3
      obtain rfl := Option.some.inj H
      go_enter Tryd.func10, Tryd.ntmps10
      go_wp2
      go_ret
      exact ⟨by first | rfl | (simp [errW_none, errW_some] <;> rfl) | (simp [*, errW_none, errW_some] <;> rfl), by repeat (first | (with_reducible first | exact HB.out | apply below_alloc | apply pw_below_drewN | apply below_drew1) | exact HB.out)⟩
    · rw [if_neg c3] at H
      have c3b0 : (a0 == 2) = false := beq_eq_false_iff_ne.mpr c3
      have c3b1 : (a0 != 2) = true := bne_iff_ne.mpr c3
      by_cases c4 : a0 = 3
      · rw [if_pos c4] at H
        have c4b0 : (a0 == 3) = true := beq_iff_eq.mpr c4
        have c4b1 : (a0 != 3) = false := bne_eq_false_iff_eq.mpr c4
        clear c4
        obtain rfl := Option.some.inj H
        go_enter Tryd.func10, Tryd.ntmps10
        go_wp2
        go_ret
        exact ⟨by first | rfl | (simp [errW_none, errW_some] <;> rfl) | (simp [*, errW_none, errW_some] <;> rfl), by repeat (first | (with_reducible first | exact HB.out | apply below_alloc | apply pw_below_drewN | apply below_drew1) | exact HB.out)⟩
      · rw [if_neg c4] at H
        have c4b0 : (a0 == 3) = false := beq_eq_false_iff_ne.mpr c4
        have c4b1 : (a0 != 3) = true := bne_iff_ne.mpr c4
        by_cases c5 : a0 = 4
        · rw [if_pos c5] at H
          have c5b0 : (a0 == 4) = true := beq_iff_eq.mpr c5
          have c5b1 : (a0 != 4) = false := bne_eq_false_iff_eq.mpr c5
          clear c5
          obtain rfl := Option.some.inj H
          go_enter Tryd.func10, Tryd.ntmps10
          go_wp2
          go_ret
          exact ⟨by first | rfl | (simp [errW_none, errW_some] <;> rfl) | (simp [*, errW_none, errW_some] <;> rfl), by repeat (first | (with_reducible first | exact HB.out | apply below_alloc | apply pw_below_drewN | apply below_drew1) | exact HB.out)⟩
        · rw [if_neg c5] at H
          have c5b0 : (a0 == 4) = false := beq_eq_false_iff_ne.mpr c5
          have c5b1 : (a0 != 4) = true := bne_iff_ne.mpr c5
          by_cases c6 : a0 = 5
          · rw [if_pos c6] at H
            have c6b0 : (a0 == 5) = true := beq_iff_eq.mpr c6
            have c6b1 : (a0 != 5) = false := bne_eq_false_iff_eq.mpr c6
            clear c6
            obtain rfl := Option.some.inj H
            go_enter Tryd.func10, Tryd.ntmps10
            go_wp2
            go_ret
            exact ⟨by first | rfl | (simp [errW_none, errW_some] <;> rfl) | (simp [*, errW_none, errW_some] <;> rfl), by repeat (first | (with_reducible first | exact HB.out | apply below_alloc | apply pw_below_drewN | apply below_drew1) | exact HB.out)⟩
          · rw [if_neg c6] at H
            have c6b0 : (a0 == 5) = false := beq_eq_false_iff_ne.mpr c6
            have c6b1 : (a0 != 5) = true := bne_iff_ne.mpr c6
            by_cases c7 : a0 = 6
            · rw [if_pos c7] at H
              have c7b0 : (a0 == 6) = true := beq_iff_eq.mpr c7
              have c7b1 : (a0 != 6) = false := bne_eq_false_iff_eq.mpr c7
              clear c7
              obtain rfl := Option.some.inj H
              go_enter Tryd.func10, Tryd.ntmps10
              go_wp2
              go_ret
              exact ⟨by first | rfl | (simp [errW_none, errW_some] <;> rfl) | (simp [*, errW_none, errW_some] <;> rfl), by repeat (first | (with_reducible first | exact HB.out | apply below_alloc | apply pw_below_drewN | apply below_drew1) | exact HB.out)⟩
            · rw [if_neg c7] at H
              have c7b0 : (a0 == 6) = false := beq_eq_false_iff_ne.mpr c7
              have c7b1 : (a0 != 6) = true := bne_iff_ne.mpr c7
              by_cases c8 : a0 = 7
              · rw [if_pos c8] at H
                have c8b0 : (a0 == 7) = true := beq_iff_eq.mpr c8
                have c8b1 : (a0 != 7) = false := bne_eq_false_iff_eq.mpr c8
                clear c8
                obtain rfl := Option.some.inj H
                go_enter Tryd.func10, Tryd.ntmps10
                go_wp2
                go_ret
                exact ⟨by first | rfl | (simp [errW_none, errW_some] <;> rfl) | (simp [*, errW_none, errW_some] <;> rfl), by repeat (first | (with_reducible first | exact HB.out | apply below_alloc | apply pw_below_drewN | apply below_drew1) | exact HB.out)⟩
              · rw [if_neg c8] at H
                have c8b0 : (a0 == 7) = false := beq_eq_false_iff_ne.mpr c8
                have c8b1 : (a0 != 7) = true := bne_iff_ne.mpr c8
                by_cases c9 : a0 = 8
                · rw [if_pos c9] at H
                  have c9b0 : (a0 == 8) = true := beq_iff_eq.mpr c9
                  have c9b1 : (a0 != 8) = false := bne_eq_false_iff_eq.mpr c9
                  clear c9
                  obtain rfl := Option.some.inj H
                  go_enter Tryd.func10, Tryd.ntmps10
                  go_wp2
                  go_ret
                  exact ⟨by first | rfl | (simp [errW_none, errW_some] <;> rfl) | (simp [*, errW_none, errW_some] <;> rfl), by repeat (first | (with_reducible first | exact HB.out | apply below_alloc | apply pw_below_drewN | apply below_drew1) | exact HB.out)⟩
                · rw [if_neg c9] at H
                  have c9b0 : (a0 == 8) = false := beq_eq_false_iff_ne.mpr c9
                  have c9b1 : (a0 != 8) = true := bne_iff_ne.mpr c9
                  have HC10 := Aside0.mk H
                  clear H
                  go_enter Tryd.func10, Tryd.ntmps10
                  go_upto_region 18 with (fail)
                  go_cut [26] (fun v26 wc => ∃ (kq : Nat) (x26_9 : Bool), v26 = .bool x26_9 ∧ Aside0 (numeraryref12_Name.j0 kq a0 x26_9 = some r) ∧ Aside0 (kq ≤ k) ∧ Aside0 (Below w.heap.size w wc))
                  case first =>
                    have H := HC10.out
                    clear HC10
                    by_cases c11 : a0 < 9
                    · rw [if_pos c11] at H
                      have c11b0 : decide (a0 < 9) = true := decide_eq_true c11
                      clear c11
                      (first | rw [c11b0] | (simp only [i64_w, i32_w]; rw [c11b0]) | skip)
                      have H' := Aside0.mk H
                      clear H
                      go_wp2
                      go_meet
                      case rel => exact ⟨_, (true), (by first | rfl | (simp; done) | (simp [*]; done) | (simp only [isEmpty_ne, Bool.not_not]) | (simp only [isEmpty_ne])), H', ⟨by first | omega | exact Nat.le_refl _⟩, ⟨by repeat (first | (with_reducible first | exact HB.out | apply below_alloc | apply pw_below_drewN | apply below_drew1) | exact HB.out)⟩⟩
                    · rw [if_neg c11] at H
                      have c11b0 : decide (a0 < 9) = false := decide_eq_false c11
                      clear c11
                      (first | rw [c11b0] | (simp only [i64_w, i32_w]; rw [c11b0]) | skip)
                      have H' := Aside0.mk H
                      clear H
                      go_wp2
                      go_meet
                      case rel => exact ⟨_, (decide (a0 > 64)), (by first | rfl | (simp; done) | (simp [*]; done) | (simp only [isEmpty_ne, Bool.not_not]) | (simp only [isEmpty_ne])), H', ⟨by first | omega | exact Nat.le_refl _⟩, ⟨by repeat (first | (with_reducible first | exact HB.out | apply below_alloc | apply pw_below_drewN | apply below_drew1) | exact HB.out)⟩⟩
                  case rest =>
                    clear HC10
                    try clear c1
                    try clear c2
                    try clear c2b0
                    try clear c2b1
                    try clear p2
                    try clear c3
                    try clear c3b0
                    try clear c3b1
                    try clear c4
                    try clear c4b0
                    try clear c4b1
                    try clear c5
                    try clear c5b0
                    try clear c5b1
                    try clear c6
                    try clear c6b0
                    try clear c6b1
                    try clear c7
                    try clear c7b0
                    try clear c7b1
                    try clear c8
                    try clear c8b0
                    try clear c8b1
                    try clear c9
                    try clear c9b0
                    try clear c9b1
                    try clear c10
                    try clear c11
                    try clear c11b0
                    obtain ⟨kq, x26_9, rfl, HA, HJ9, HB⟩ := hcut
                    cases kq with
                    | zero => exact absurd HA.out (by simp [numeraryref12_Name.j0])
                    | succ kj9 =>
                      have H := HA.out
                      clear HA
                      simp only [numeraryref12_Name.j0] at H
                      by_cases c12 : x26_9 = true
                      · subst c12
                        have H1 : (some (⟨#[]⟩ : ByteArray)) = some r := by rw [if_pos rfl] at H; exact H
                        clear H
                        have H := H1
                        clear H1
                        obtain rfl := Option.some.inj H
                        go_wp2
                        go_ret
                        exact ⟨by first | rfl | (simp [errW_none, errW_some] <;> rfl) | (simp [*, errW_none, errW_some] <;> rfl), by repeat (first | (with_reducible first | exact HB.out | apply below_alloc | apply pw_below_drewN | apply below_drew1) | exact HB.out)⟩
                      · replace c12 := Bool.eq_false_iff.mpr c12
                        subst c12
                        have H1 : (if (wrap64 (a0 - 8)) < 10 then ((some (([(wrap64 (48 + (wrap64 (a0 - 8)))) % 256] : List Int) : List Int)).bind fun y115 => (if 5 + (strOfNums y115).size ≤ 9223372036854775807 then (some ((⟨#[67, 111, 108, 111, 114]⟩ : ByteArray) ++ (strOfNums y115))) else (none))) else ((some (([(wrap64 (48 + (wrap64 (Int.tdiv (wrap64 (a0 - 8)) 10)))) % 256, (wrap64 (48 + (Int.tmod (wrap64 (a0 - 8)) 10))) % 256] : List Int) : List Int)).bind fun y118 => (if 5 + (strOfNums y118).size ≤ 9223372036854775807 then (some ((⟨#[67, 111, 108, 111, 114]⟩ : ByteArray) ++ (strOfNums y118))) else (none)))) = some r := by rw [if_neg (show ¬ (false = true) by decide)] at H; exact H
                        clear H
                        have H := H1
                        clear H1
                        by_cases c13 : (wrap64 (a0 - 8)) < 10
                        · rw [if_pos c13] at H
                          have c13b0 : decide ((wrap64 (a0 - 8)) < 10) = true := decide_eq_true c13
                          clear c13
                          obtain ⟨y115, hy115⟩ : ∃ y_ : List Int, y_ = (([(wrap64 (48 + (wrap64 (a0 - 8)))) % 256] : List Int)) := ⟨_, rfl⟩
                          replace H : (if 5 + (strOfNums y115).size ≤ 9223372036854775807 then (some ((⟨#[67, 111, 108, 111, 114]⟩ : ByteArray) ++ (strOfNums y115))) else (none)) = some r := by first | (rw [hy115]; with_reducible exact H) | (have H2_ := (Option.bind_some _ _).symm.trans H; rw [hy115]; with_reducible exact H2_) | (have H2_ := (Option.bind_some _ _).symm.trans H; with_reducible exact H2_) | with_reducible exact H | (rw [hy115]; exact H) | exact H
                          have Ny115 := Aside0.mk hy115
                          clear hy115
                          by_cases c14 : 5 + (strOfNums y115).size ≤ 9223372036854775807
                          · rw [if_pos c14] at H
                            have c14b0 := eq_true c14
                            have c14b1 : decide (5 + (strOfNums y115).size ≤ 9223372036854775807) = true := decide_eq_true c14
                            try have c14b2 : (9223372036854775807 < 5 + (strOfNums y115).size) = False := eq_false (Nat.not_lt.2 c14)
                            obtain rfl := Option.some.inj H
                            go_wp2_with (first | ((with_reducible refine gate_dst (N := 34) rfl ?_); refine Kd.R_lit (Kd.int .u8) _ 5 ?hg (N := 34) ?hd (xs := ([(wrap64 (48 + (wrap64 (a0 - 8)))) % 256] : List Int)) (inner := [.int .u8 ((wrap64 (48 + (wrap64 (a0 - 8)))) % 256)]) (ok := fun _ => True) (okp := fun _ => True) ?hr ?hp (fun _ hk => hk) trivial (Below.refl _ _) (Nat.le_refl _) (by simp) ?_; (case hd => rfl); (case hg => rfl); (case hr => first | (go_simp; done) | (go_simp; rfl)); (case hp => exact (Reps.one (show Kd.M (Kd.int .u8) _ _ _ ((wrap64 (48 + (wrap64 (a0 - 8)))) % 256) [.int .u8 ((wrap64 (48 + (wrap64 (a0 - 8)))) % 256)] from rfl) (Reps.none _ _))); intro v116 w15 ho16 hb hg_ hnew_; clear hg_ hnew_; (first | rw [← Ny115.out] at ho16 | (simp only [Int.reduceToNat] at ho16; rw [← Ny115.out] at ho16)); have n0_ := Aside0.mk (Kd.R_lower ho16 (below_size (by repeat (first | (with_reducible first | exact HB.out | apply below_alloc | apply pw_below_drewN | apply below_drew1) | exact HB.out)))); have n1_ := Aside0.mk (below_step (by repeat (first | (with_reducible first | exact HB.out | apply below_alloc | apply pw_below_drewN | apply below_drew1) | exact HB.out)) hb); clear HB; have HO117 := n0_; have HB := n1_; clear n0_ n1_; clear hb ho16; have hcv17 := own_string (P := Tryd.prog) Tryd.underlying41 Tryd.underlying5 Tryd.underlying9 (Kd.own_of_R HO117.out)))
                            go_ret
                            exact ⟨by first | rfl | (simp [errW_none, errW_some] <;> rfl) | (simp [*, errW_none, errW_some] <;> rfl), by repeat (first | (with_reducible first | exact HB.out | apply below_alloc | apply pw_below_drewN | apply below_drew1) | exact HB.out)⟩
                          · rw [if_neg c14] at H
                            exact absurd H (by simp)
                        · rw [if_neg c13] at H
                          have c13b0 : decide ((wrap64 (a0 - 8)) < 10) = false := decide_eq_false c13
                          clear c13
                          obtain ⟨y118, hy118⟩ : ∃ y_ : List Int, y_ = (([(wrap64 (48 + (wrap64 (Int.tdiv (wrap64 (a0 - 8)) 10)))) % 256, (wrap64 (48 + (Int.tmod (wrap64 (a0 - 8)) 10))) % 256] : List Int)) := ⟨_, rfl⟩
                          replace H : (if 5 + (strOfNums y118).size ≤ 9223372036854775807 then (some ((⟨#[67, 111, 108, 111, 114]⟩ : ByteArray) ++ (strOfNums y118))) else (none)) = some r := by first | (rw [hy118]; with_reducible exact H) | (have H2_ := (Option.bind_some _ _).symm.trans H; rw [hy118]; with_reducible exact H2_) | (have H2_ := (Option.bind_some _ _).symm.trans H; with_reducible exact H2_) | with_reducible exact H | (rw [hy118]; exact H) | exact H
                          have Ny118 := Aside0.mk hy118
                          clear hy118
                          by_cases c18 : 5 + (strOfNums y118).size ≤ 9223372036854775807
                          · rw [if_pos c18] at H
                            have c18b0 := eq_true c18
                            have c18b1 : decide (5 + (strOfNums y118).size ≤ 9223372036854775807) = true := decide_eq_true c18
                            try have c18b2 : (9223372036854775807 < 5 + (strOfNums y118).size) = False := eq_false (Nat.not_lt.2 c18)
                            obtain rfl := Option.some.inj H
                            go_wp2_with (first | ((with_reducible refine gate_dst (N := 45) rfl ?_); refine Kd.R_lit (Kd.int .u8) _ 5 ?hg (N := 45) ?hd (xs := ([(wrap64 (48 + (wrap64 (Int.tdiv (wrap64 (a0 - 8)) 10)))) % 256, (wrap64 (48 + (Int.tmod (wrap64 (a0 - 8)) 10))) % 256] : List Int)) (inner := [.int .u8 ((wrap64 (48 + (wrap64 (Int.tdiv (wrap64 (a0 - 8)) 10)))) % 256), .int .u8 ((wrap64 (48 + (Int.tmod (wrap64 (a0 - 8)) 10))) % 256)]) (ok := fun _ => True) (okp := fun _ => True) ?hr ?hp (fun _ hk => hk) trivial (Below.refl _ _) (Nat.le_refl _) (by simp) ?_; (case hd => rfl); (case hg => rfl); (case hr => first | (go_simp; done) | (go_simp; rfl)); (case hp => exact (Reps.one (show Kd.M (Kd.int .u8) _ _ _ ((wrap64 (48 + (wrap64 (Int.tdiv (wrap64 (a0 - 8)) 10)))) % 256) [.int .u8 ((wrap64 (48 + (wrap64 (Int.tdiv (wrap64 (a0 - 8)) 10)))) % 256)] from rfl) (Reps.one (show Kd.M (Kd.int .u8) _ _ _ ((wrap64 (48 + (Int.tmod (wrap64 (a0 - 8)) 10))) % 256) [.int .u8 ((wrap64 (48 + (Int.tmod (wrap64 (a0 - 8)) 10))) % 256)] from rfl) (Reps.none _ _)))); intro v119 w19 ho20 hb hg_ hnew_; clear hg_ hnew_; (first | rw [← Ny118.out] at ho20 | (simp only [Int.reduceToNat] at ho20; rw [← Ny118.out] at ho20)); have n0_ := Aside0.mk (Kd.R_lower ho20 (below_size (by repeat (first | (with_reducible first | exact HB.out | apply below_alloc | apply pw_below_drewN | apply below_drew1) | exact HB.out)))); have n1_ := Aside0.mk (below_step (by repeat (first | (with_reducible first | exact HB.out | apply below_alloc | apply pw_below_drewN | apply below_drew1) | exact HB.out)) hb); clear HB; have HO120 := n0_; have HB := n1_; clear n0_ n1_; clear hb ho20; have hcv21 := own_string (P := Tryd.prog) Tryd.underlying41 Tryd.underlying5 Tryd.underlying9 (Kd.own_of_R HO120.out)))
                            go_ret
                            exact ⟨by first | rfl | (simp [errW_none, errW_some] <;> rfl) | (simp [*, errW_none, errW_some] <;> rfl), by repeat (first | (with_reducible first | exact HB.out | apply below_alloc | apply pw_below_drewN | apply below_drew1) | exact HB.out)⟩
                          · rw [if_neg c18] at H
                            exact absurd H (by simp)

end Go.Proofs.YtcdpjohbnfkmiaaDoor.P
