/- Texts of this seat, one behind the other (merged by a program of this session's own). -/
import Derived.Test.YtiidpicgdjjikaaGreatDoorM6
import Derived.Test.YtiidpicgdjjikaaGreatDoorM8
import Derived.Test.YtiidpicgdjjikaaGreatDoorM9

-- Px7
-- of this claim: by a program of this session's own over the kit's print
namespace Go.Proofs.YtiidpicgdjjikaaGreatDoor.P
open Go.RowKit Go.Proofs.YtiidpicgdjjikaaGreatDoor.G Go.Proofs.YtiidpicgdjjikaaGreatDoorW.PrintWords Go.Proofs.YtiidpicgdjjikaaGreatDoorW.PrintLast Go.Proofs.YtiidpicgdjjikaaGreatDoorW.PrintMore
attribute [local go_sem] isSome_setCell_eq max2_int min2_int max_two min_two max_three min_three max_four min_four   -- for this text's walks alone
set_option linter.unusedVariables false
set_option linter.unusedSimpArgs false

/-! ### numeraryref01_First: function 80 -/
mutual
def numeraryref01_First.l0 : Nat → ByteArray → Int → Option (Int × Int × Bool)
  | 0, _, _ => none
  | k + 1, x0, x5 => if x5 ≤ 4 then (numeraryref01_First.j1 k x0 x5 (decide (x5 ≤ (x0.size : Int)))) else (numeraryref01_First.j1 k x0 x5 false)
def numeraryref01_First.j1 : Nat → ByteArray → Int → Bool → Option (Int × Int × Bool)
  | 0, _, _, _ => none
  | k + 1, x0, x5, x20 => if x20 = true then (if 0 < (x0.size : Int) then (if x5 = 2 then (numeraryref01_First.j2 k x0 x5 (wrap64 ((wrap64 (bt x0 0)) - 192))) else (numeraryref01_First.j2 k x0 x5 (wrap64 (bt x0 0)))) else (none)) else (some (0, 0, false))
def numeraryref01_First.j2 : Nat → ByteArray → Int → Int → Option (Int × Int × Bool)
  | 0, _, _, _ => none
  | k + 1, x0, x5, x6 => if x5 = 3 then (numeraryref01_First.j3 k x0 x5 (wrap64 (x6 - 224))) else (numeraryref01_First.j3 k x0 x5 x6)
def numeraryref01_First.j3 : Nat → ByteArray → Int → Int → Option (Int × Int × Bool)
  | 0, _, _, _ => none
  | k + 1, x0, x5, x6 => if x5 = 4 then (numeraryref01_First.j4 k x0 x5 (wrap64 (x6 - 240))) else (numeraryref01_First.j4 k x0 x5 x6)
def numeraryref01_First.j4 : Nat → ByteArray → Int → Int → Option (Int × Int × Bool)
  | 0, _, _, _ => none
  | k + 1, x0, x5, x6 => numeraryref01_First.l1 k x0 x5 x6 1
def numeraryref01_First.l1 : Nat → ByteArray → Int → Int → Int → Option (Int × Int × Bool)
  | 0, _, _, _, _ => none
  | k + 1, x0, x5, x6, x7 => if x7 < x5 then (if 0 ≤ x7 then (if x7 < (x0.size : Int) then (numeraryref01_First.l1 k x0 x5 (wrap64 ((wrap64 ((wrap64 (64 * x6)) + (wrap64 (bt x0 x7)))) - 128)) (wrap64 (x7 + 1))) else (none)) else (none)) else ((numeraryref01_Is.f x6).bind fun t113 => (if t113 = true then ((numeraryref01_Text.f x6).bind fun t114 => (if 0 ≤ x5 then (if x5 ≤ (x0.size : Int) then (if t114.toList = (x0.extract 0 (x5 : Int).toNat).toList then (some (x6, x5, true)) else (numeraryref01_First.l0 k x0 (wrap64 (x5 + 1)))) else (none)) else (none))) else (numeraryref01_First.l0 k x0 (wrap64 (x5 + 1)))))
end
def numeraryref01_First.f (k : Nat) (a0 : ByteArray) : Option (Int × Int × Bool) := if (a0.size : Int) = 0 then (some (0, 0, false)) else (numeraryref01_First.l0 k a0 1)
theorem numeraryref01_First.mono_l : ∀ k, (∀ y0 y1, LeO (numeraryref01_First.l0 k y0 y1) (numeraryref01_First.l0 (k + 1) y0 y1)) ∧ (∀ y0 y1 y2, LeO (numeraryref01_First.j1 k y0 y1 y2) (numeraryref01_First.j1 (k + 1) y0 y1 y2)) ∧ (∀ y0 y1 y2, LeO (numeraryref01_First.j2 k y0 y1 y2) (numeraryref01_First.j2 (k + 1) y0 y1 y2)) ∧ (∀ y0 y1 y2, LeO (numeraryref01_First.j3 k y0 y1 y2) (numeraryref01_First.j3 (k + 1) y0 y1 y2)) ∧ (∀ y0 y1 y2, LeO (numeraryref01_First.j4 k y0 y1 y2) (numeraryref01_First.j4 (k + 1) y0 y1 y2)) ∧ (∀ y0 y1 y2 y3, LeO (numeraryref01_First.l1 k y0 y1 y2 y3) (numeraryref01_First.l1 (k + 1) y0 y1 y2 y3))
  | 0 => ⟨fun _ _ r h => by simp [numeraryref01_First.l0] at h, fun _ _ _ r h => by simp [numeraryref01_First.j1] at h, fun _ _ _ r h => by simp [numeraryref01_First.j2] at h, fun _ _ _ r h => by simp [numeraryref01_First.j3] at h, fun _ _ _ r h => by simp [numeraryref01_First.j4] at h, fun _ _ _ _ r h => by simp [numeraryref01_First.l1] at h⟩
  | k + 1 => by
   obtain ⟨ih0, ih1, ih2, ih3, ih4, ih5⟩ := numeraryref01_First.mono_l k
   refine ⟨?_, ?_, ?_, ?_, ?_, ?_⟩
   ·
    intro y0 y1
    unfold numeraryref01_First.l0
    repeat' first
    | (with_reducible exact ih0 _ _)
    | (with_reducible exact ih1 _ _ _)
    | (with_reducible exact ih2 _ _ _)
    | (with_reducible exact ih3 _ _ _)
    | (with_reducible exact ih4 _ _ _)
    | (with_reducible exact ih5 _ _ _ _)
    | (with_reducible exact LeO.refl _)
    | (with_reducible exact LeO.none _)
    | (with_reducible refine LeO.ite ?_ ?_)
    | (with_reducible refine LeO.bind ?_ (fun _ => ?_))
    | exact ih0 _ _
    | exact ih1 _ _ _
    | exact ih2 _ _ _
    | exact ih3 _ _ _
    | exact ih4 _ _ _
    | exact ih5 _ _ _ _
    | exact LeO.none _
    | refine LeO.ite ?_ ?_
    | refine LeO.bind ?_ (fun _ => ?_)
   ·
    intro y0 y1 y2
    unfold numeraryref01_First.j1
    repeat' first
    | (with_reducible exact ih0 _ _)
    | (with_reducible exact ih1 _ _ _)
    | (with_reducible exact ih2 _ _ _)
    | (with_reducible exact ih3 _ _ _)
    | (with_reducible exact ih4 _ _ _)
    | (with_reducible exact ih5 _ _ _ _)
    | (with_reducible exact LeO.refl _)
    | (with_reducible exact LeO.none _)
    | (with_reducible refine LeO.ite ?_ ?_)
    | (with_reducible refine LeO.bind ?_ (fun _ => ?_))
    | exact ih0 _ _
    | exact ih1 _ _ _
    | exact ih2 _ _ _
    | exact ih3 _ _ _
    | exact ih4 _ _ _
    | exact ih5 _ _ _ _
    | exact LeO.none _
    | refine LeO.ite ?_ ?_
    | refine LeO.bind ?_ (fun _ => ?_)
   ·
    intro y0 y1 y2
    unfold numeraryref01_First.j2
    repeat' first
    | (with_reducible exact ih0 _ _)
    | (with_reducible exact ih1 _ _ _)
    | (with_reducible exact ih2 _ _ _)
    | (with_reducible exact ih3 _ _ _)
    | (with_reducible exact ih4 _ _ _)
    | (with_reducible exact ih5 _ _ _ _)
    | (with_reducible exact LeO.refl _)
    | (with_reducible exact LeO.none _)
    | (with_reducible refine LeO.ite ?_ ?_)
    | (with_reducible refine LeO.bind ?_ (fun _ => ?_))
    | exact ih0 _ _
    | exact ih1 _ _ _
    | exact ih2 _ _ _
    | exact ih3 _ _ _
    | exact ih4 _ _ _
    | exact ih5 _ _ _ _
    | exact LeO.none _
    | refine LeO.ite ?_ ?_
    | refine LeO.bind ?_ (fun _ => ?_)
   ·
    intro y0 y1 y2
    unfold numeraryref01_First.j3
    repeat' first
    | (with_reducible exact ih0 _ _)
    | (with_reducible exact ih1 _ _ _)
    | (with_reducible exact ih2 _ _ _)
    | (with_reducible exact ih3 _ _ _)
    | (with_reducible exact ih4 _ _ _)
    | (with_reducible exact ih5 _ _ _ _)
    | (with_reducible exact LeO.refl _)
    | (with_reducible exact LeO.none _)
    | (with_reducible refine LeO.ite ?_ ?_)
    | (with_reducible refine LeO.bind ?_ (fun _ => ?_))
    | exact ih0 _ _
    | exact ih1 _ _ _
    | exact ih2 _ _ _
    | exact ih3 _ _ _
    | exact ih4 _ _ _
    | exact ih5 _ _ _ _
    | exact LeO.none _
    | refine LeO.ite ?_ ?_
    | refine LeO.bind ?_ (fun _ => ?_)
   ·
    intro y0 y1 y2
    unfold numeraryref01_First.j4
    repeat' first
    | (with_reducible exact ih0 _ _)
    | (with_reducible exact ih1 _ _ _)
    | (with_reducible exact ih2 _ _ _)
    | (with_reducible exact ih3 _ _ _)
    | (with_reducible exact ih4 _ _ _)
    | (with_reducible exact ih5 _ _ _ _)
    | (with_reducible exact LeO.refl _)
    | (with_reducible exact LeO.none _)
    | (with_reducible refine LeO.ite ?_ ?_)
    | (with_reducible refine LeO.bind ?_ (fun _ => ?_))
    | exact ih0 _ _
    | exact ih1 _ _ _
    | exact ih2 _ _ _
    | exact ih3 _ _ _
    | exact ih4 _ _ _
    | exact ih5 _ _ _ _
    | exact LeO.none _
    | refine LeO.ite ?_ ?_
    | refine LeO.bind ?_ (fun _ => ?_)
   ·
    intro y0 y1 y2 y3
    unfold numeraryref01_First.l1
    repeat' first
    | (with_reducible exact ih0 _ _)
    | (with_reducible exact ih1 _ _ _)
    | (with_reducible exact ih2 _ _ _)
    | (with_reducible exact ih3 _ _ _)
    | (with_reducible exact ih4 _ _ _)
    | (with_reducible exact ih5 _ _ _ _)
    | (with_reducible exact LeO.refl _)
    | (with_reducible exact LeO.none _)
    | (with_reducible refine LeO.ite ?_ ?_)
    | (with_reducible refine LeO.bind ?_ (fun _ => ?_))
    | exact ih0 _ _
    | exact ih1 _ _ _
    | exact ih2 _ _ _
    | exact ih3 _ _ _
    | exact ih4 _ _ _
    | exact ih5 _ _ _ _
    | exact LeO.none _
    | refine LeO.ite ?_ ?_
    | refine LeO.bind ?_ (fun _ => ?_)
theorem numeraryref01_First.mono : ∀ a0 k, LeO (numeraryref01_First.f k a0) (numeraryref01_First.f (k + 1) a0) := by
  intro a0 k
  obtain ⟨ih0, ih1, ih2, ih3, ih4, ih5⟩ := numeraryref01_First.mono_l k
  unfold numeraryref01_First.f
  repeat' first
    | (with_reducible exact ih0 _ _)
    | (with_reducible exact ih1 _ _ _)
    | (with_reducible exact ih2 _ _ _)
    | (with_reducible exact ih3 _ _ _)
    | (with_reducible exact ih4 _ _ _)
    | (with_reducible exact ih5 _ _ _ _)
    | (with_reducible exact LeO.refl _)
    | (with_reducible exact LeO.none _)
    | (with_reducible refine LeO.ite ?_ ?_)
    | (with_reducible refine LeO.bind ?_ (fun _ => ?_))
    | exact ih0 _ _
    | exact ih1 _ _ _
    | exact ih2 _ _ _
    | exact ih3 _ _ _
    | exact ih4 _ _ _
    | exact ih5 _ _ _ _
    | exact LeO.none _
    | refine LeO.ite ?_ ?_
    | refine LeO.bind ?_ (fun _ => ?_)
set_option maxHeartbeats 8000000 in
set_option maxRecDepth 100000 in
theorem numeraryref01_First.calls (k : Nat) (a0 : ByteArray) (r1 : Int) (r2 : Int) (r3 : Bool) (w : World) (h : numeraryref01_First.f k a0 = some (r1, r2, r3)) :
   Calls Tryz.prog 80 #[.string a0] w fun e w' => e = .returned (.tuple #[.int .i64 r1, .int .i64 r2, .bool r3]) ∧ Below w.heap.size w w' := by
  have HB := Aside0.mk (Below.refl w.heap.size w)
  have H : (if (a0.size : Int) = 0 then (some (0, 0, false)) else (numeraryref01_First.l0 k a0 1)) = some (r1, r2, r3) := h
  clear h
  by_cases c2 : (a0.size : Int) = 0
  ·
   rw [if_pos c2] at H
   have c2b0 : ((a0.size : Int) == 0) = true := beq_iff_eq.mpr c2
   have c2b1 : ((a0.size : Int) != 0) = false := bne_eq_false_iff_eq.mpr c2
   clear c2
   simp only [Option.some.injEq, Prod.mk.injEq] at H
   obtain ⟨rfl, rfl, rfl⟩ := H
   go_enter Tryz.func80, Tryz.ntmps80
   go_wp2
   go_ret3
   exact ⟨by first | rfl | (simp [errW_none, errW_some] <;> rfl) | (simp [*, errW_none, errW_some] <;> rfl), by repeat (first | (with_reducible first | exact HB.out | apply below_alloc | apply pw_below_drewN | apply below_drew1) | exact HB.out)⟩
  ·
   rw [if_neg c2] at H
   have c2b0 : ((a0.size : Int) == 0) = false := beq_eq_false_iff_ne.mpr c2
   have c2b1 : ((a0.size : Int) != 0) = true := bne_iff_ne.mpr c2
   have H' := Aside0.mk H
   clear H
   go_enter Tryz.func80, Tryz.ntmps80
   go_wp2
   go_loopg [5] k (fun kq v5 w' => ∃ (x5_1 : Int), v5 = .int .i64 x5_1 ∧ Aside0 (numeraryref01_First.l0 kq a0 x5_1 = some (r1, r2, r3)) ∧ Aside0 (kq ≤ k) ∧ Aside0 (Below w.heap.size w w'))
   case atStart => exact ⟨(1), (by first | rfl | (simp; done) | (simp [*]; done) | (simp only [isEmpty_ne, Bool.not_not]) | (simp only [isEmpty_ne])), H', ⟨Nat.le_refl _⟩, ⟨bl_⟩⟩
   case round =>
    clear H'
    try clear c2
    try clear c2b0
    try clear c2b1
    try clear p2
    obtain ⟨x5_1, rfl, HA, HK1, HB⟩ := hrel
    cases gk with
    | zero => exact absurd HA.out (by simp [numeraryref01_First.l0])
    | succ k1 =>
     have H := HA.out
     clear HA
     simp only [numeraryref01_First.l0] at H
     have HC3 := Aside0.mk H
     clear H
     go_upto_region 4 with (fail)
     go_cut [20] (fun v20 wc => ∃ (kq : Nat) (x20_2 : Bool), v20 = .bool x20_2 ∧ Aside0 (numeraryref01_First.j1 kq a0 x5_1 x20_2 = some (r1, r2, r3)) ∧ Aside0 (kq ≤ k1) ∧ Aside0 (Below w.heap.size w wc))
     case first =>
      have H := HC3.out
      clear HC3
      by_cases c4 : x5_1 ≤ 4
      ·
       rw [if_pos c4] at H
       have c4b0 : decide (x5_1 ≤ 4) = true := decide_eq_true c4
       clear c4
       (first | rw [c4b0] | (simp only [i64_w, i32_w]; rw [c4b0]) | skip)
       have H' := Aside0.mk H
       clear H
       go_wp2
       go_meet
       case rel => exact ⟨_, (decide (x5_1 ≤ (a0.size : Int))), (by first | rfl | (simp; done) | (simp [*]; done) | (simp only [isEmpty_ne, Bool.not_not]) | (simp only [isEmpty_ne])), H', ⟨by have := HK1.out; first | omega | exact Nat.le_refl _⟩, ⟨bl_⟩⟩
      ·
       rw [if_neg c4] at H
       have c4b0 : decide (x5_1 ≤ 4) = false := decide_eq_false c4
       clear c4
       (first | rw [c4b0] | (simp only [i64_w, i32_w]; rw [c4b0]) | skip)
       have H' := Aside0.mk H
       clear H
       go_wp2
       go_meet
       case rel => exact ⟨_, (false), (by first | rfl | (simp; done) | (simp [*]; done) | (simp only [isEmpty_ne, Bool.not_not]) | (simp only [isEmpty_ne])), H', ⟨by have := HK1.out; first | omega | exact Nat.le_refl _⟩, ⟨bl_⟩⟩
     case rest =>
      clear HC3
      try clear c2
      try clear c2b0
      try clear c2b1
      try clear p2
      try clear c4
      try clear c4b0
      try clear p2
      obtain ⟨kq, x20_2, rfl, HA, HJ2, HB⟩ := hcut
      cases kq with
      | zero => exact absurd HA.out (by simp [numeraryref01_First.j1])
      | succ kj2 =>
       have H := HA.out
       clear HA
       simp only [numeraryref01_First.j1] at H
       by_cases c5 : x20_2 = true
       ·
        subst c5
        have H1 : (if 0 < (a0.size : Int) then (if x5_1 = 2 then (numeraryref01_First.j2 kj2 a0 x5_1 (wrap64 ((wrap64 (bt a0 0)) - 192))) else (numeraryref01_First.j2 kj2 a0 x5_1 (wrap64 (bt a0 0)))) else (none)) = some (r1, r2, r3) := by rw [if_pos rfl] at H; exact H
        clear H
        have H := H1
        clear H1
        by_cases c6 : 0 < (a0.size : Int)
        ·
         rw [if_pos c6] at H
         have c6b0 : decide (0 < (a0.size : Int)) = true := decide_eq_true c6
         have c6b1 : decide (0 < a0.size) = true := decide_eq_true (by omega)
         clear c6
         have HC8 := Aside0.mk H
         clear H
         have p7 : 0 ≤ (0 : Int) := (by omega)
         have q7 : 0 < a0.size := (by have : (0 : Int) < (a0.size : Int) := of_decide_eq_true (by first | (with_reducible assumption) | assumption); omega)
         have hx7 : ∀ h : 0 < a0.size, ((a0[0]'h).toNat : Int) = bt a0 0 := bt_at a0 0
         clear p7
         have qi7 : (0 < (a0.size : Int)) = True := eq_true (of_decide_eq_true (by first | (with_reducible assumption) | assumption))
         replace q7 := eq_true q7
         go_upto_if 27 with (fail)
         go_cut [6] (fun v6 wc => ∃ (kq : Nat) (x6_7 : Int), v6 = .int .i64 x6_7 ∧ Aside0 (numeraryref01_First.j2 kq a0 x5_1 x6_7 = some (r1, r2, r3)) ∧ Aside0 (kq ≤ kj2) ∧ Aside0 (Below w.heap.size w wc))
         case first =>
          have H := HC8.out
          clear HC8
          by_cases c9 : x5_1 = 2
          ·
           rw [if_pos c9] at H
           have c9b0 : (x5_1 == 2) = true := beq_iff_eq.mpr c9
           have c9b1 : (x5_1 != 2) = false := bne_eq_false_iff_eq.mpr c9
           clear c9
           (first | rw [c9b0] | (simp only [i64_w, i32_w]; rw [c9b0]) | skip)
           have H' := Aside0.mk H
           clear H
           go_wp2
           go_meet
           case rel => exact ⟨_, (wrap64 ((wrap64 (bt a0 0)) - 192)), (by first | rfl | (simp; done) | (simp [*]; done) | (simp only [isEmpty_ne, Bool.not_not]) | (simp only [isEmpty_ne])), H', ⟨by have := HK1.out; have := HJ2.out; first | omega | exact Nat.le_refl _⟩, ⟨bl_⟩⟩
          ·
           rw [if_neg c9] at H
           have c9b0 : (x5_1 == 2) = false := beq_eq_false_iff_ne.mpr c9
           have c9b1 : (x5_1 != 2) = true := bne_iff_ne.mpr c9
           (first | rw [c9b0] | (simp only [i64_w, i32_w]; rw [c9b0]) | skip)
           have H' := Aside0.mk H
           clear H
           go_wp2
           go_meet
           case rel => exact ⟨_, (wrap64 (bt a0 0)), (by first | rfl | (simp; done) | (simp [*]; done) | (simp only [isEmpty_ne, Bool.not_not]) | (simp only [isEmpty_ne])), H', ⟨by have := HK1.out; have := HJ2.out; first | omega | exact Nat.le_refl _⟩, ⟨bl_⟩⟩
         case rest =>
          clear HC8
          try clear c2
          try clear c2b0
          try clear c2b1
          try clear p2
          try clear c4
          try clear c4b0
          try clear c5
          try clear c6
          try clear c6b0
          try clear c6b1
          try clear p6
          try clear p7
          try clear q7
          try clear hx7
          try clear qi7
          try clear c8
          try clear c9
          try clear c9b0
          try clear c9b1
          try clear p2
          try clear p7
          try clear q7
          obtain ⟨kq, x6_7, rfl, HA, HJ7, HB⟩ := hcut
          cases kq with
          | zero => exact absurd HA.out (by simp [numeraryref01_First.j2])
          | succ kj7 =>
           have H := HA.out
           clear HA
           simp only [numeraryref01_First.j2] at H
           have HC10 := Aside0.mk H
           clear H
           go_upto_if 31 with (fail)
           go_cut [6] (fun v6 wc => ∃ (kq : Nat) (x6_9 : Int), v6 = .int .i64 x6_9 ∧ Aside0 (numeraryref01_First.j3 kq a0 x5_1 x6_9 = some (r1, r2, r3)) ∧ Aside0 (kq ≤ kj7) ∧ Aside0 (Below w.heap.size w wc))
           case first =>
            have H := HC10.out
            clear HC10
            by_cases c11 : x5_1 = 3
            ·
             rw [if_pos c11] at H
             have c11b0 : (x5_1 == 3) = true := beq_iff_eq.mpr c11
             have c11b1 : (x5_1 != 3) = false := bne_eq_false_iff_eq.mpr c11
             clear c11
             (first | rw [c11b0] | (simp only [i64_w, i32_w]; rw [c11b0]) | skip)
             have H' := Aside0.mk H
             clear H
             go_wp2
             go_meet
             case rel => exact ⟨_, (wrap64 (x6_7 - 224)), (by first | rfl | (simp; done) | (simp [*]; done) | (simp only [isEmpty_ne, Bool.not_not]) | (simp only [isEmpty_ne])), H', ⟨by have := HK1.out; have := HJ2.out; have := HJ7.out; first | omega | exact Nat.le_refl _⟩, ⟨bl_⟩⟩
            ·
             rw [if_neg c11] at H
             have c11b0 : (x5_1 == 3) = false := beq_eq_false_iff_ne.mpr c11
             have c11b1 : (x5_1 != 3) = true := bne_iff_ne.mpr c11
             (first | rw [c11b0] | (simp only [i64_w, i32_w]; rw [c11b0]) | skip)
             have H' := Aside0.mk H
             clear H
             go_wp2
             go_meet
             case rel => exact ⟨_, (x6_7), (by first | rfl | (simp; done) | (simp [*]; done) | (simp only [isEmpty_ne, Bool.not_not]) | (simp only [isEmpty_ne])), H', ⟨by have := HK1.out; have := HJ2.out; have := HJ7.out; first | omega | exact Nat.le_refl _⟩, ⟨bl_⟩⟩
           case rest =>
            clear HC10
            try clear c1
            try clear c2
            try clear c2b0
            try clear c2b1
            try clear p2
            try clear c4
            try clear c4b0
            try clear c5
            try clear c6
            try clear c6b0
            try clear c6b1
            try clear p6
            try clear p7
            try clear q7
            try clear hx7
            try clear qi7
            try clear c8
            try clear c9
            try clear c9b0
            try clear c9b1
            try clear c11
            try clear c11b0
            try clear c11b1
            try clear p2
            try clear p6
            try clear p7
            try clear q7
            obtain ⟨kq, x6_9, rfl, HA, HJ9, HB⟩ := hcut
            cases kq with
            | zero => exact absurd HA.out (by simp [numeraryref01_First.j3])
            | succ kj9 =>
             have H := HA.out
             clear HA
             simp only [numeraryref01_First.j3] at H
             have HC12 := Aside0.mk H
             clear H
             go_upto_if 35 with (fail)
             go_cut [6] (fun v6 wc => ∃ (kq : Nat) (x6_11 : Int), v6 = .int .i64 x6_11 ∧ Aside0 (numeraryref01_First.j4 kq a0 x5_1 x6_11 = some (r1, r2, r3)) ∧ Aside0 (kq ≤ kj9) ∧ Aside0 (Below w.heap.size w wc))
             case first =>
              have H := HC12.out
              clear HC12
              by_cases c13 : x5_1 = 4
              ·
               rw [if_pos c13] at H
               have c13b0 : (x5_1 == 4) = true := beq_iff_eq.mpr c13
               have c13b1 : (x5_1 != 4) = false := bne_eq_false_iff_eq.mpr c13
               clear c13
               (first | rw [c13b0] | (simp only [i64_w, i32_w]; rw [c13b0]) | skip)
               have H' := Aside0.mk H
               clear H
               go_wp2
               go_meet
               case rel => exact ⟨_, (wrap64 (x6_9 - 240)), (by first | rfl | (simp; done) | (simp [*]; done) | (simp only [isEmpty_ne, Bool.not_not]) | (simp only [isEmpty_ne])), H', ⟨by have := HK1.out; have := HJ2.out; have := HJ7.out; have := HJ9.out; first | omega | exact Nat.le_refl _⟩, ⟨bl_⟩⟩
              ·
               rw [if_neg c13] at H
               have c13b0 : (x5_1 == 4) = false := beq_eq_false_iff_ne.mpr c13
               have c13b1 : (x5_1 != 4) = true := bne_iff_ne.mpr c13
               (first | rw [c13b0] | (simp only [i64_w, i32_w]; rw [c13b0]) | skip)
               have H' := Aside0.mk H
               clear H
               go_wp2
               go_meet
               case rel => exact ⟨_, (x6_9), (by first | rfl | (simp; done) | (simp [*]; done) | (simp only [isEmpty_ne, Bool.not_not]) | (simp only [isEmpty_ne])), H', ⟨by have := HK1.out; have := HJ2.out; have := HJ7.out; have := HJ9.out; first | omega | exact Nat.le_refl _⟩, ⟨bl_⟩⟩
             case rest =>
              clear HC12
              try clear c1
              try clear c2
              try clear c2b0
              try clear c2b1
              try clear p2
              try clear c4
              try clear c4b0
              try clear c5
              try clear c6
              try clear c6b0
              try clear c6b1
              try clear p6
              try clear p7
              try clear q7
              try clear hx7
              try clear qi7
              try clear c8
              try clear c9
              try clear c9b0
              try clear c9b1
              try clear c11
              try clear c11b0
              try clear c11b1
              try clear c13
              try clear c13b0
              try clear c13b1
              try clear p2
              try clear p6
              try clear p7
              try clear q7
              obtain ⟨kq, x6_11, rfl, HA, HJ11, HB⟩ := hcut
              cases kq with
              | zero => exact absurd HA.out (by simp [numeraryref01_First.j4])
              | succ kj11 =>
               have H := HA.out
               clear HA
               simp only [numeraryref01_First.j4] at H
               have H' := Aside0.mk H
               clear H
               go_wp2
               go_loopg [6, 7] kj11 (fun kq v6 v7 w' => ∃ (x6_6 : Int) (x7_6 : Int), v6 = .int .i64 x6_6 ∧ v7 = .int .i64 x7_6 ∧ Aside0 (numeraryref01_First.l1 kq a0 x5_1 x6_6 x7_6 = some (r1, r2, r3)) ∧ Aside0 (kq ≤ kj11) ∧ Aside0 (Below w.heap.size w w'))
               case atStart => exact ⟨(x6_11), (1), (by first | rfl | (simp; done) | (simp [*]; done) | (simp only [isEmpty_ne, Bool.not_not]) | (simp only [isEmpty_ne])), (by first | rfl | (simp; done) | (simp [*]; done) | (simp only [isEmpty_ne, Bool.not_not]) | (simp only [isEmpty_ne])), H', ⟨Nat.le_refl _⟩, ⟨bl_⟩⟩
               case round =>
                clear H'
                try clear c1
                try clear c2
                try clear c2b0
                try clear c2b1
                try clear p2
                try clear c4
                try clear c4b0
                try clear c5
                try clear c6
                try clear c6b0
                try clear c6b1
                try clear p6
                try clear p7
                try clear q7
                try clear hx7
                try clear qi7
                try clear c8
                try clear c9
                try clear c9b0
                try clear c9b1
                try clear c11
                try clear c11b0
                try clear c11b1
                try clear c13
                try clear c13b0
                try clear c13b1
                try clear p2
                try clear p6
                try clear p7
                try clear q7
                obtain ⟨x6_6, x7_6, rfl, rfl, HA, HK6, HB⟩ := hrel
                cases gk with
                | zero => exact absurd HA.out (by simp [numeraryref01_First.l1])
                | succ k6 =>
                 have H := HA.out
                 clear HA
                 simp only [numeraryref01_First.l1] at H
                 by_cases c14 : x7_6 < x5_1
                 ·
                  rw [if_pos c14] at H
                  have c14b0 : decide (x7_6 < x5_1) = true := decide_eq_true c14
                  clear c14
                  by_cases c15 : 0 ≤ x7_6
                  ·
                   rw [if_pos c15] at H
                   have c15b0 : decide (0 ≤ x7_6) = true := decide_eq_true c15
                   clear c15
                   by_cases c16 : x7_6 < (a0.size : Int)
                   ·
                    rw [if_pos c16] at H
                    have c16b0 : decide (x7_6 < (a0.size : Int)) = true := decide_eq_true c16
                    clear c16
                    have H' := Aside0.mk H
                    clear H
                    have p17 : 0 ≤ (x7_6 : Int) := of_decide_eq_true (by first | (with_reducible assumption) | assumption)
                    have q17 : x7_6 < (a0.size : Int) := of_decide_eq_true (by first | (with_reducible assumption) | assumption)
                    have hx17 := bt_at a0 x7_6
                    replace p17 := eq_true p17
                    replace q17 := eq_true q17
                    go_wp2
                    go_roundg k6
                    case measure => have := HK1.out; have := HJ2.out; have := HJ7.out; have := HJ9.out; have := HJ11.out; have := HK6.out; omega
                    case rel => exact ⟨(wrap64 ((wrap64 ((wrap64 (64 * x6_6)) + (wrap64 (bt a0 x7_6)))) - 128)), (wrap64 (x7_6 + 1)), (by first | rfl | (simp; done) | (simp [*]; done) | (simp only [isEmpty_ne, Bool.not_not]) | (simp only [isEmpty_ne])), (by first | rfl | (simp; done) | (simp [*]; done) | (simp only [isEmpty_ne, Bool.not_not]) | (simp only [isEmpty_ne])), H', ⟨by have := HK1.out; have := HJ2.out; have := HJ7.out; have := HJ9.out; have := HJ11.out; have := HK6.out; omega⟩, ⟨bl_⟩⟩
                   ·
                    rw [if_neg c16] at H
                    exact absurd H (by simp)
                  ·
                   rw [if_neg c15] at H
                   exact absurd H (by simp)
                 ·
                  rw [if_neg c14] at H
                  have c14b0 : decide (x7_6 < x5_1) = false := decide_eq_false c14
                  clear c14
                  replace H := Option.bind_eq_some_iff.mp H
                  obtain ⟨t113, A180, H⟩ := H
                  replace H : (if t113 = true then ((numeraryref01_Text.f x6_6).bind fun t114 => (if 0 ≤ x5_1 then (if x5_1 ≤ (a0.size : Int) then (if t114.toList = (a0.extract 0 (x5_1 : Int).toNat).toList then (some (x6_6, x5_1, true)) else (numeraryref01_First.l0 k6 a0 (wrap64 (x5_1 + 1)))) else (none)) else (none))) else (numeraryref01_First.l0 k6 a0 (wrap64 (x5_1 + 1)))) = some (r1, r2, r3) := H
                  have A18 := Aside0.mk A180
                  clear A180
                  by_cases c19 : t113 = true
                  ·
                   subst c19
                   have H1 : ((numeraryref01_Text.f x6_6).bind fun t114 => (if 0 ≤ x5_1 then (if x5_1 ≤ (a0.size : Int) then (if t114.toList = (a0.extract 0 (x5_1 : Int).toNat).toList then (some (x6_6, x5_1, true)) else (numeraryref01_First.l0 k6 a0 (wrap64 (x5_1 + 1)))) else (none)) else (none))) = some (r1, r2, r3) := by rw [if_pos rfl] at H; exact H
                   clear H
                   have H := H1
                   clear H1
                   replace H := Option.bind_eq_some_iff.mp H
                   obtain ⟨t114, A200, H⟩ := H
                   replace H : (if 0 ≤ x5_1 then (if x5_1 ≤ (a0.size : Int) then (if t114.toList = (a0.extract 0 (x5_1 : Int).toNat).toList then (some (x6_6, x5_1, true)) else (numeraryref01_First.l0 k6 a0 (wrap64 (x5_1 + 1)))) else (none)) else (none)) = some (r1, r2, r3) := H
                   have A20 := Aside0.mk A200
                   clear A200
                   by_cases c21 : 0 ≤ x5_1
                   ·
                    rw [if_pos c21] at H
                    have c21b0 := eq_true c21
                    have c21b1 : decide (0 ≤ x5_1) = true := decide_eq_true c21
                    clear c21
                    by_cases c22 : x5_1 ≤ (a0.size : Int)
                    ·
                     rw [if_pos c22] at H
                     have c22b0 := eq_true c22
                     have c22b1 : decide (x5_1 ≤ (a0.size : Int)) = true := decide_eq_true c22
                     clear c22
                     by_cases c23 : t114.toList = (a0.extract 0 (x5_1 : Int).toNat).toList
                     ·
                      rw [if_pos c23] at H
                      have c23b0 : (t114.toList == (a0.extract 0 (x5_1 : Int).toNat).toList) = true := beq_iff_eq.mpr c23
                      have c23b1 : (t114.toList != (a0.extract 0 (x5_1 : Int).toNat).toList) = false := bne_eq_false_iff_eq.mpr c23
                      clear c23
                      simp only [Option.some.injEq, Prod.mk.injEq] at H
                      obtain ⟨rfl, rfl, rfl⟩ := H
                      go_wp2_with (first | ((with_reducible refine gate_callee (f := 102) rfl ?_); refine goesL_ (some 52) rfl rfl Tryz.func102 (by kernel_rfl) rfl #[.int .i64 x6_6] rfl (by (try simp only [List.map_toArray, List.map_cons, List.map_nil]); first | done | rfl | (simp only [List.length_drop, List.length_take]; rfl)) ?_; (with_reducible refine (numeraryref01_Is.calls x6_6 true _ A18.out).mono ?_); rintro e w' ⟨rfl, ⟨nd, rfl⟩⟩; refine ⟨_, rfl, ?_⟩) | ((with_reducible refine gate_callee (f := 103) rfl ?_); refine goesL_ (some 56) rfl rfl Tryz.func103 (by kernel_rfl) rfl #[.int .i64 x6_6] rfl (by (try simp only [List.map_toArray, List.map_cons, List.map_nil]); first | done | rfl | (simp only [List.length_drop, List.length_take]; rfl)) ?_; (with_reducible refine (numeraryref01_Text.calls x6_6 t114 _ A20.out).mono ?_); rintro e w24 ⟨rfl, hb⟩; refine ⟨_, rfl, ?_⟩; have n0_ := Aside0.mk (below_step bl_ hb); clear HB; have HB := n0_; clear n0_; (try clear hb); (try clear hb2); (try clear hk); (try clear hi)))
                      go_ret3
                      exact ⟨by first | rfl | (simp [errW_none, errW_some] <;> rfl) | (simp [*, errW_none, errW_some] <;> rfl), by repeat (first | (with_reducible first | exact HB.out | apply below_alloc | apply pw_below_drewN | apply below_drew1) | exact HB.out)⟩
                     ·
                      rw [if_neg c23] at H
                      have c23b0 : (t114.toList == (a0.extract 0 (x5_1 : Int).toNat).toList) = false := beq_eq_false_iff_ne.mpr c23
                      have c23b1 : (t114.toList != (a0.extract 0 (x5_1 : Int).toNat).toList) = true := bne_iff_ne.mpr c23
                      have H' := Aside0.mk H
                      clear H
                      go_wp2_with (first | ((with_reducible refine gate_callee (f := 102) rfl ?_); refine goesL_ (some 52) rfl rfl Tryz.func102 (by kernel_rfl) rfl #[.int .i64 x6_6] rfl (by (try simp only [List.map_toArray, List.map_cons, List.map_nil]); first | done | rfl | (simp only [List.length_drop, List.length_take]; rfl)) ?_; (with_reducible refine (numeraryref01_Is.calls x6_6 true _ A18.out).mono ?_); rintro e w' ⟨rfl, ⟨nd, rfl⟩⟩; refine ⟨_, rfl, ?_⟩) | ((with_reducible refine gate_callee (f := 103) rfl ?_); refine goesL_ (some 56) rfl rfl Tryz.func103 (by kernel_rfl) rfl #[.int .i64 x6_6] rfl (by (try simp only [List.map_toArray, List.map_cons, List.map_nil]); first | done | rfl | (simp only [List.length_drop, List.length_take]; rfl)) ?_; (with_reducible refine (numeraryref01_Text.calls x6_6 t114 _ A20.out).mono ?_); rintro e w25 ⟨rfl, hb⟩; refine ⟨_, rfl, ?_⟩; have n0_ := Aside0.mk (below_step bl_ hb); clear HB; have HB := n0_; clear n0_; (try clear hb); (try clear hb2); (try clear hk); (try clear hi)))
                      go_roundg k6
                      case measure => have := HK1.out; have := HJ2.out; have := HJ7.out; have := HJ9.out; have := HJ11.out; have := HK6.out; omega
                      case rel => exact ⟨(wrap64 (x5_1 + 1)), (by first | rfl | (simp; done) | (simp [*]; done) | (simp only [isEmpty_ne, Bool.not_not]) | (simp only [isEmpty_ne])), H', ⟨by have := HK1.out; have := HJ2.out; have := HJ7.out; have := HJ9.out; have := HJ11.out; have := HK6.out; omega⟩, ⟨bl_⟩⟩
                    ·
                     rw [if_neg c22] at H
                     exact absurd H (by simp)
                   ·
                    rw [if_neg c21] at H
                    exact absurd H (by simp)
                  ·
                   replace c19 := Bool.eq_false_iff.mpr c19
                   subst c19
                   have H1 : (numeraryref01_First.l0 k6 a0 (wrap64 (x5_1 + 1))) = some (r1, r2, r3) := by rw [if_neg (show ¬ (false = true) by decide)] at H; exact H
                   clear H
                   have H := H1
                   clear H1
                   have H' := Aside0.mk H
                   clear H
                   go_wp2_with (first | ((with_reducible refine gate_callee (f := 102) rfl ?_); refine goesL_ (some 52) rfl rfl Tryz.func102 (by kernel_rfl) rfl #[.int .i64 x6_6] rfl (by (try simp only [List.map_toArray, List.map_cons, List.map_nil]); first | done | rfl | (simp only [List.length_drop, List.length_take]; rfl)) ?_; (with_reducible refine (numeraryref01_Is.calls x6_6 false _ A18.out).mono ?_); rintro e w' ⟨rfl, ⟨nd, rfl⟩⟩; refine ⟨_, rfl, ?_⟩))
                   go_roundg k6
                   case measure => have := HK1.out; have := HJ2.out; have := HJ7.out; have := HJ9.out; have := HJ11.out; have := HK6.out; omega
                   case rel => exact ⟨(wrap64 (x5_1 + 1)), (by first | rfl | (simp; done) | (simp [*]; done) | (simp only [isEmpty_ne, Bool.not_not]) | (simp only [isEmpty_ne])), H', ⟨by have := HK1.out; have := HJ2.out; have := HJ7.out; have := HJ9.out; have := HJ11.out; have := HK6.out; omega⟩, ⟨bl_⟩⟩
        ·
         rw [if_neg c6] at H
         exact absurd H (by simp)
       ·
        replace c5 := Bool.eq_false_iff.mpr c5
        subst c5
        have H1 : (some (0, 0, false)) = some (r1, r2, r3) := by rw [if_neg (show ¬ (false = true) by decide)] at H; exact H
        clear H
        have H := H1
        clear H1
        simp only [Option.some.injEq, Prod.mk.injEq] at H
        obtain ⟨rfl, rfl, rfl⟩ := H
        go_wp2
        go_ret3
        exact ⟨by first | rfl | (simp [errW_none, errW_some] <;> rfl) | (simp [*, errW_none, errW_some] <;> rfl), by repeat (first | (with_reducible first | exact HB.out | apply below_alloc | apply pw_below_drewN | apply below_drew1) | exact HB.out)⟩

end Go.Proofs.YtiidpicgdjjikaaGreatDoor.P

