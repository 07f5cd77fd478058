import Derived.Test.YtiidpicgdjjikaaGreatDoorJ6
namespace Go.Proofs.YtiidpicgdjjikaaGreatDoor.P
open Go.RowKit Go.Proofs.YtiidpicgdjjikaaGreatDoor.G Go.Proofs.YtiidpicgdjjikaaGreatDoorW.PrintWords Go.Proofs.YtiidpicgdjjikaaGreatDoorW.PrintLast Go.Proofs.YtiidpicgdjjikaaGreatDoorW.PrintMore
attribute [local go_sem] isSome_setCell_eq max2_int min2_int max_two min_two max_three min_three max_four min_four
set_option linter.unusedVariables false
set_option linter.unusedSimpArgs false

def token_Kind_110.l0 : Nat → List Int → Int → Int → Int → Option (Int)
 | 0, _, _, _, _ => none
 | k + 1, x0, x1, x7, x8 => if x8 < x7 then (if 0 ≤ x8 then (if x8 < (x0.length : Int) then (if x1 = (rd x0 x8) then (some x8) else (token_Kind_110.l0 k x0 x1 x7 (wrap64 (x8 + 1)))) else (none)) else (none)) else (some (-1))
def token_Kind_110.f (k : Nat) (l0 : List Int) (a1 : Int) : Option (Int) := token_Kind_110.l0 k l0 a1 (l0.length : Int) 0
theorem token_Kind_110.mono_l : ∀ k, (∀ y0 y1 y2 y3, LeO (token_Kind_110.l0 k y0 y1 y2 y3) (token_Kind_110.l0 (k + 1) y0 y1 y2 y3))
 | 0 => fun _ _ _ _ r h => by simp [token_Kind_110.l0] at h
 | k + 1 => by
  have ih0 := token_Kind_110.mono_l k
  ·
   intro y0 y1 y2 y3
   unfold token_Kind_110.l0
   repeat' first
   | (with_reducible exact ih0 _ _ _ _)
   | (with_reducible exact LeO.refl _)
   | (with_reducible exact LeO.none _)
   | (with_reducible refine LeO.ite ?_ ?_)
   | (with_reducible refine LeO.bind ?_ (fun _ => ?_))
   | exact ih0 _ _ _ _
   | exact LeO.none _
   | refine LeO.ite ?_ ?_
   | refine LeO.bind ?_ (fun _ => ?_)
theorem token_Kind_110.mono : ∀ a0 a1 k, LeO (token_Kind_110.f k a0 a1) (token_Kind_110.f (k + 1) a0 a1) := by
 intro a0 a1 k
 have ih0 := token_Kind_110.mono_l k
 unfold token_Kind_110.f
 repeat' first | with_reducible first | exact ih0 _ _ _ _ | exact LeO.refl _ | exact LeO.none _ | refine LeO.ite ?_ ?_ | refine LeO.bind ?_ (fun _ => ?_)
set_option maxRecDepth 1000000 in
theorem token_Kind_110.k1 {p : Prop} (h : p := by
 first | (obtain rfl := Option.some.inj H) | (have H' := am_ H; clear H)
 first
  | (
   have p341 : 0 ≤ (x8_1 : Int) := da_
   have q341 : x8_1 < (l0.length : Int) := da_
   obtain ⟨ad341, e341, hx341_0⟩ := Kd.at_int HR0.out x8_1 p341 q341
   cases e341
   replace p341 := eq_true p341
   replace q341 := eq_true q341
   go_wp2
   first
    | (
     go_ret
     exact ⟨by first | rfl | (simp; done) | (simp [*]; done), by repeat (first | exact Drawn0.refl _ | apply Drawn0.step)⟩)
    | (
     go_roundg k1
     case measure => have := HK1.out; omega
     case rel => exact ⟨(wrap64 (x8_1 + 1)), sr_, H', ⟨by have := HK1.out; omega⟩, by repeat (first | exact Drawn0.refl _ | apply Drawn0.step)⟩))
  | (
   go_wp2
   go_ret
   exact ⟨by first | rfl | (simp; done) | (simp [*]; done), by repeat (first | exact Drawn0.refl _ | apply Drawn0.step)⟩)) : p := h
set_option maxHeartbeats 8000000 in
set_option maxRecDepth 100000 in
theorem token_Kind_110.calls (k : Nat) (A0 : Option Addr) (c0 : Nat) (l0 : List Int) (a1 : Int) (r : Int) (w : World) (hr0 : Kd.C (Kd.int .i64) w A0 l0.length l0) (hc0 : l0.length ≤ c0) (h : token_Kind_110.f k l0 a1 = some r) :
 Calls Tryz.prog 110 #[.slice A0 l0.length c0, .int .i64 a1] w fun e w' => e = .returned (.int .i64 r) ∧ Drawn0 w w' := by
 have HR0 := am_ hr0
 have HC0 := am_ hc0
 clear hr0 hc0
 have H : (token_Kind_110.l0 k l0 a1 (l0.length : Int) 0) = some r := h
 clear h
 have H' := am_ H
 clear H
 go_enter Tryz.func110, Tryz.ntmps110
 go_wp2
 go_loopg [8] k (fun kq v8 w' => ∃ (x8_1 : Int), v8 = .int .i64 x8_1 ∧ Aside0 (token_Kind_110.l0 kq l0 a1 (l0.length : Int) x8_1 = some r) ∧ Aside0 (kq ≤ k) ∧ Drawn0 w w')
 case atStart => exact ⟨(0), sr_, H', ⟨Nat.le_refl _⟩, by repeat (first | exact Drawn0.refl _ | apply Drawn0.step)⟩
 case round =>
  clear H'
  try clear c1
  try clear p2
  obtain ⟨x8_1, rfl, HA, HK1, ⟨m1, rfl⟩⟩ := hrel
  cases gk with
  | zero => exact absurd HA.out (by simp [token_Kind_110.l0])
  | succ k1 =>
   have H := HA.out
   clear HA
   simp only [token_Kind_110.l0] at H
   replace H := il_ H
   rcases H with ⟨-, c3b0, H⟩ | ⟨-, c3b0, H⟩
   ·
    replace H := ixl_ H
    obtain ⟨-, c4b0, H⟩ := H
    replace H := ixl_ H
    obtain ⟨-, c5b0, H⟩ := H
    replace H := ie_ H
    rcases H with ⟨-, c6b0, c6b1, H⟩ | ⟨c6, c6b0, c6b1, H⟩
    ·
     exact token_Kind_110.k1
    ·
     exact token_Kind_110.k1
   ·
    exact token_Kind_110.k1


def token_Kind_83.f (k : Nat) (l0 : List Int) (a1 : Int) : Option (Bool) := (token_Kind_110.f k l0 a1).bind fun t342 => (some (decide (t342 ≥ 0)))
theorem token_Kind_83.mono : ∀ a0 a1 k, LeO (token_Kind_83.f k a0 a1) (token_Kind_83.f (k + 1) a0 a1) := by
 intro a0 a1 k
 unfold token_Kind_83.f
 repeat' first | with_reducible first | exact token_Kind_110.mono _ _ _ | exact LeO.refl _ | exact LeO.none _ | refine LeO.ite ?_ ?_ | refine LeO.bind ?_ (fun _ => ?_)
set_option maxHeartbeats 8000000 in
set_option maxRecDepth 100000 in
theorem token_Kind_83.calls (k : Nat) (A0 : Option Addr) (c0 : Nat) (l0 : List Int) (a1 : Int) (r : Bool) (w : World) (hr0 : Kd.C (Kd.int .i64) w A0 l0.length l0) (hc0 : l0.length ≤ c0) (h : token_Kind_83.f k l0 a1 = some r) :
 Calls Tryz.prog 83 #[.slice A0 l0.length c0, .int .i64 a1] w fun e w' => e = .returned (.bool r) ∧ Drawn0 w w' := by
 have HR0 := am_ hr0
 have HC0 := am_ hc0
 clear hr0 hc0
 have H : ((token_Kind_110.f k l0 a1).bind fun t342 => (some (decide (t342 ≥ 0)))) = some r := h
 clear h
 replace H := bd_ H
 obtain ⟨t342, A3, H⟩ := H
 obtain rfl := Option.some.inj H
 go_enter Tryz.func83, Tryz.ntmps83
 go_wp2_with (first | ((with_reducible refine gate_callee (f := 110) rfl ?_); refine gc_ (some 7) rfl rfl Tryz.func110 rfl #[.slice A0 l0.length c0, .int .i64 a1] rfl ?_; (with_reducible refine (token_Kind_110.calls _ _ _ _ _ _ _ ?side1 ?side2 A3.out).mono ?_); (case side1 => exact kc_ HR0.out); (case side2 => exact HC0.out); rintro e w' ⟨rfl, ⟨nd, rfl⟩⟩; refine ⟨_, rfl, ?_⟩))
 go_ret
 exact ⟨by first | rfl | (simp; done) | (simp [*]; done), by repeat (first | exact Drawn0.refl _ | apply Drawn0.step)⟩

end Go.Proofs.YtiidpicgdjjikaaGreatDoor.P
