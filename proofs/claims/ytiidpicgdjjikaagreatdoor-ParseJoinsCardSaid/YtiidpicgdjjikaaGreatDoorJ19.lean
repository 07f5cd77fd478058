import Derived.Test.YtiidpicgdjjikaaGreatDoorJ6
import Derived.Test.YtiidpicgdjjikaaGreatDoorJ7
import Derived.Test.YtiidpicgdjjikaaGreatDoorJ17
import Derived.Test.YtiidpicgdjjikaaGreatDoorJ18
namespace Go.Proofs.YtiidpicgdjjikaaGreatDoor.P
open Go.RowKit Go.Proofs.YtiidpicgdjjikaaGreatDoor.G Go.Proofs.YtiidpicgdjjikaaGreatDoorW.PrintWords Go.Proofs.YtiidpicgdjjikaaGreatDoorW.PrintLast Go.Proofs.YtiidpicgdjjikaaGreatDoorW.PrintMore
attribute [local go_sem] isSome_setCell_eq max2_int min2_int max_two min_two max_three min_three max_four min_four
set_option linter.unusedVariables false
set_option linter.unusedSimpArgs false

def colour_Number.l0 : Nat → ByteArray → Int → Int → Option (Int × Bool)
 | 0, _, _, _ => none
 | k + 1, x0, x7, x8 => if x8 < x7 then ((colour_plain.f x0).bind fun t220 => (if t220 = true then ((colour_Name.f k (wrap64 (x8 + 1))).bind fun t221 => ((strings_EqualFold.f t221 x0).bind fun t222 => (if t222 = true then (some (wrap64 (x8 + 1), true)) else (colour_Number.l0 k x0 x7 (wrap64 (x8 + 1)))))) else (colour_Number.l0 k x0 x7 (wrap64 (x8 + 1))))) else (some (0, false))
def colour_Number.f (k : Nat) (a0 : ByteArray) : Option (Int × Bool) := (colour_names.f).bind fun t217 => (colour_Number.l0 k a0 (wrap64 ((t217.length : Int) + 56)) 0)
theorem colour_Number.mono_l : ∀ k, (∀ y0 y1 y2, LeO (colour_Number.l0 k y0 y1 y2) (colour_Number.l0 (k + 1) y0 y1 y2))
 | 0 => fun _ _ _ r h => by simp [colour_Number.l0] at h
 | k + 1 => by
  have ih0 := colour_Number.mono_l k
  ·
   intro y0 y1 y2
   unfold colour_Number.l0
   repeat' first
   | (with_reducible exact ih0 _ _ _)
   | (with_reducible exact colour_Name.mono _ _)
   | (with_reducible exact LeO.refl _)
   | (with_reducible exact LeO.none _)
   | (with_reducible refine LeO.ite ?_ ?_)
   | (with_reducible refine LeO.bind ?_ (fun _ => ?_))
   | exact ih0 _ _ _
   | exact colour_Name.mono _ _
   | exact LeO.none _
   | refine LeO.ite ?_ ?_
   | refine LeO.bind ?_ (fun _ => ?_)
theorem colour_Number.mono : ∀ a0 k, LeO (colour_Number.f k a0) (colour_Number.f (k + 1) a0) := by
 intro a0 k
 have ih0 := colour_Number.mono_l k
 unfold colour_Number.f
 repeat' first | with_reducible first | exact ih0 _ _ _ | exact colour_Name.mono _ _ | exact LeO.refl _ | exact LeO.none _ | refine LeO.ite ?_ ?_ | refine LeO.bind ?_ (fun _ => ?_)
set_option maxRecDepth 1000000 in
theorem colour_Number.k1 {p : Prop} (h : p := by
 first | (simp only [Option.some.injEq, Prod.mk.injEq] at H; obtain ⟨rfl, rfl⟩ := H) | (have H' := am_ H; clear H)
 first
  | (
   try go_wp2_with (first | ((with_reducible refine gate_callee (f := 105) rfl ?_); refine gc_ (some 12) rfl rfl Tryz.func105 rfl #[.string a0] rfl ?_; (with_reducible refine (colour_plain.calls _ _ _ A6.out ?side1).mono ?_); (case side1 => exact LW.below HLW.out bl_); rintro e w1 ⟨rfl, hb⟩; refine ⟨_, rfl, ?_⟩; replace HB := sb_ hb; clear hb) | (go_at_call 131; (with_reducible refine (colour_Name.calls _ _ _ _ A8.out ?side1).mono ?_); (case side1 => exact LW.below HLW.out bl_); rintro e w1 ⟨rfl, hb⟩; replace HB := sb_ hb; clear hb) | (go_at_call 130; (with_reducible refine (strings_EqualFold.calls _ _ _ _ A9.out ?side1).mono ?_); (case side1 => exact LW.below HLW.out bl_); rintro e w1 ⟨rfl, hb⟩; replace HB := sb_ hb; clear hb))
   first
    | (
     go_ret2
     exact ⟨er_, bl_⟩)
    | (
     go_roundg k1
     case measure => have := HK1.out; omega
     case rel => exact ⟨(wrap64 (x8_1 + 1)), sr_, H', ⟨by have := HK1.out; omega⟩, ⟨bl_⟩⟩))
  | (
   go_wp2
   go_ret2
   exact ⟨er_, bl_⟩)) : p := h
set_option maxHeartbeats 8000000 in
set_option maxRecDepth 100000 in
theorem colour_Number.calls (k : Nat) (a0 : ByteArray) (r1 : Int) (r2 : Bool) (w : World) (h : colour_Number.f k a0 = some (r1, r2)) (HLW_ : LW w) :
 Calls Tryz.prog 108 #[.string a0] w fun e w' => e = .returned (.tuple #[.int .i64 r1, .bool r2]) ∧ Below w.heap.size w w' := by
 have HLW := am_ HLW_
 clear HLW_
 have HB := am_ (Below.refl w.heap.size w)
 have H : ((colour_names.f).bind fun t217 => (colour_Number.l0 k a0 (wrap64 ((t217.length : Int) + 56)) 0)) = some (r1, r2) := h
 clear h
 replace H := bd_ H
 obtain ⟨t217, A2, H⟩ := H
 have H' := am_ H
 clear H
 go_enter Tryz.func108, Tryz.ntmps108
 go_wp2_with (first | ((with_reducible refine gate_callee (f := 129) rfl ?_); refine gc_ (some 5) rfl rfl Tryz.func129 rfl #[] rfl ?_; (with_reducible refine (colour_names.calls _ _ A2.out).mono ?_); rintro e w3 ⟨v218, rfl, ho0, hb⟩; refine ⟨_, rfl, ?_⟩; have HO219 := am_ (Kd.R_lower ho0 (below_size bl_)); replace HB := sb_ hb; clear hb ho0; obtain ⟨Ao4, co4, eo4⟩ := Kd.R_slice HO219.out; subst eo4))
 go_loopg [8] k (fun kq v8 w' => ∃ (x8_1 : Int), v8 = .int .i64 x8_1 ∧ Aside0 (colour_Number.l0 kq a0 (wrap64 ((t217.length : Int) + 56)) x8_1 = some (r1, r2)) ∧ Aside0 (kq ≤ k) ∧ Aside0 (Below w.heap.size w w'))
 case atStart => exact ⟨(0), sr_, H', ⟨Nat.le_refl _⟩, ⟨bl_⟩⟩
 case round =>
  clear H'
  try clear c1
  try clear p2
  obtain ⟨x8_1, rfl, HA, HK1, HB⟩ := hrel
  cases gk with
  | zero => exact absurd HA.out (by simp [colour_Number.l0])
  | succ k1 =>
   have H := HA.out
   clear HA
   simp only [colour_Number.l0] at H
   replace H := il_ H
   rcases H with ⟨-, c5b0, H⟩ | ⟨-, c5b0, H⟩
   ·
    replace H := bd_ H
    obtain ⟨t220, A6, H⟩ := H
    replace H := ib_ H
    rcases H with ⟨rfl, H⟩ | ⟨rfl, H⟩
    ·
     replace H := bd_ H
     obtain ⟨t221, A8, H⟩ := H
     replace H := bd_ H
     obtain ⟨t222, A9, H⟩ := H
     replace H := ib_ H
     rcases H with ⟨rfl, H⟩ | ⟨rfl, H⟩
     ·
      exact colour_Number.k1
     ·
      exact colour_Number.k1
    ·
     exact colour_Number.k1
   ·
    exact colour_Number.k1


def digits_digit.f (a0 : Int) : Option (Bool) := if a0 ≥ 48 then (some (decide (a0 ≤ 57))) else (some false)
set_option maxRecDepth 1000000 in
theorem digits_digit.k1 {p : Prop} (h : p := by
 first | (obtain rfl := Option.some.inj H) | (have H' := am_ H; clear H)
 go_enter Tryz.func167, Tryz.ntmps167
 go_wp2
 go_ret
 exact ⟨by first | rfl | (simp; done) | (simp [*]; done), by repeat (first | exact Drawn0.refl _ | apply Drawn0.step)⟩) : p := h
set_option maxHeartbeats 8000000 in
set_option maxRecDepth 100000 in
theorem digits_digit.calls (a0 : Int) (r : Bool) (w : World) (h : digits_digit.f a0 = some r) :
 Calls Tryz.prog 167 #[.int .u8 a0] w fun e w' => e = .returned (.bool r) ∧ Drawn0 w w' := by
 have H : (if a0 ≥ 48 then (some (decide (a0 ≤ 57))) else (some false)) = some r := h
 clear h
 replace H := il_ H
 rcases H with ⟨-, c2b0, H⟩ | ⟨-, c2b0, H⟩
 ·
  exact digits_digit.k1
 ·
  exact digits_digit.k1


def bits_Add32.f (a0 : Int) (a1 : Int) (a2 : Int) : Option (Int × Int) := some ((IntKind.u64.wrap ((IntKind.u64.wrap ((IntKind.u64.wrap (a0)) + (IntKind.u64.wrap (a1)))) + (IntKind.u64.wrap (a2)))) % 4294967296, ((IntKind.u64.wrap ((IntKind.u64.wrap ((IntKind.u64.wrap (a0)) + (IntKind.u64.wrap (a1)))) + (IntKind.u64.wrap (a2)))) / 4294967296) % 4294967296)
set_option maxHeartbeats 8000000 in
set_option maxRecDepth 100000 in
theorem bits_Add32.calls (a0 : Int) (a1 : Int) (a2 : Int) (r1 : Int) (r2 : Int) (w : World) (h : bits_Add32.f a0 a1 a2 = some (r1, r2)) :
 Calls Tryz.prog 187 #[.int .u32 a0, .int .u32 a1, .int .u32 a2] w fun e w' => e = .returned (.tuple #[.int .u32 r1, .int .u32 r2]) ∧ Drawn0 w w' := by
 have H : (some ((IntKind.u64.wrap ((IntKind.u64.wrap ((IntKind.u64.wrap (a0)) + (IntKind.u64.wrap (a1)))) + (IntKind.u64.wrap (a2)))) % 4294967296, ((IntKind.u64.wrap ((IntKind.u64.wrap ((IntKind.u64.wrap (a0)) + (IntKind.u64.wrap (a1)))) + (IntKind.u64.wrap (a2)))) / 4294967296) % 4294967296)) = some (r1, r2) := h
 clear h
 simp only [Option.some.injEq, Prod.mk.injEq] at H
 obtain ⟨rfl, rfl⟩ := H
 go_enter Tryz.func187, Tryz.ntmps187
 go_wp2
 go_ret2
 exact ⟨by first | rfl | (simp; done) | (simp [*]; done), by repeat (first | exact Drawn0.refl _ | apply Drawn0.step)⟩


def nat_Nat_at.f (l0_0 : List Int) (a1 : Int) : Option (Int) := if a1 < (l0_0.length : Int) then (if 0 ≤ a1 then (some (rd l0_0 a1)) else (none)) else (some 0)
set_option maxRecDepth 1000000 in
theorem nat_Nat_at.k1 {p : Prop} (h : p := by
 first | (obtain rfl := Option.some.inj H) | (have H' := am_ H; clear H)
 go_enter Tryz.func188, Tryz.ntmps188
 try go_wp2_with (first | ((with_reducible refine gate_dst (N := 2) rfl ?_); refine bx_ (N := 2) (cs := #[.slice A0_0 l0_0.length c0_0]) (t := 217) ?_; intro gb223 hg w1 hbox hb; have BK223 := am_ hbox; have GW223 := am_ (bg_ hg : w.heap.size ≤ gb223); replace HB := sb_ hb; clear hb hbox hg; obtain ⟨hcz2_0, hfz2_0⟩ := cz1_ BK223.out; (try (have g_ := c4b0; clear g_; have p224 : 0 ≤ (a1 : Int) := da_; have q224 : a1 < (l0_0.length : Int) := da_; obtain ⟨ad224, e224, hx224_0⟩ := Kd.at_int HR0_0.out a1 p224 q224; cases e224; replace hx224_0 := (HB.out.cell (World.block_lt_of_cell? w _ hx224_0)).trans hx224_0; replace p224 := eq_true p224; replace q224 := eq_true q224))))
 go_ret
 exact ⟨er_, bl_⟩) : p := h
set_option maxHeartbeats 8000000 in
set_option maxRecDepth 100000 in
theorem nat_Nat_at.calls (A0_0 : Option Addr) (c0_0 : Nat) (l0_0 : List Int) (a1 : Int) (r : Int) (w : World) (hr0_0 : Kd.C (Kd.int .u32) w A0_0 l0_0.length l0_0) (hc0_0 : l0_0.length ≤ c0_0) (h : nat_Nat_at.f l0_0 a1 = some r) :
 Calls Tryz.prog 188 #[.agg #[.slice A0_0 l0_0.length c0_0], .int .i64 a1] w fun e w' => e = .returned (.int .u32 r) ∧ Below w.heap.size w w' := by
 have hu217 := Tryz.underlying217
 have HR0_0 := am_ hr0_0
 have HC0_0 := am_ hc0_0
 clear hr0_0 hc0_0
 have HB := am_ (Below.refl w.heap.size w)
 have H : (if a1 < (l0_0.length : Int) then (if 0 ≤ a1 then (some (rd l0_0 a1)) else (none)) else (some 0)) = some r := h
 clear h
 replace H := il_ H
 rcases H with ⟨-, c3b0, H⟩ | ⟨-, c3b0, H⟩
 ·
  replace H := ixl_ H
  obtain ⟨-, c4b0, H⟩ := H
  exact nat_Nat_at.k1
 ·
  exact nat_Nat_at.k1

end Go.Proofs.YtiidpicgdjjikaaGreatDoor.P
