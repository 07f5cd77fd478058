import Derived.Test.YtiidpicgdjjikaaGreatDoorJ6
import Derived.Test.YtiidpicgdjjikaaGreatDoorJ27
import Derived.Test.YtiidpicgdjjikaaGreatDoorJ31
namespace Go.Proofs.YtiidpicgdjjikaaGreatDoor.P
open Go.RowKit Go.Proofs.YtiidpicgdjjikaaGreatDoor.G Go.Proofs.YtiidpicgdjjikaaGreatDoorW.PrintWords Go.Proofs.YtiidpicgdjjikaaGreatDoorW.PrintLast Go.Proofs.YtiidpicgdjjikaaGreatDoorW.PrintMore
attribute [local go_sem] isSome_setCell_eq max2_int min2_int max_two min_two max_three min_three max_four min_four
set_option linter.unusedVariables false
set_option linter.unusedSimpArgs false

def item_sorts.j0 : Nat → Int → Bool → Int → ByteArray → Int → Int → Option (Int)
 | 0, _, _, _, _, _, _ => none
 | k + 1, x7, x8, x337000, x337001, x337002, x337003 => if x8 = true then (some 5) else (if x7 = 12 then (some 6) else (if x7 = 16 then (some 7) else (if x7 = 6 then (some 2) else (if x7 = 5 then ((colour_Elapsed.f x337001).bind fun bt337 => (if bt337.2.2 = true then ((item_named.f k x337001).bind fun t340 => (if t340 = true then (some 0) else (some 5))) else (some 0))) else (some 0)))))
def item_sorts.f (k : Nat) (a0_0 : Int) (a0_1 : ByteArray) (a0_2 : Int) (a0_3 : Int) : Option (Int) := if a0_0 = 14 then (item_sorts.j0 k a0_0 (a0_0 == 14) a0_0 a0_1 a0_2 a0_3) else (item_sorts.j0 k a0_0 (a0_0 == 15) a0_0 a0_1 a0_2 a0_3)
theorem item_sorts.mono_l : ∀ k, (∀ y0 y1 y2 y3 y4 y5, LeO (item_sorts.j0 k y0 y1 y2 y3 y4 y5) (item_sorts.j0 (k + 1) y0 y1 y2 y3 y4 y5))
 | 0 => fun _ _ _ _ _ _ r h => by simp [item_sorts.j0] at h
 | k + 1 => by
  have ih0 := item_sorts.mono_l k
  ·
   intro y0 y1 y2 y3 y4 y5
   unfold item_sorts.j0
   repeat' first
   | (with_reducible exact ih0 _ _ _ _ _ _)
   | (with_reducible exact item_named.mono _ _)
   | (with_reducible exact LeO.refl _)
   | (with_reducible exact LeO.none _)
   | (with_reducible refine LeO.ite ?_ ?_)
   | (with_reducible refine LeO.bind ?_ (fun _ => ?_))
   | exact ih0 _ _ _ _ _ _
   | exact item_named.mono _ _
   | exact LeO.none _
   | refine LeO.ite ?_ ?_
   | refine LeO.bind ?_ (fun _ => ?_)
theorem item_sorts.mono : ∀ a0 a1 a2 a3 k, LeO (item_sorts.f k a0 a1 a2 a3) (item_sorts.f (k + 1) a0 a1 a2 a3) := by
 intro a0 a1 a2 a3 k
 have ih0 := item_sorts.mono_l k
 unfold item_sorts.f
 repeat' first | with_reducible first | exact ih0 _ _ _ _ _ _ | exact item_named.mono _ _ | exact LeO.refl _ | exact LeO.none _ | refine LeO.ite ?_ ?_ | refine LeO.bind ?_ (fun _ => ?_)
set_option maxRecDepth 1000000 in
theorem item_sorts.k1 {p : Prop} (h : p := by
 first | (obtain rfl := Option.some.inj H) | (have H' := am_ H; clear H)
 first
  | (
   go_wp2
   first
    | (
     go_meet
     first
      | (
       case rel => exact ⟨_, ((a0_0 == 14)), sr_, H', ⟨by first | omega | exact Nat.le_refl _⟩, ⟨bk_ BK336.out⟩, ⟨bl_⟩⟩)
      | (
       case rel => exact ⟨_, ((a0_0 == 15)), sr_, H', ⟨by first | omega | exact Nat.le_refl _⟩, ⟨bk_ BK336.out⟩, ⟨bl_⟩⟩))
    | (
     go_ret
     exact ⟨er_, bl_⟩))
  | (
   obtain ⟨hcz1_0, hcz1_1, hcz1_2, hcz1_3, hfz1_0, hfz1_1, hfz1_2, hfz1_3⟩ := cz4_ BK336.out
   try go_wp2_with (first | ((with_reducible refine gate_callee (f := 81) rfl ?_); refine gc_ (some 22) rfl rfl Tryz.func81 rfl #[.string a0_1] rfl ?_; (with_reducible refine (colour_Elapsed.calls _ _ _ _ _ A11.out ?side1).mono ?_); (case side1 => exact LW.below HLW.out bl_); rintro e w2 ⟨rfl, hb⟩; refine ⟨_, rfl, ?_⟩; replace BK336 := bb_ BK336 hb; replace HB := sb_ hb; clear hb; (try (obtain ⟨hcz1_0, hcz1_1, hcz1_2, hcz1_3, hfz1_0, hfz1_1, hfz1_2, hfz1_3⟩ := cz4_ BK336.out))) | (go_at_call 82; (with_reducible refine (item_named.calls _ _ _ _ A13.out ?side1).mono ?_); (case side1 => exact LW.below HLW.out bl_); rintro e w2 ⟨rfl, hb⟩; replace BK336 := bb_ BK336 hb; replace HB := sb_ hb; clear hb))
   go_ret
   exact ⟨er_, bl_⟩)) : p := h
set_option maxHeartbeats 8000000 in
set_option maxRecDepth 100000 in
theorem item_sorts.calls (k : Nat) (a0_0 : Int) (a0_1 : ByteArray) (a0_2 : Int) (a0_3 : Int) (r : Int) (w : World) (h : item_sorts.f k a0_0 a0_1 a0_2 a0_3 = some r) (HLW_ : LW w) :
 Calls Tryz.prog 53 #[.agg #[.int .i64 a0_0, .string a0_1, .int .i64 a0_2, .int .i64 a0_3]] w fun e w' => e = .returned (.int .i64 r) ∧ Below w.heap.size w w' := by
 have HLW := am_ HLW_
 clear HLW_
 have hu53 := Tryz.underlying53
 have HB := am_ (Below.refl w.heap.size w)
 have H : (if a0_0 = 14 then (item_sorts.j0 k a0_0 (a0_0 == 14) a0_0 a0_1 a0_2 a0_3) else (item_sorts.j0 k a0_0 (a0_0 == 15) a0_0 a0_1 a0_2 a0_3)) = some r := h
 clear h
 have HC2 := am_ H
 clear H
 go_enter Tryz.func53, Tryz.ntmps53
 go_upto_if 8 with (first | ((with_reducible refine gate_dst (N := 1) rfl ?_); refine bx_ (N := 1) (cs := #[.int .i64 a0_0, .string a0_1, .int .i64 a0_2, .int .i64 a0_3]) (t := 53) ?_; intro gb336 hg w3 hbox hb; have BK336 := am_ hbox; have GW336 := am_ (bg_ hg : w.heap.size ≤ gb336); replace HB := sb_ hb; clear hb hbox hg; obtain ⟨hcz4_0, hcz4_1, hcz4_2, hcz4_3, hfz4_0, hfz4_1, hfz4_2, hfz4_3⟩ := cz4_ BK336.out))
 (try simp only [Act.put, List.setIfInBounds_toArray, List.set_cons_zero, List.set_cons_succ])
 go_cut [8] (fun v8 wc => ∃ (kq : Nat) (x8_1 : Bool), v8 = .bool x8_1 ∧ Aside0 (item_sorts.j0 kq a0_0 x8_1 a0_0 a0_1 a0_2 a0_3 = some r) ∧ Aside0 (kq ≤ k) ∧ Aside0 (wc.heap[gb336]? = some (.cells #[.int .i64 a0_0, .string a0_1, .int .i64 a0_2, .int .i64 a0_3] 53 (0, 0))) ∧ Aside0 (Below w.heap.size w wc))
 case first =>
  have H := HC2.out
  clear HC2
  replace H := ie_ H
  rcases H with ⟨-, c5b0, c5b1, H⟩ | ⟨c5, c5b0, c5b1, H⟩
  ·
   (first | rw [c5b0] | (simp only [i64_w, i32_w]; rw [c5b0]) | skip)
   exact item_sorts.k1
  ·
   (first | rw [c5b0] | (simp only [i64_w, i32_w]; rw [c5b0]) | skip)
   exact item_sorts.k1
 case rest =>
  clear HC2
  try clear p2
  try clear c5
  try clear c5b0
  try clear c5b1
  try clear hcz4_0
  try clear hcz4_1
  try clear hcz4_2
  try clear hcz4_3
  try clear hfz4_0
  try clear hfz4_1
  try clear hfz4_2
  try clear hfz4_3
  obtain ⟨kq, x8_1, rfl, HA, HJ1, BK336, HB⟩ := hcut
  cases kq with
  | zero => exact absurd HA.out (by simp [item_sorts.j0])
  | succ kj1 =>
   have H := HA.out
   clear HA
   simp only [item_sorts.j0] at H
   replace H := ib_ H
   rcases H with ⟨rfl, H⟩ | ⟨rfl, H⟩
   ·
    exact item_sorts.k1
   ·
    replace H := ie_ H
    rcases H with ⟨-, c7b0, c7b1, H⟩ | ⟨c7, c7b0, c7b1, H⟩
    ·
     exact item_sorts.k1
    ·
     replace H := ie_ H
     rcases H with ⟨-, c8b0, c8b1, H⟩ | ⟨c8, c8b0, c8b1, H⟩
     ·
      exact item_sorts.k1
     ·
      replace H := ie_ H
      rcases H with ⟨-, c9b0, c9b1, H⟩ | ⟨c9, c9b0, c9b1, H⟩
      ·
       exact item_sorts.k1
      ·
       replace H := ie_ H
       rcases H with ⟨-, c10b0, c10b1, H⟩ | ⟨c10, c10b0, c10b1, H⟩
       ·
        replace H := bd_ H
        obtain ⟨⟨t337, t338, t339⟩, A11, H⟩ := H
        try dsimp only at H
        replace H := ib_ H
        rcases H with ⟨rfl, H⟩ | ⟨rfl, H⟩
        ·
         replace H := bd_ H
         obtain ⟨t340, A13, H⟩ := H
         replace H := ib_ H
         rcases H with ⟨rfl, H⟩ | ⟨rfl, H⟩
         ·
          exact item_sorts.k1
         ·
          exact item_sorts.k1
        ·
         exact item_sorts.k1
       ·
        exact item_sorts.k1

end Go.Proofs.YtiidpicgdjjikaaGreatDoor.P
