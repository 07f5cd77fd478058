import Derived.Test.YtiidpicgdjjikaaGreatDoorJ6
namespace Go.Proofs.YtiidpicgdjjikaaGreatDoor.P
open Go.RowKit Go.Proofs.YtiidpicgdjjikaaGreatDoor.G Go.Proofs.YtiidpicgdjjikaaGreatDoorW.PrintWords Go.Proofs.YtiidpicgdjjikaaGreatDoorW.PrintLast Go.Proofs.YtiidpicgdjjikaaGreatDoorW.PrintMore
attribute [local go_sem] isSome_setCell_eq max2_int min2_int max_two min_two max_three min_three max_four min_four
set_option linter.unusedVariables false
set_option linter.unusedSimpArgs false

def item_unit.f (a0_0 : Int) (a0_1 : ByteArray) (a0_2 : Int) : Option (Bool) := if a0_0 = 12 then (some true) else (if a0_0 = 13 then (some true) else (some (a0_0 == 14)))
set_option maxRecDepth 1000000 in
theorem item_unit.k1 {p : Prop} (h : p := by
 first | (obtain rfl := Option.some.inj H) | (have H' := am_ H; clear H)
 go_enter Tryz.func58, Tryz.ntmps58
 try go_wp2_with (first | ((with_reducible refine gate_dst (N := 1) rfl ?_); refine bx_ (N := 1) (cs := #[.int .i64 a0_0, .string a0_1, .int .i64 a0_2]) (t := 55) ?_; intro gb193 hg w1 hbox hb; have BK193 := am_ hbox; have GW193 := am_ (bg_ hg : w.heap.size ≤ gb193); replace HB := sb_ hb; clear hb hbox hg; obtain ⟨hcz2_0, hcz2_1, hcz2_2, hfz2_0, hfz2_1, hfz2_2⟩ := cz3_ BK193.out))
 go_ret
 exact ⟨er_, bl_⟩) : p := h
set_option maxHeartbeats 8000000 in
set_option maxRecDepth 100000 in
theorem item_unit.calls (a0_0 : Int) (a0_1 : ByteArray) (a0_2 : Int) (r : Bool) (w : World) (h : item_unit.f a0_0 a0_1 a0_2 = some r) :
 Calls Tryz.prog 58 #[.agg #[.int .i64 a0_0, .string a0_1, .int .i64 a0_2]] w fun e w' => e = .returned (.bool r) ∧ Below w.heap.size w w' := by
 have hu55 := Tryz.underlying55
 have HB := am_ (Below.refl w.heap.size w)
 have H : (if a0_0 = 12 then (some true) else (if a0_0 = 13 then (some true) else (some (a0_0 == 14)))) = some r := h
 clear h
 replace H := ie_ H
 rcases H with ⟨-, c2b0, c2b1, H⟩ | ⟨c2, c2b0, c2b1, H⟩
 ·
  exact item_unit.k1
 ·
  replace H := ie_ H
  rcases H with ⟨-, c5b0, c5b1, H⟩ | ⟨c5, c5b0, c5b1, H⟩
  ·
   exact item_unit.k1
  ·
   exact item_unit.k1

end Go.Proofs.YtiidpicgdjjikaaGreatDoor.P
