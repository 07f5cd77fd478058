import Derived.Test.YtiidpicgdjjikaaGreatDoorJ6
import Derived.Test.YtiidpicgdjjikaaGreatDoorJ19
import Derived.Test.YtiidpicgdjjikaaGreatDoorJ27
namespace Go.Proofs.YtiidpicgdjjikaaGreatDoor.P
open Go.RowKit Go.Proofs.YtiidpicgdjjikaaGreatDoor.G Go.Proofs.YtiidpicgdjjikaaGreatDoorW.PrintWords Go.Proofs.YtiidpicgdjjikaaGreatDoorW.PrintLast Go.Proofs.YtiidpicgdjjikaaGreatDoorW.PrintMore
attribute [local go_sem] isSome_setCell_eq max2_int min2_int max_two min_two max_three min_three max_four min_four
set_option linter.unusedVariables false
set_option linter.unusedSimpArgs false

def item_named.f (k : Nat) (a0 : ByteArray) : Option (Bool) := (colour_Number.f k a0).bind fun bt328 => ((cond_Parse.f k a0).bind fun bt330 => (if bt328.2 = true then (some true) else (some bt330.2.2.2.2)))
theorem item_named.mono : ∀ a0 k, LeO (item_named.f k a0) (item_named.f (k + 1) a0) := by
 intro a0 k
 unfold item_named.f
 repeat' first | with_reducible first | exact colour_Number.mono _ _ | exact cond_Parse.mono _ _ | exact LeO.refl _ | exact LeO.none _ | refine LeO.ite ?_ ?_ | refine LeO.bind ?_ (fun _ => ?_)
set_option maxRecDepth 1000000 in
theorem item_named.k1 {p : Prop} (h : p := by
 first | (obtain rfl := Option.some.inj H) | (have H' := am_ H; clear H)
 go_enter Tryz.func82, Tryz.ntmps82
 try go_wp2_with (first | ((with_reducible refine gate_callee (f := 108) rfl ?_); refine gc_ (some 9) rfl rfl Tryz.func108 rfl #[.string a0] rfl ?_; (with_reducible refine (colour_Number.calls _ _ _ _ _ A2.out ?side1).mono ?_); (case side1 => exact LW.below HLW.out bl_); rintro e w1 ⟨rfl, hb⟩; refine ⟨_, rfl, ?_⟩; replace HB := sb_ hb; clear hb) | ((with_reducible refine gate_callee (f := 109) rfl ?_); refine gc_ (some 14) rfl rfl Tryz.func109 rfl #[.string a0] rfl ?_; (with_reducible refine (cond_Parse.calls _ _ _ _ _ _ _ _ A3.out ?side1).mono ?_); (case side1 => exact LW.below HLW.out bl_); rintro e w1 ⟨rfl, hb⟩; refine ⟨_, rfl, ?_⟩; replace HB := sb_ hb; clear hb) | ((with_reducible refine gate_dst (N := 5) rfl ?_); refine bx_ (N := 5) (cs := #[.int .i64 0, .bool false, .string (⟨#[]⟩ : ByteArray), .string (⟨#[]⟩ : ByteArray)]) (t := 30) ?_; intro gb335 hg w2 hbox hb; have BK335 := am_ hbox; have GW335 := am_ (bg_ hg : w.heap.size ≤ gb335); replace HB := sb_ hb; clear hb hbox hg; obtain ⟨hcz3_0, hcz3_1, hcz3_2, hcz3_3, hfz3_0, hfz3_1, hfz3_2, hfz3_3⟩ := cz4_ BK335.out))
 go_ret
 exact ⟨er_, bl_⟩) : p := h
set_option maxHeartbeats 8000000 in
set_option maxRecDepth 100000 in
theorem item_named.calls (k : Nat) (a0 : ByteArray) (r : Bool) (w : World) (h : item_named.f k a0 = some r) (HLW_ : LW w) :
 Calls Tryz.prog 82 #[.string a0] w fun e w' => e = .returned (.bool r) ∧ Below w.heap.size w w' := by
 have HLW := am_ HLW_
 clear HLW_
 have hu30 := Tryz.underlying30
 have HB := am_ (Below.refl w.heap.size w)
 have H : ((colour_Number.f k a0).bind fun bt328 => ((cond_Parse.f k a0).bind fun bt330 => (if bt328.2 = true then (some true) else (some bt330.2.2.2.2)))) = some r := h
 clear h
 replace H := bd_ H
 obtain ⟨⟨t328, t329⟩, A2, H⟩ := H
 try dsimp only at H
 replace H := bd_ H
 obtain ⟨⟨t330, t331, t332, t333, t334⟩, A3, H⟩ := H
 try dsimp only at H
 replace H := ib_ H
 rcases H with ⟨rfl, H⟩ | ⟨rfl, H⟩
 ·
  exact item_named.k1
 ·
  exact item_named.k1

end Go.Proofs.YtiidpicgdjjikaaGreatDoor.P
