/- Texts of this seat, one behind the other (merged by a program of this session's own). -/
import Derived.Test.YtiidpicgdjjikaaGreatDoorM6
import Derived.Test.YtiidpicgdjjikaaGreatDoorM30
import Derived.Test.YtiidpicgdjjikaaGreatDoorM31

-- Px34
-- of this claim: by a program of this session's own over the kit's print
namespace Go.Proofs.YtiidpicgdjjikaaGreatDoor.P
open Go.RowKit Go.Proofs.YtiidpicgdjjikaaGreatDoor.G Go.Proofs.YtiidpicgdjjikaaGreatDoorW.PrintWords Go.Proofs.YtiidpicgdjjikaaGreatDoorW.PrintLast Go.Proofs.YtiidpicgdjjikaaGreatDoorW.PrintMore
attribute [local go_sem] isSome_setCell_eq max2_int min2_int max_two min_two max_three min_three max_four min_four   -- for this text's walks alone
set_option linter.unusedVariables false
set_option linter.unusedSimpArgs false

/-! ### item_named: function 82 -/
def item_named.f (k : Nat) (a0 : ByteArray) : Option (Bool) := (colour_Number.f k a0).bind fun bt328 => ((cond_Parse.f k a0).bind fun bt330 => (if bt328.2 = true then (some true) else (some bt330.2.2.2.2)))
theorem item_named.mono : ∀ a0 k, LeO (item_named.f k a0) (item_named.f (k + 1) a0) := by
  intro a0 k
  unfold item_named.f
  repeat' first
    | (with_reducible exact colour_Number.mono _ _)
    | (with_reducible exact cond_Parse.mono _ _)
    | (with_reducible exact LeO.refl _)
    | (with_reducible exact LeO.none _)
    | (with_reducible refine LeO.ite ?_ ?_)
    | (with_reducible refine LeO.bind ?_ (fun _ => ?_))
    | exact colour_Number.mono _ _
    | exact cond_Parse.mono _ _
    | exact LeO.none _
    | refine LeO.ite ?_ ?_
    | refine LeO.bind ?_ (fun _ => ?_)
set_option maxHeartbeats 8000000 in
set_option maxRecDepth 100000 in
theorem item_named.calls (k : Nat) (a0 : ByteArray) (r : Bool) (w : World) (h : item_named.f k a0 = some r) (HLW_ : LW w) :
   Calls Tryz.prog 82 #[.string a0] w fun e w' => e = .returned (.bool r) ∧ Below w.heap.size w w' := by
  have HLW := Aside0.mk HLW_
  clear HLW_
  have hu30 := Tryz.underlying30
  have HB := Aside0.mk (Below.refl w.heap.size w)
  have H : ((colour_Number.f k a0).bind fun bt328 => ((cond_Parse.f k a0).bind fun bt330 => (if bt328.2 = true then (some true) else (some bt330.2.2.2.2)))) = some r := h
  clear h
  replace H := Option.bind_eq_some_iff.mp H
  obtain ⟨⟨t328, t329⟩, A20, H⟩ := H
  replace H : ((cond_Parse.f k a0).bind fun bt330 => (if t329 = true then (some true) else (some bt330.2.2.2.2))) = some r := H
  have A2 := Aside0.mk A20
  clear A20
  replace H := Option.bind_eq_some_iff.mp H
  obtain ⟨⟨t330, t331, t332, t333, t334⟩, A30, H⟩ := H
  replace H : (if t329 = true then (some true) else (some t334)) = some r := H
  have A3 := Aside0.mk A30
  clear A30
  by_cases c4 : t329 = true
  ·
   subst c4
   have H1 : (some true) = some r := by rw [if_pos rfl] at H; exact H
   clear H
   have H := H1
   clear H1
   obtain rfl := Option.some.inj H
   go_enter Tryz.func82, Tryz.ntmps82
   go_wp2_with (first | ((with_reducible refine gate_callee (f := 108) rfl ?_); refine goesL_ (some 9) rfl rfl Tryz.func108 (by kernel_rfl) rfl #[.string a0] rfl (by (try simp only [List.map_toArray, List.map_cons, List.map_nil]); first | done | rfl | (simp only [List.length_drop, List.length_take]; rfl)) ?_; (with_reducible refine (colour_Number.calls k a0 t328 true _ A2.out ?side1).mono ?_); (case side1 => exact LW.below HLW.out bl_); rintro e w5 ⟨rfl, hb⟩; refine ⟨_, rfl, ?_⟩; have n0_ := Aside0.mk (below_step bl_ hb); clear HB; have HB := n0_; clear n0_; (try clear hb); (try clear hb2); (try clear hk); (try clear hi)) | ((with_reducible refine gate_callee (f := 109) rfl ?_); refine goesL_ (some 14) rfl rfl Tryz.func109 (by kernel_rfl) rfl #[.string a0] rfl (by (try simp only [List.map_toArray, List.map_cons, List.map_nil]); first | done | rfl | (simp only [List.length_drop, List.length_take]; rfl)) ?_; (with_reducible refine (cond_Parse.calls k a0 t330 t331 t332 t333 t334 _ A3.out ?side1).mono ?_); (case side1 => exact LW.below HLW.out bl_); rintro e w6 ⟨rfl, hb⟩; refine ⟨_, rfl, ?_⟩; have n0_ := Aside0.mk (below_step bl_ hb); clear HB; have HB := n0_; clear n0_; (try clear hb); (try clear hb2); (try clear hk); (try clear hi)) | ((with_reducible refine gate_dst (N := 5) rfl ?_); refine box_event ?hg (N := 5) ?hd (cs := #[.int .i64 0, .bool false, .string (⟨#[]⟩ : ByteArray), .string (⟨#[]⟩ : ByteArray)]) (t := 30) ?hr ?_; (case hd => rfl); (case hg => rfl); (case hr => first | (go_simp; done) | (go_simp; rfl)); intro gb335 hg w7 hbox hb; have n0_ := Aside0.mk (below_step bl_ hb); have n1_ := Aside0.mk (hbox); have n2_ := Aside0.mk ((by rw [hg]; exact (below_size bl_) : w.heap.size ≤ gb335)); have n3_ := Aside0.mk ((by rw [hg]; exact (below_size bl_) : w.heap.size ≤ gb335)); clear HB; have HB := n0_; have BK335 := n1_; have GW335 := n2_; have GE335 := n3_; clear n0_ n1_ n2_ n3_; clear hb hbox hg; have hcz8_0 : w7.cell? ⟨gb335, 0, none⟩ = some (.int .i64 0) := (blk_cell BK335.out 0).trans rfl; have hcz8_1 : w7.cell? ⟨gb335, 1, none⟩ = some (.bool false) := (blk_cell BK335.out 1).trans rfl; have hcz8_2 : w7.cell? ⟨gb335, 2, none⟩ = some (.string (⟨#[]⟩ : ByteArray)) := (blk_cell BK335.out 2).trans rfl; have hcz8_3 : w7.cell? ⟨gb335, 3, none⟩ = some (.string (⟨#[]⟩ : ByteArray)) := (blk_cell BK335.out 3).trans rfl; have hfz8_0 := blk_frozen BK335.out 0; have hfz8_1 := blk_frozen BK335.out 1; have hfz8_2 := blk_frozen BK335.out 2; have hfz8_3 := blk_frozen BK335.out 3))
   go_ret
   exact ⟨by first | rfl | (simp [errW_none, errW_some] <;> rfl) | (simp [*, errW_none, errW_some] <;> rfl), by repeat (first | (with_reducible first | exact HB.out | apply below_alloc | apply pw_below_drewN | apply below_drew1 | refine below_set ?_ GE335.out) | exact HB.out)⟩
  ·
   replace c4 := Bool.eq_false_iff.mpr c4
   subst c4
   have H1 : (some t334) = some r := by rw [if_neg (show ¬ (false = true) by decide)] at H; exact H
   clear H
   have H := H1
   clear H1
   obtain rfl := Option.some.inj H
   go_enter Tryz.func82, Tryz.ntmps82
   go_wp2_with (first | ((with_reducible refine gate_callee (f := 108) rfl ?_); refine goesL_ (some 9) rfl rfl Tryz.func108 (by kernel_rfl) rfl #[.string a0] rfl (by (try simp only [List.map_toArray, List.map_cons, List.map_nil]); first | done | rfl | (simp only [List.length_drop, List.length_take]; rfl)) ?_; (with_reducible refine (colour_Number.calls k a0 t328 false _ A2.out ?side1).mono ?_); (case side1 => exact LW.below HLW.out bl_); rintro e w9 ⟨rfl, hb⟩; refine ⟨_, rfl, ?_⟩; have n0_ := Aside0.mk (below_step bl_ hb); clear HB; have HB := n0_; clear n0_; (try clear hb); (try clear hb2); (try clear hk); (try clear hi)) | ((with_reducible refine gate_callee (f := 109) rfl ?_); refine goesL_ (some 14) rfl rfl Tryz.func109 (by kernel_rfl) rfl #[.string a0] rfl (by (try simp only [List.map_toArray, List.map_cons, List.map_nil]); first | done | rfl | (simp only [List.length_drop, List.length_take]; rfl)) ?_; (with_reducible refine (cond_Parse.calls k a0 t330 t331 t332 t333 t334 _ A3.out ?side1).mono ?_); (case side1 => exact LW.below HLW.out bl_); rintro e w10 ⟨rfl, hb⟩; refine ⟨_, rfl, ?_⟩; have n0_ := Aside0.mk (below_step bl_ hb); clear HB; have HB := n0_; clear n0_; (try clear hb); (try clear hb2); (try clear hk); (try clear hi)) | ((with_reducible refine gate_dst (N := 5) rfl ?_); refine box_event ?hg (N := 5) ?hd (cs := #[.int .i64 0, .bool false, .string (⟨#[]⟩ : ByteArray), .string (⟨#[]⟩ : ByteArray)]) (t := 30) ?hr ?_; (case hd => rfl); (case hg => rfl); (case hr => first | (go_simp; done) | (go_simp; rfl)); intro gb335 hg w11 hbox hb; have n0_ := Aside0.mk (below_step bl_ hb); have n1_ := Aside0.mk (hbox); have n2_ := Aside0.mk ((by rw [hg]; exact (below_size bl_) : w.heap.size ≤ gb335)); have n3_ := Aside0.mk ((by rw [hg]; exact (below_size bl_) : w.heap.size ≤ gb335)); clear HB; have HB := n0_; have BK335 := n1_; have GW335 := n2_; have GE335 := n3_; clear n0_ n1_ n2_ n3_; clear hb hbox hg; have hcz12_0 : w11.cell? ⟨gb335, 0, none⟩ = some (.int .i64 0) := (blk_cell BK335.out 0).trans rfl; have hcz12_1 : w11.cell? ⟨gb335, 1, none⟩ = some (.bool false) := (blk_cell BK335.out 1).trans rfl; have hcz12_2 : w11.cell? ⟨gb335, 2, none⟩ = some (.string (⟨#[]⟩ : ByteArray)) := (blk_cell BK335.out 2).trans rfl; have hcz12_3 : w11.cell? ⟨gb335, 3, none⟩ = some (.string (⟨#[]⟩ : ByteArray)) := (blk_cell BK335.out 3).trans rfl; have hfz12_0 := blk_frozen BK335.out 0; have hfz12_1 := blk_frozen BK335.out 1; have hfz12_2 := blk_frozen BK335.out 2; have hfz12_3 := blk_frozen BK335.out 3))
   go_ret
   exact ⟨by first | rfl | (simp [errW_none, errW_some] <;> rfl) | (simp [*, errW_none, errW_some] <;> rfl), by repeat (first | (with_reducible first | exact HB.out | apply below_alloc | apply pw_below_drewN | apply below_drew1 | refine below_set ?_ GE335.out) | exact HB.out)⟩

end Go.Proofs.YtiidpicgdjjikaaGreatDoor.P

