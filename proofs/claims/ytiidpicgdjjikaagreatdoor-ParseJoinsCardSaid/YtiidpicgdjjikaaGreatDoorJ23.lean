import Derived.Test.YtiidpicgdjjikaaGreatDoorJ6
import Derived.Test.YtiidpicgdjjikaaGreatDoorJ21
import Derived.Test.YtiidpicgdjjikaaGreatDoorJ22
namespace Go.Proofs.YtiidpicgdjjikaaGreatDoor.P
open Go.RowKit Go.Proofs.YtiidpicgdjjikaaGreatDoor.G Go.Proofs.YtiidpicgdjjikaaGreatDoorW.PrintWords Go.Proofs.YtiidpicgdjjikaaGreatDoorW.PrintLast Go.Proofs.YtiidpicgdjjikaaGreatDoorW.PrintMore
attribute [local go_sem] isSome_setCell_eq max2_int min2_int max_two min_two max_three min_three max_four min_four
set_option linter.unusedVariables false
set_option linter.unusedSimpArgs false

def tens_Ten.f (k : Nat) (a0 : Int) : Option (List Int) := (nat_Of.f k 10).bind fun t281 => ((times_Pow.f k t281 a0).bind fun t284 => (some t284))
theorem tens_Ten.mono : ∀ a0 k, LeO (tens_Ten.f k a0) (tens_Ten.f (k + 1) a0) := by
 intro a0 k
 unfold tens_Ten.f
 repeat' first | with_reducible first | exact nat_Of.mono _ _ | exact times_Pow.mono _ _ _ | exact LeO.refl _ | exact LeO.none _ | refine LeO.ite ?_ ?_ | refine LeO.bind ?_ (fun _ => ?_)
set_option maxHeartbeats 8000000 in
set_option maxRecDepth 100000 in
theorem tens_Ten.calls (k : Nat) (a0 : Int) (r : List Int) (w : World) (h : tens_Ten.f k a0 = some r) :
 Calls Tryz.prog 170 #[.int .i64 a0] w fun e w' => ∃ v0_ : Value, e = .returned (.agg #[v0_]) ∧ Kd.R (Kd.int .u32) 96 w' w.heap.size (fun _ => True) v0_ r ∧ Below w.heap.size w w' := by
 have hu217 := Tryz.underlying217
 have HB := am_ (Below.refl w.heap.size w)
 have H : ((nat_Of.f k 10).bind fun t281 => ((times_Pow.f k t281 a0).bind fun t284 => (some t284))) = some r := h
 clear h
 replace H := bd_ H
 obtain ⟨t281, A2, H⟩ := H
 replace H := bd_ H
 obtain ⟨t284, A3, H⟩ := H
 obtain rfl := Option.some.inj H
 go_enter Tryz.func170, Tryz.ntmps170
 go_wp2_with (first | ((with_reducible refine gate_dst (N := 2) rfl ?_); refine bx_ (N := 2) (cs := #[.slice none 0 0]) (t := 217) ?_; intro gb280 hg w4 hbox hb; have BK280 := am_ hbox; have GW280 := am_ (bg_ hg : w.heap.size ≤ gb280); replace HB := sb_ hb; clear hb hbox hg) | ((with_reducible refine gate_callee (f := 171) rfl ?_); refine gc_ (some 3) rfl rfl Tryz.func171 rfl #[.int .u64 10] rfl ?_; (with_reducible refine (nat_Of.calls _ _ _ _ A2.out).mono ?_); rintro e w5 ⟨v282, rfl, ho0, hb⟩; refine ⟨_, rfl, ?_⟩; have HO283 := am_ (Kd.R_lower ho0 (below_size bl_)); replace BK280 := bb_ BK280 hb; replace HB := sb_ hb; clear hb ho0; obtain ⟨Ao6, co6, eo6⟩ := Kd.R_slice HO283.out; subst eo6) | ((with_reducible refine gate_callee (f := 191) rfl ?_); refine gc_ (some 5) rfl rfl Tryz.func191 rfl #[.agg #[.slice Ao6 t281.length co6], .int .i64 a0] rfl ?_; (with_reducible refine (times_Pow.calls _ _ _ _ _ _ _ ?side1 ?side2 A3.out).mono ?_); (case side1 => exact kc_ (Kd.R_reads' HO283.out).2.2); (case side2 => exact (Kd.R_reads' HO283.out).2.1); rintro e w7 ⟨v285, rfl, ho0, hb⟩; refine ⟨_, rfl, ?_⟩; have HO286 := am_ (Kd.R_lower (Kd.R_new' ho0 (Kd.R_lt (kr_ HO283.out))) (below_size bl_)); replace HO283 := am_ (Kd.R_elder' (kr_ HO283.out) (Kd.R_base ho0) hb); replace BK280 := bb_ BK280 hb; replace HB := sb_ hb; clear hb ho0; obtain ⟨Ao8, co8, eo8⟩ := Kd.R_slice HO286.out; subst eo8; obtain ⟨hcz9_0, hfz9_0⟩ := cz1_ BK280.out))
 refine bodyPost_ret (results_cell_row rfl _ _ gb280 217 _ (0, 0) _ rfl (bp_ BK280.out) Tryz.underlying217 rfl (by kernel_rfl)) rfl ?_
 exact ⟨_, er_, Kd.R_mono (rf_ gb280 (Kd.R_types HO286.out BK280.out (by decide)) (fun _ hk => hk.2)) (fun _ hk => trivial), bl_⟩

end Go.Proofs.YtiidpicgdjjikaaGreatDoor.P
