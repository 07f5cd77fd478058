import Derived.Test.YtiidpicgdjjikaaGreatDoorJ4
import Derived.Test.YtiidpicgdjjikaaGreatDoorJ6
import Derived.Test.YtiidpicgdjjikaaGreatDoorJ19
import Derived.Test.YtiidpicgdjjikaaGreatDoorJ21
import Derived.Test.YtiidpicgdjjikaaGreatDoorJ23
import Derived.Test.YtiidpicgdjjikaaGreatDoorJ24
namespace Go.Proofs.YtiidpicgdjjikaaGreatDoor.P
open Go.RowKit Go.Proofs.YtiidpicgdjjikaaGreatDoor.G Go.Proofs.YtiidpicgdjjikaaGreatDoorW.PrintWords Go.Proofs.YtiidpicgdjjikaaGreatDoorW.PrintLast Go.Proofs.YtiidpicgdjjikaaGreatDoorW.PrintMore
attribute [local go_sem] isSome_setCell_eq max2_int min2_int max_two min_two max_three min_three max_four min_four
set_option linter.unusedVariables false
set_option linter.unusedSimpArgs false

mutual
def digits_Parse.l0 : Nat → ByteArray → List Int → Int → Int → Option (List Int × Bool)
 | 0, _, _, _, _ => none
 | k + 1, x0, x14, x15, x16 => if x16 < x15 then (if 0 ≤ x16 then (if x16 < (x14.length : Int) then ((digits_digit.f (rd x14 x16)).bind fun t292 => (if t292 = true then (digits_Parse.l0 k x0 x14 x15 (wrap64 (x16 + 1))) else (some (([] : List Int), false)))) else (none)) else (none)) else (digits_Parse.l1 k x0 ([] : List Int))
def digits_Parse.l1 : Nat → ByteArray → List Int → Option (List Int × Bool)
 | 0, _, _ => none
 | k + 1, x0, x294000 => if x0.toList = ([] : List UInt8) then (some (x294000, true)) else (if 0 ≤ (mn (x0.size : Int) 9) then (if (mn (x0.size : Int) 9) ≤ (x0.size : Int) then ((strconv_ParseUint.f (x0.extract 0 ((mn (x0.size : Int) 9) : Int).toNat) 10 64).bind fun bt294 => ((tens_Ten.f k (mn (x0.size : Int) 9)).bind fun t296 => ((times_Mul.f k x294000 t296).bind fun t299 => ((nat_Of.f k bt294.1).bind fun t302 => ((nat_Add.f k t299 t302).bind fun t305 => (digits_Parse.l1 k (x0.extract ((mn (x0.size : Int) 9) : Int).toNat x0.size) t305)))))) else (none)) else (none))
end
def digits_Parse.f (k : Nat) (a0 : ByteArray) : Option (List Int × Bool) := if a0.toList = ([] : List UInt8) then (some (([] : List Int), false)) else (if a0.size ≤ 9223372036854775807 then ((some (bytesOf a0 : List Int)).bind fun y288 => (digits_Parse.l0 k a0 y288 (y288.length : Int) 0)) else (none))
theorem digits_Parse.mono_l : ∀ k, (∀ y0 y1 y2 y3, LeO (digits_Parse.l0 k y0 y1 y2 y3) (digits_Parse.l0 (k + 1) y0 y1 y2 y3)) ∧ (∀ y0 y1, LeO (digits_Parse.l1 k y0 y1) (digits_Parse.l1 (k + 1) y0 y1))
 | 0 => ⟨fun _ _ _ _ r h => by simp [digits_Parse.l0] at h, fun _ _ r h => by simp [digits_Parse.l1] at h⟩
 | k + 1 => by
  obtain ⟨ih0, ih1⟩ := digits_Parse.mono_l k
  refine ⟨?_, ?_⟩
  ·
   intro y0 y1 y2 y3
   unfold digits_Parse.l0
   repeat' first
   | (with_reducible exact ih0 _ _ _ _)
   | (with_reducible exact ih1 _ _)
   | (with_reducible exact nat_Add.mono _ _ _)
   | (with_reducible exact nat_Of.mono _ _)
   | (with_reducible exact tens_Ten.mono _ _)
   | (with_reducible exact times_Mul.mono _ _ _)
   | (with_reducible exact LeO.refl _)
   | (with_reducible exact LeO.none _)
   | (with_reducible refine LeO.ite ?_ ?_)
   | (with_reducible refine LeO.bind ?_ (fun _ => ?_))
   | exact ih0 _ _ _ _
   | exact ih1 _ _
   | exact nat_Add.mono _ _ _
   | exact nat_Of.mono _ _
   | exact tens_Ten.mono _ _
   | exact times_Mul.mono _ _ _
   | exact LeO.none _
   | refine LeO.ite ?_ ?_
   | refine LeO.bind ?_ (fun _ => ?_)
  ·
   intro y0 y1
   unfold digits_Parse.l1
   repeat' first
   | (with_reducible exact ih0 _ _ _ _)
   | (with_reducible exact ih1 _ _)
   | (with_reducible exact nat_Add.mono _ _ _)
   | (with_reducible exact nat_Of.mono _ _)
   | (with_reducible exact tens_Ten.mono _ _)
   | (with_reducible exact times_Mul.mono _ _ _)
   | (with_reducible exact LeO.refl _)
   | (with_reducible exact LeO.none _)
   | (with_reducible refine LeO.ite ?_ ?_)
   | (with_reducible refine LeO.bind ?_ (fun _ => ?_))
   | exact ih0 _ _ _ _
   | exact ih1 _ _
   | exact nat_Add.mono _ _ _
   | exact nat_Of.mono _ _
   | exact tens_Ten.mono _ _
   | exact times_Mul.mono _ _ _
   | exact LeO.none _
   | refine LeO.ite ?_ ?_
   | refine LeO.bind ?_ (fun _ => ?_)
theorem digits_Parse.mono : ∀ a0 k, LeO (digits_Parse.f k a0) (digits_Parse.f (k + 1) a0) := by
 intro a0 k
 obtain ⟨ih0, ih1⟩ := digits_Parse.mono_l k
 unfold digits_Parse.f
 repeat' first | with_reducible first | exact ih0 _ _ _ _ | exact ih1 _ _ | exact nat_Add.mono _ _ _ | exact nat_Of.mono _ _ | exact tens_Ten.mono _ _ | exact times_Mul.mono _ _ _ | exact LeO.refl _ | exact LeO.none _ | refine LeO.ite ?_ ?_ | refine LeO.bind ?_ (fun _ => ?_)
def digits_Parse.T13 : Bool × List (List Nat × List Nat) := (true, [([], []), ([], []), ([1], [1]), ([0, 2, 2], [0, 2]), ([], []), ([4, 3], [4]), ([3, 5, 5], [3, 5]), ([6, 6, 0, 1, 2, 3, 4, 5, 6], [6])])
def digits_Parse.B13 : List Nat := [0, 0, 2, 7, 0, 31, 63, 127]
theorem digits_Parse.tab13 : rtab .any (opsOf Tryz.f151 13) = digits_Parse.T13 := by kernel_rfl
theorem digits_Parse.bits13 : waitsOk digits_Parse.T13.2 digits_Parse.B13 = true := by kernel_rfl
set_option maxRecDepth 1000000 in
theorem digits_Parse.k1 {p : Prop} (h : p := by
 first | (simp only [Option.some.injEq, Prod.mk.injEq] at H; obtain ⟨rfl, rfl⟩ := H) | (have H' := am_ H; clear H)
 first
  | (
   go_enter Tryz.func151, Tryz.ntmps151
   try go_wp2_with (first | ((with_reducible refine gate_dst (N := 2) rfl ?_); refine bx_ (N := 2) (cs := #[.slice none 0 0]) (t := 217) ?_; intro gb287 hg w1 hbox hb; have BK287 := am_ hbox; have GW287 := am_ (bg_ hg : w.heap.size ≤ gb287); replace HB := sb_ hb; clear hb hbox hg; obtain ⟨hcz4_0, hfz4_0⟩ := cz1_ BK287.out))
   refine bodyPost_ret (results_ct rfl _ _ gb287 217 _ (0, 0) _ rfl (bp_ BK287.out) Tryz.underlying217 rfl (by kernel_rfl)) rfl ?_
   exact ⟨_, er_, by first | exact Kd.R_nil _ _ _ _ _ | exact Kd.N_nil _ _ _ _ _ | exact Kd.V_nil _ _ _ _ _ | exact Kd.Q_nil _ _ _ _ _ | exact Kd.S_nil _ _ _ _ _, bl_⟩)
  | (
   have p291 : 0 ≤ (x16_1 : Int) := da_
   have q291 : x16_1 < (y288.length : Int) := da_
   obtain ⟨ad291, e291, hx291_0⟩ := Kd.at_int (Kd.V_reads' HO_14.out).2.2 x16_1 p291 q291
   cases e291
   replace p291 := eq_true p291
   replace q291 := eq_true q291
   try go_wp2_with (first | ((with_reducible refine gate_callee (f := 167) rfl ?_); refine gc_ (some 21) rfl rfl Tryz.func167 rfl #[.int .u8 (rd y288 x16_1)] rfl ?_; (with_reducible refine (digits_digit.calls _ _ _ A13.out).mono ?_); rintro e w' ⟨rfl, ⟨nd, rfl⟩⟩; refine ⟨_, rfl, ?_⟩; (try ((try (rw [drewN_self wr]; generalize hq_ : World.drewN wr _ = wr; have n0_ : Aside0 (Kd.V (Kd.int .u8) 5 wr w.heap.size (fun k_ => k_ ≠ gb287) (.slice (some ad291) y288.length co9) y288) := ⟨by rw [← hq_]; exact (by (with_reducible repeat (first | apply Kd.V_alloc | apply Kd.V_drewN | apply Kd.V_drew)); exact HO_14.out)⟩; have n1_ : Aside0 (wr.heap[gb287]? = some (.cells #[.slice none 0 0] 217 (0, 0))) := ⟨by rw [← hq_]; exact (bk_ BK287.out)⟩; have n2_ : Aside0 (Below w.heap.size w wr) := ⟨by rw [← hq_]; exact bl_⟩; clear HO_14 BK287 HB hq_; have HO_14 := n0_; have BK287 := n1_; have HB := n2_; clear n0_ n1_ n2_)); obtain ⟨hcz15_0, hfz15_0⟩ := cz1_ BK287.out))))
   first
    | (
     go_roundg k1
     case measure => have := HK1.out; omega
     case rel => exact ⟨(wrap64 (x16_1 + 1)), sr_, H', ⟨by have := HK1.out; omega⟩, ⟨by (with_reducible repeat (first | apply Kd.V_alloc | apply Kd.V_drewN | apply Kd.V_drew)); exact HO_14.out⟩, ⟨bk_ BK287.out⟩, ⟨bl_⟩⟩)
    | (
     refine bodyPost_ret (results_ct rfl _ _ gb287 217 _ (0, 0) _ rfl (bp_ BK287.out) Tryz.underlying217 rfl (by kernel_rfl)) rfl ?_
     exact ⟨_, er_, by first | exact Kd.R_nil _ _ _ _ _ | exact Kd.N_nil _ _ _ _ _ | exact Kd.V_nil _ _ _ _ _ | exact Kd.Q_nil _ _ _ _ _ | exact Kd.S_nil _ _ _ _ _, bl_⟩))
  | (
   have hnb2 := NB293_287.out
   have hnc2 := NB287_293.out
   obtain ⟨hcz3_0, hfz3_0⟩ := cz1_ BK293.out
   obtain ⟨Ao5, co5, eo5⟩ := Kd.R_slice HO_294000.out
   subst eo5
   obtain ⟨hcz8_0, hfz8_0⟩ := cz1_ BK287.out
   go_wp2
   refine bodyPost_ret (results_ct rfl _ _ gb287 217 _ (0, 0) _ rfl (bp_ BK287.out) Tryz.underlying217 rfl (by kernel_rfl)) rfl ?_
   exact ⟨_, er_, Kd.R_mono (rf_ gb287 (Kd.R_types HO_294000.out BK287.out (by decide)) (fun _ hk => hk.2)) (fun _ hk => trivial), bl_⟩)
  | (
   try go_wp2_with (first | ((with_reducible refine gate_callee (f := 138) rfl ?_); refine goesL_ (some 35) rfl rfl Tryz.func138 (by kernel_rfl) rfl #[.string (x0_2.extract 0 ((ji24) : Int).toNat), .int .i64 10, .int .i64 64] rfl (by (try simp only [List.map_toArray, List.map_cons, List.map_nil]); first | done | (simp only [hji24]; rfl) | rfl | (simp only [List.length_drop, List.length_take]; rfl)) ?_; (with_reducible refine (strconv_ParseUint.calls _ _ _ _ _ _ A27.out ?side1).mono ?_); (case side1 => exact LW.below HLW.out bl_); rintro e w10 ⟨rfl, hb⟩; refine ⟨_, rfl, ?_⟩; replace HO_294000 := rb_ HO_294000 hb; replace BK287 := bb_ BK287 hb; replace BK293 := bb_ BK293 hb; replace HB := sb_ hb; clear hb; (try simp only [errW_none, errW_some])))
   refine gz_ 8 ?_
   replace HO_294000 := am_ (Kd.R_drew HO_294000.out)
   replace BK287 := am_ (blk_drew BK287.out)
   replace BK293 := am_ (blk_drew BK293.out)
   replace HB := am_ (below_drew1 HB.out)
   refine sw_ (n := 8) (S := fun w' => w'.cell? ⟨gb293, 0, none⟩ = some (u294000)) (ds := [7]) ((blk_cell BK293.out 0).trans rfl) (fun hHeld => ?_); refine with_tabW digits_Parse.tab13 digits_Parse.bits13 (fun HT_ HW_ => ?_)
   generalize w10.drew = w11 at HO_294000 BK287 BK293 HB hHeld ⊢
   refine pw_ 1 (some 39) ?_
   refine pw_ 4 (some 42) ?_
   refine tw_ 0 (some 38) hHeld ?_
   refine ow_ 2 (some 40) (fun K hK => ?_)
   refine goes_ Tryz.func170 (by kernel_rfl) rfl #[.int .i64 ji24] (by rfl) rfl rfl (by (try simp only [List.map_toArray, List.map_cons, List.map_nil]); first | done | (simp only [hji24]; rfl) | rfl | (simp only [List.length_drop, List.length_take]; rfl)) ?_
   with_reducible refine (tens_Ten.calls _ _ _ _ A28.out).mono ?_
   rintro e w12 ⟨v297, rfl, ho0, hb⟩
   refine ⟨_, rfl, ?_⟩
   have HO298 := am_ (Kd.R_lower (Kd.R_new' ho0 (Kd.R_lt (kr_ HO_294000.out))) (below_size bl_))
   replace HO_294000 := am_ (Kd.R_elder' (kr_ HO_294000.out) (Kd.R_base ho0) hb)
   replace BK287 := bb_ BK287 hb
   replace BK293 := bb_ BK293 hb
   replace HB := am_ (below_step bl_ hb)
   (try clear hb)
   (try clear hb2)
   (try clear hk)
   (try clear hi)
   (try clear ho0)
   obtain ⟨Ao5, co5, eo5⟩ := Kd.R_slice HO_294000.out
   (first | subst eo5 | (injection eo5 with f1_ f2_ f3_; have f4_ := f1_.symm; have f5_ := f3_.symm; clear f1_ f2_ f3_; subst f4_; subst f5_))
   obtain ⟨Ao13, co13, eo13⟩ := Kd.R_slice HO298.out
   (first | subst eo13 | (injection eo13 with f1_ f2_ f3_; have f4_ := f1_.symm; have f5_ := f3_.symm; clear f1_ f2_ f3_; subst f4_; subst f5_))
   refine hK.out _ _ ((blk_cell BK293.out 0).trans rfl) (fun hHeld => ?_)
   clear hK K
   refine norm_ (a' := ?_) ?_ ?_
   rotate_left
   ·
    show Act.put _ (some 40) _ = _
    simp only [Act.put, List.setIfInBounds_toArray, List.set_cons_zero, List.set_cons_succ, i64_w, i32_w]
    rfl
   refine ow_ 3 (some 41) (fun K hK => ?_)
   refine goes_ Tryz.func169 (by kernel_rfl) rfl #[.agg #[.slice Ao5 x294000_2.length co5], .agg #[.slice Ao13 t296.length co13]] (by rfl) rfl rfl (by (try simp only [List.map_toArray, List.map_cons, List.map_nil]); first | done | rfl | (simp only [List.length_drop, List.length_take]; rfl)) ?_
   with_reducible refine (times_Mul.calls _ _ _ _ _ _ _ _ _ ?side1 ?side2 ?side3 ?side4 A29.out).mono ?_
   (case side1 => exact kc_ (Kd.R_reads' HO_294000.out).2.2)
   (case side2 => exact (Kd.R_reads' HO_294000.out).2.1)
   (case side3 => exact kc_ (Kd.R_reads' HO298.out).2.2)
   (case side4 => exact (Kd.R_reads' HO298.out).2.1)
   rintro e w14 ⟨v300, rfl, ho0, hb⟩
   refine ⟨_, rfl, ?_⟩
   have HO301 := am_ (Kd.R_lower (Kd.R_new' (Kd.R_new' ho0 (Kd.R_lt (kr_ HO_294000.out))) (Kd.R_lt (kr_ HO298.out))) (below_size bl_))
   replace HO_294000 := am_ (Kd.R_elder' (kr_ HO_294000.out) (Kd.R_base ho0) hb)
   replace HO298 := am_ (Kd.R_elder' (kr_ HO298.out) (Kd.R_base ho0) hb)
   replace BK287 := bb_ BK287 hb
   replace BK293 := bb_ BK293 hb
   replace HB := am_ (below_step bl_ hb)
   (try clear hb)
   (try clear hb2)
   (try clear hk)
   (try clear hi)
   (try clear ho0)
   refine hK.out _ _ ((blk_cell BK293.out 0).trans rfl) (fun hHeld => ?_)
   clear hK K
   refine norm_ (a' := ?_) ?_ ?_
   rotate_left
   ·
    show Act.put _ (some 41) _ = _
    simp only [Act.put, List.setIfInBounds_toArray, List.set_cons_zero, List.set_cons_succ, i64_w, i32_w]
    rfl
   refine ow_ 5 (some 43) (fun K hK => ?_)
   refine goes_ Tryz.func171 (by kernel_rfl) rfl #[.int .u64 t294] (by rfl) rfl rfl (by (try simp only [List.map_toArray, List.map_cons, List.map_nil]); first | done | rfl | (simp only [List.length_drop, List.length_take]; rfl)) ?_
   with_reducible refine (nat_Of.calls _ _ _ _ A30.out).mono ?_
   rintro e w19 ⟨v303, rfl, ho0, hb⟩
   refine ⟨_, rfl, ?_⟩
   have HO304 := am_ (Kd.R_lower (Kd.R_new' (Kd.R_new' (Kd.R_new' ho0 (Kd.R_lt (kr_ HO_294000.out))) (Kd.R_lt (kr_ HO298.out))) (Kd.R_lt (kr_ HO301.out))) (below_size bl_))
   replace HO_294000 := am_ (Kd.R_elder' (kr_ HO_294000.out) (Kd.R_base ho0) hb)
   replace HO298 := am_ (Kd.R_elder' (kr_ HO298.out) (Kd.R_base ho0) hb)
   replace HO301 := am_ (Kd.R_elder' (kr_ HO301.out) (Kd.R_base ho0) hb)
   replace BK287 := bb_ BK287 hb
   replace BK293 := bb_ BK293 hb
   replace HB := am_ (below_step bl_ hb)
   (try clear hb)
   (try clear hb2)
   (try clear hk)
   (try clear hi)
   (try clear ho0)
   obtain ⟨Ao20, co20, eo20⟩ := Kd.R_slice HO301.out
   (first | subst eo20 | (injection eo20 with f1_ f2_ f3_; have f4_ := f1_.symm; have f5_ := f3_.symm; clear f1_ f2_ f3_; subst f4_; subst f5_))
   obtain ⟨Ao21, co21, eo21⟩ := Kd.R_slice HO304.out
   (first | subst eo21 | (injection eo21 with f1_ f2_ f3_; have f4_ := f1_.symm; have f5_ := f3_.symm; clear f1_ f2_ f3_; subst f4_; subst f5_))
   refine hK.out _ _ ((blk_cell BK293.out 0).trans rfl) (fun hHeld => ?_)
   clear hK K
   refine norm_ (a' := ?_) ?_ ?_
   rotate_left
   ·
    show Act.put _ (some 43) _ = _
    simp only [Act.put, List.setIfInBounds_toArray, List.set_cons_zero, List.set_cons_succ, i64_w, i32_w]
    rfl
   refine ow_ 6 (some 44) (fun K hK => ?_)
   refine goes_ Tryz.func168 (by kernel_rfl) rfl #[.agg #[.slice Ao20 t299.length co20], .agg #[.slice Ao21 t302.length co21]] (by rfl) rfl rfl (by (try simp only [List.map_toArray, List.map_cons, List.map_nil]); first | done | rfl | (simp only [List.length_drop, List.length_take]; rfl)) ?_
   with_reducible refine (nat_Add.calls _ _ _ _ _ _ _ _ _ ?side1 ?side2 ?side3 ?side4 A31.out).mono ?_
   (case side1 => exact kc_ (Kd.R_reads' HO301.out).2.2)
   (case side2 => exact (Kd.R_reads' HO301.out).2.1)
   (case side3 => exact kc_ (Kd.R_reads' HO304.out).2.2)
   (case side4 => exact (Kd.R_reads' HO304.out).2.1)
   rintro e w22 ⟨v306, rfl, ho0, hb⟩
   refine ⟨_, rfl, ?_⟩
   have HO307 := am_ (Kd.R_lower (Kd.R_new' (Kd.R_new' (Kd.R_new' (Kd.R_new' ho0 (Kd.R_lt (kr_ HO_294000.out))) (Kd.R_lt (kr_ HO298.out))) (Kd.R_lt (kr_ HO301.out))) (Kd.R_lt (kr_ HO304.out))) (below_size bl_))
   replace HO_294000 := am_ (Kd.R_elder' (kr_ HO_294000.out) (Kd.R_base ho0) hb)
   replace HO298 := am_ (Kd.R_elder' (kr_ HO298.out) (Kd.R_base ho0) hb)
   replace HO301 := am_ (Kd.R_elder' (kr_ HO301.out) (Kd.R_base ho0) hb)
   replace HO304 := am_ (Kd.R_elder' (kr_ HO304.out) (Kd.R_base ho0) hb)
   replace BK287 := bb_ BK287 hb
   replace BK293 := bb_ BK293 hb
   replace HB := am_ (below_step bl_ hb)
   (try clear hb)
   (try clear hb2)
   (try clear hk)
   (try clear hi)
   (try clear ho0)
   obtain ⟨Ao23, co23, eo23⟩ := Kd.R_slice HO307.out
   (first | subst eo23 | (injection eo23 with f1_ f2_ f3_; have f4_ := f1_.symm; have f5_ := f3_.symm; clear f1_ f2_ f3_; subst f4_; subst f5_))
   refine hK.out _ _ ((blk_cell BK293.out 0).trans rfl) (fun hHeld => ?_)
   clear hK K
   refine norm_ (a' := ?_) ?_ ?_
   rotate_left
   ·
    show Act.put _ (some 44) _ = _
    simp only [Act.put, List.setIfInBounds_toArray, List.set_cons_zero, List.set_cons_succ, i64_w, i32_w]
    rfl
   refine last_ (i := 7) (N := none) #[true, true, true, true, true, true, true, true] rfl rfl (one_of HT_.out (by kernel_rfl)) (by decide) (fun K hK => ?_)
   have hs24 : w22.cell? ⟨gb293, 0, none⟩ = some (.slice Ao5 x294000_2.length co5) := (blk_cell BK293.out 0).trans rfl
   have hfs24 := blk_frozen BK293.out 0
   have hns24_0 := NB287_293.out
   have hms24_0 := NB293_287.out
   refine skip_ (w1 := ?_) (by rfl) rfl ?_ ?_
   rotate_left
   ·
    go_simp
    rfl
   refine hK.out _ _ ?_
   clear hK K
   refine done_ (done_of HT_.out (by kernel_rfl)) ?_
   try go_wp2
   go_roundg k2
   case measure => have := HK1.out; have := HK2.out; omega
   case rel => exact ⟨(x0_2.extract ((ji24) : Int).toNat x0_2.size), (t305), (.slice Ao23 t305.length co23), (by first | rfl | (simp; done) | (simp only [← hji24] <;> (first | rfl | simp)) | (simp [*]; done)), H', ⟨by have := HK1.out; have := HK2.out; omega⟩, ⟨Kd.R_mono (rf_ gb293 (Kd.R_types HO307.out BK293.out (by decide)) (fun _ hk => hk.2)) (fun _ hk => trivial)⟩, ⟨bk_ BK287.out⟩, ⟨bp_ BK293.out⟩, ⟨bl_⟩⟩)) : p := h
set_option maxHeartbeats 8000000 in
set_option maxRecDepth 100000 in
theorem digits_Parse.calls (k : Nat) (a0 : ByteArray) (r1 : List Int) (r2 : Bool) (w : World) (h : digits_Parse.f k a0 = some (r1, r2)) (HLW_ : LW w) :
 Calls Tryz.prog 151 #[.string a0] w fun e w' => ∃ v0_ : Value, e = .returned (.tuple #[.agg #[v0_], .bool r2]) ∧ Kd.R (Kd.int .u32) 96 w' w.heap.size (fun _ => True) v0_ r1 ∧ Below w.heap.size w w' := by
 have HLW := am_ HLW_
 clear HLW_
 have hu217 := Tryz.underlying217
 have HB := am_ (Below.refl w.heap.size w)
 have H : (if a0.toList = ([] : List UInt8) then (some (([] : List Int), false)) else (if a0.size ≤ 9223372036854775807 then ((some (bytesOf a0 : List Int)).bind fun y288 => (digits_Parse.l0 k a0 y288 (y288.length : Int) 0)) else (none))) = some (r1, r2) := h
 clear h
 replace H := ie_ H
 rcases H with ⟨-, c2b0, c2b1, H⟩ | ⟨c2, c2b0, c2b1, H⟩
 ·
  exact digits_Parse.k1
 ·
  replace H := ixl_ H
  obtain ⟨c5, -, H⟩ := H
  have c5b0 := eq_true c5
  have c5b1 : decide (a0.size ≤ 9223372036854775807) = true := decide_eq_true c5
  try have c5b2 : (9223372036854775807 < a0.size) = False := eq_false (Nat.not_lt.2 c5)
  clear c5
  obtain ⟨y288, hy288⟩ : ∃ y_ : List Int, y_ = (bytesOf a0) := ⟨_, rfl⟩
  replace H : (digits_Parse.l0 k a0 y288 (y288.length : Int) 0) = some (r1, r2) := by first | (rw [hy288]; with_reducible exact H) | (have H2_ := (Option.bind_some _ _).symm.trans H; rw [hy288]; with_reducible exact H2_) | (have H2_ := (Option.bind_some _ _).symm.trans H; with_reducible exact H2_) | with_reducible exact H | (rw [hy288]; exact H) | exact H
  have Ny288 := am_ hy288
  clear hy288
  have H' := am_ H
  clear H
  go_enter Tryz.func151, Tryz.ntmps151
  go_wp2_with (first | ((with_reducible refine gate_dst (N := 2) rfl ?_); refine bx_ (N := 2) (cs := #[.slice none 0 0]) (t := 217) ?_; intro gb287 hg w6 hbox hb; have BK287 := am_ hbox; have GW287 := am_ (bg_ hg : w.heap.size ≤ gb287); replace HB := sb_ hb; clear hb hbox hg) | ((with_reducible refine gate_dst (N := 14) rfl ?_); refine conv_V _ 5 rfl (N := 14) rfl 9 50 _ rfl a0 rfl Tryz.underlying9 Tryz.underlying50 Tryz.underlying5 (by first | omega | exact of_decide_eq_true (by assumption)) (ok := fun k_ => w6.heap.size ≤ k_) (by first | exact Nat.le_refl _ | (simp; done) | (simp; omega)) (Below.refl _ _) (Nat.le_refl _) ?_; intro v289 w7 ho8 hb hg_ hnew_; clear hg_ hnew_; (first | rw [← Ny288.out] at ho8 | (simp only [Int.reduceToNat] at ho8; rw [← Ny288.out] at ho8)); have HO290 := am_ (Kd.V_lower (Kd.V_mono (ok' := fun k_ => k_ ≠ gb287) ho8 (fun k_ hk_ => (Kd.freshB (g := gb287) (o := .cells #[.slice none 0 0] 217 (0, 0)) (bk_ BK287.out) k_ hk_))) (below_size bl_)); replace BK287 := bb_ BK287 hb; replace HB := sb_ hb; clear hb ho8; obtain ⟨Ao9, co9, eo9⟩ := Kd.V_slice HO290.out; subst eo9))
  go_loopg [16] k (fun kq v16 w' => ∃ (x16_1 : Int), v16 = .int .i64 x16_1 ∧ Aside0 (digits_Parse.l0 kq a0 y288 (y288.length : Int) x16_1 = some (r1, r2)) ∧ Aside0 (kq ≤ k) ∧ Aside0 (Kd.V (Kd.int .u8) 5 w' w.heap.size (fun k_ => k_ ≠ gb287) (.slice Ao9 y288.length co9) y288) ∧ Aside0 (w'.heap[gb287]? = some (.cells #[(.slice none 0 0)] 217 (0, 0))) ∧ Aside0 (Below w.heap.size w w'))
  case atStart => exact ⟨(0), sr_, H', ⟨Nat.le_refl _⟩, ⟨by (with_reducible repeat (first | apply Kd.V_alloc | apply Kd.V_drewN | apply Kd.V_drew)); exact HO290.out⟩, ⟨bk_ BK287.out⟩, ⟨bl_⟩⟩
  case round =>
   clear H'
   try clear c1
   try clear c2
   try clear c2b0
   try clear c2b1
   try clear p2
   try clear c5
   try clear c5b0
   try clear c5b1
   try clear c5b2
   try clear hcz4_0
   try clear hfz4_0
   obtain ⟨x16_1, rfl, HA, HK1, HO_14, BK287, HB⟩ := hrel
   cases gk with
   | zero => exact absurd HA.out (by simp [digits_Parse.l0])
   | succ k1 =>
    have H := HA.out
    clear HA
    simp only [digits_Parse.l0] at H
    replace H := il_ H
    rcases H with ⟨-, c10b0, H⟩ | ⟨-, c10b0, H⟩
    ·
     replace H := ixl_ H
     obtain ⟨-, c11b0, H⟩ := H
     replace H := ixl_ H
     obtain ⟨-, c12b0, H⟩ := H
     replace H := bd_ H
     obtain ⟨t292, A13, H⟩ := H
     replace H := ib_ H
     rcases H with ⟨rfl, H⟩ | ⟨rfl, H⟩
     ·
      exact digits_Parse.k1
     ·
      exact digits_Parse.k1
    ·
     have H' := am_ H
     clear H
     go_wp2_with (first | ((with_reducible refine gate_dst (N := 6) rfl ?_); refine bx_ (N := 6) (cs := #[.slice none 0 0]) (t := 217) ?_; intro gb293 hg w16 hbox hb; have BK293 := am_ hbox; have GW293 := am_ (bg_ hg : w.heap.size ≤ gb293); obtain ⟨NB287_293, NB293_287⟩ := nb_ hg BK287; replace HO_14 := am_ (Kd.V_below (Kd.V_elderB (by (with_reducible repeat (first | apply Kd.V_alloc | apply Kd.V_drewN | apply Kd.V_drew)); exact HO_14.out) gb293 (Nat.le_of_eq hg.symm)) hb); replace BK287 := bb_ BK287 hb; replace HB := sb_ hb; clear hb hbox hg; have hnb17 := NB293_287.out; have hnc17 := NB287_293.out; obtain ⟨hcz18_0, hfz18_0⟩ := cz1_ BK293.out))
     go_loopg [0] k1 (fun kq v0 w' => ∃ (x0_2 : ByteArray) (x294000_2 : List Int) (u294000 : Value), v0 = .string x0_2 ∧ Aside0 (digits_Parse.l1 kq x0_2 x294000_2 = some (r1, r2)) ∧ Aside0 (kq ≤ k1) ∧ Aside0 (Kd.R (Kd.int .u32) 96 w' w.heap.size (fun _ => True) u294000 x294000_2) ∧ Aside0 (w'.heap[gb287]? = some (.cells #[(.slice none 0 0)] 217 (0, 0))) ∧ Aside0 (w'.heap[gb293]? = some (.cells #[u294000] 217 (0, 0))) ∧ Aside0 (Below w.heap.size w w'))
     case atStart => exact ⟨(a0), (([] : List Int)), (.slice none 0 0), sr_, H', ⟨Nat.le_refl _⟩, ⟨by first | exact Kd.R_nil _ _ _ _ _ | exact Kd.N_nil _ _ _ _ _ | exact Kd.V_nil _ _ _ _ _ | exact Kd.Q_nil _ _ _ _ _ | exact Kd.S_nil _ _ _ _ _⟩, ⟨bk_ BK287.out⟩, ⟨bp_ BK293.out⟩, ⟨bl_⟩⟩
     case round =>
      clear H'
      try clear c1
      try clear c2
      try clear c2b0
      try clear c2b1
      try clear p2
      try clear q2
      try clear hx2
      try clear c5
      try clear c5b0
      try clear c5b1
      try clear c5b2
      try clear p6
      try clear c10
      try clear c10b0
      try clear c11
      try clear c11b0
      try clear c12
      try clear c12b0
      try clear c14
      try clear c15
      try clear c16
      try clear c17
      try clear hcz15_0
      try clear hcz18_0
      try clear hcz4_0
      try clear hfz15_0
      try clear hfz18_0
      try clear hfz4_0
      try clear hx291_0
      try clear p2
      try clear p291
      try clear q291
      obtain ⟨x0_2, x294000_2, u294000, rfl, HA, HK2, HO_294000, BK287, BK293, HB⟩ := hrel
      cases gk with
      | zero => exact absurd HA.out (by simp [digits_Parse.l1])
      | succ k2 =>
       have H := HA.out
       clear HA
       simp only [digits_Parse.l1] at H
       replace H := ie_ H
       rcases H with ⟨-, c19b0, c19b1, H⟩ | ⟨c19, c19b0, c19b1, H⟩
       ·
        exact digits_Parse.k1
       ·
        obtain ⟨ji24, hji24⟩ : ∃ j_ : Int, (mn (x0_2.size : Int) 9) = j_ := ⟨_, rfl⟩
        replace H : (if 0 ≤ (ji24) then (if (ji24) ≤ (x0_2.size : Int) then ((strconv_ParseUint.f (x0_2.extract 0 ((ji24) : Int).toNat) 10 64).bind fun bt294 => ((tens_Ten.f k2 (ji24)).bind fun t296 => ((times_Mul.f k2 x294000_2 t296).bind fun t299 => ((nat_Of.f k2 bt294.1).bind fun t302 => ((nat_Add.f k2 t299 t302).bind fun t305 => (digits_Parse.l1 k2 (x0_2.extract ((ji24) : Int).toNat x0_2.size) t305)))))) else (none)) else (none)) = some (r1, r2) := by first | (rw [hji24] at H; exact H) | (simp only [hji24] at H ⊢; exact H)
        have hji24_ : (if 9 < (x0_2.size : Int) then 9 else (x0_2.size : Int)) = ji24 := hji24
        replace H := ixl_ H
        obtain ⟨c25, -, H⟩ := H
        have c25b0 := eq_true c25
        have c25b1 : decide (0 ≤ (ji24)) = true := decide_eq_true c25
        clear c25
        replace H := ixl_ H
        obtain ⟨c26, -, H⟩ := H
        have c26b0 := eq_true c26
        have c26b1 : decide ((ji24) ≤ (x0_2.size : Int)) = true := decide_eq_true c26
        clear c26
        replace H := bd_ H
        obtain ⟨⟨t294, t295⟩, A27, H⟩ := H
        try dsimp only at H
        replace H := bd_ H
        obtain ⟨t296, A28, H⟩ := H
        replace H := bd_ H
        obtain ⟨t299, A29, H⟩ := H
        replace H := bd_ H
        obtain ⟨t302, A30, H⟩ := H
        replace H := bd_ H
        obtain ⟨t305, A31, H⟩ := H
        have c32b0 := eq_true (da_ : 0 ≤ (ji24))
        have c33b0 := eq_true (da_ : (ji24) ≤ (x0_2.size : Int))
        exact digits_Parse.k1


def cond_run.f (k : Nat) (a0 : ByteArray) : Option (Bool) := (digits_Parse.f k a0).bind fun bt308 => (if bt308.2 = true then (some (decide ((a0.size : Int) ≤ 30))) else (some false))
theorem cond_run.mono : ∀ a0 k, LeO (cond_run.f k a0) (cond_run.f (k + 1) a0) := by
 intro a0 k
 unfold cond_run.f
 repeat' first | with_reducible first | exact digits_Parse.mono _ _ | exact LeO.refl _ | exact LeO.none _ | refine LeO.ite ?_ ?_ | refine LeO.bind ?_ (fun _ => ?_)
set_option maxRecDepth 1000000 in
theorem cond_run.k1 {p : Prop} (h : p := by
 first | (obtain rfl := Option.some.inj H) | (have H' := am_ H; clear H)
 go_enter Tryz.func135, Tryz.ntmps135
 try go_wp2_with (first | ((with_reducible refine gate_callee (f := 151) rfl ?_); refine gc_ (some 7) rfl rfl Tryz.func151 rfl #[.string a0] rfl ?_; (with_reducible refine (digits_Parse.calls _ _ _ _ _ A2.out ?side1).mono ?_); (case side1 => exact LW.below HLW.out bl_); rintro e w1 ⟨v309, rfl, ho0, hb⟩; refine ⟨_, rfl, ?_⟩; have HO310 := am_ (Kd.R_lower ho0 (below_size bl_)); replace HB := sb_ hb; clear hb ho0) | ((with_reducible refine gate_dst (N := 3) rfl ?_); (try (refine gate_guard (by rfl) ?_; dsimp only)); refine bx_ (N := 3) (cs := #[.slice none 0 0]) (t := 217) ?_; intro gb312 hg w2 hbox hb; have BK312 := am_ hbox; have GW312 := am_ (bg_ hg : w.heap.size ≤ gb312); replace HO310 := rb_ HO310 hb; replace HB := sb_ hb; clear hb hbox hg; obtain ⟨Ao3, co3, eo3⟩ := Kd.R_slice HO310.out; subst eo3; obtain ⟨hcz4_0, hfz4_0⟩ := cz1_ BK312.out))
 go_ret
 exact ⟨er_, bl_⟩) : p := h
set_option maxHeartbeats 8000000 in
set_option maxRecDepth 100000 in
theorem cond_run.calls (k : Nat) (a0 : ByteArray) (r : Bool) (w : World) (h : cond_run.f k a0 = some r) (HLW_ : LW w) :
 Calls Tryz.prog 135 #[.string a0] w fun e w' => e = .returned (.bool r) ∧ Below w.heap.size w w' := by
 have HLW := am_ HLW_
 clear HLW_
 have hu217 := Tryz.underlying217
 have HB := am_ (Below.refl w.heap.size w)
 have H : ((digits_Parse.f k a0).bind fun bt308 => (if bt308.2 = true then (some (decide ((a0.size : Int) ≤ 30))) else (some false))) = some r := h
 clear h
 replace H := bd_ H
 obtain ⟨⟨t308, t311⟩, A2, H⟩ := H
 try dsimp only at H
 replace H := ib_ H
 rcases H with ⟨rfl, H⟩ | ⟨rfl, H⟩
 ·
  exact cond_run.k1
 ·
  exact cond_run.k1


def digits_Trim.f (a0 : ByteArray) : Option (ByteArray) := (strings_TrimRight.f a0 (⟨#[48]⟩ : ByteArray)).bind fun t313 => (some t313)
set_option maxHeartbeats 8000000 in
set_option maxRecDepth 100000 in
theorem digits_Trim.calls (a0 : ByteArray) (r : ByteArray) (w : World) (h : digits_Trim.f a0 = some r) (HLW_ : LW w) :
 Calls Tryz.prog 137 #[.string a0] w fun e w' => e = .returned (.string r) ∧ Drawn0 w w' := by
 have HLW := am_ HLW_
 clear HLW_
 have H : ((strings_TrimRight.f a0 (⟨#[48]⟩ : ByteArray)).bind fun t313 => (some t313)) = some r := h
 clear h
 replace H := bd_ H
 obtain ⟨t313, A2, H⟩ := H
 obtain rfl := Option.some.inj H
 go_enter Tryz.func137, Tryz.ntmps137
 go_wp2_with (first | ((with_reducible refine gate_callee (f := 156) rfl ?_); refine gc_ (some 4) rfl rfl Tryz.func156 rfl #[.string a0, .string (⟨#[48]⟩ : ByteArray)] rfl ?_; (with_reducible refine (strings_TrimRight.calls _ _ _ _ A2.out ?side1).mono ?_); (case side1 => repeat (first | (with_reducible exact HLW.out) | apply LW.drewN | apply LW.drew1 | exact HLW.out)); rintro e w' ⟨rfl, ⟨nd, rfl⟩⟩; refine ⟨_, rfl, ?_⟩))
 go_ret
 exact ⟨by first | rfl | (simp; done) | (simp [*]; done), by repeat (first | exact Drawn0.refl _ | apply Drawn0.step)⟩

end Go.Proofs.YtiidpicgdjjikaaGreatDoor.P
