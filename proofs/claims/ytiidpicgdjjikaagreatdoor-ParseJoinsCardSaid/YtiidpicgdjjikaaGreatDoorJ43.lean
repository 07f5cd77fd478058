import Derived.Test.YtiidpicgdjjikaaGreatDoorJ6
import Derived.Test.YtiidpicgdjjikaaGreatDoorJ41
import Derived.Test.YtiidpicgdjjikaaGreatDoorJ42
namespace Go.Proofs.YtiidpicgdjjikaaGreatDoor.P
open Go.RowKit Go.Proofs.YtiidpicgdjjikaaGreatDoor.G Go.Proofs.YtiidpicgdjjikaaGreatDoorW.PrintWords Go.Proofs.YtiidpicgdjjikaaGreatDoorW.PrintLast Go.Proofs.YtiidpicgdjjikaaGreatDoorW.PrintMore
attribute [local go_sem] isSome_setCell_eq max2_int min2_int max_two min_two max_three min_three max_four min_four
set_option linter.unusedVariables false
set_option linter.unusedSimpArgs false

def numerarylaw15_wakes.f (k : Nat)  : Option (Bool) := (parse_Parse.f k (⟨#[48, 59, 45, 48, 59, 59, 64]⟩ : ByteArray)).bind fun bt792 => ((parse_Parse.f k (⟨#[59, 59, 59, 59]⟩ : ByteArray)).bind fun bt798 => (if bt792.2.2 = 0 then (if bt792.2.1 = 7 then (if (bt792.1.length : Int) = 4 then (if 2 < (bt792.1.length : Int) then (if (((rd_T33 bt792.1 2).f3).length : Int) = 0 then (if bt798.2.1 = 3 then (if bt798.2.2 = 12 then ((parse_Code_Conds.f bt792.1).bind fun t805 => (some (!t805))) else (some false)) else (some false)) else (some false)) else (none)) else (some false)) else (some false)) else (some false)))
theorem numerarylaw15_wakes.mono : ∀ k, LeO (numerarylaw15_wakes.f k ) (numerarylaw15_wakes.f (k + 1) ) := by
 intro  k
 unfold numerarylaw15_wakes.f
 repeat' first | with_reducible first | exact parse_Parse.mono _ _ | exact LeO.refl _ | exact LeO.none _ | refine LeO.ite ?_ ?_ | refine LeO.bind ?_ (fun _ => ?_)
set_option maxRecDepth 1000000 in
theorem numerarylaw15_wakes.k1 {p : Prop} (h : p := by
 first | (obtain rfl := Option.some.inj H) | (have H' := am_ H; clear H)
 go_enter Tryz.func20, Tryz.ntmps20
 try go_wp2_with (first | ((with_reducible refine gate_callee (f := 17) rfl ?_); (try (refine gc_ (some 13) rfl rfl Tryz.func17 rfl #[.string (⟨#[59, 59, 59, 59]⟩ : ByteArray)] rfl ?_; (with_reducible refine (parse_Parse.calls _ _ _ _ _ _ A2.out ?side1).mono ?_); (case side1 => exact LW.below HLW.out bl_); rintro e w5 ⟨v799, rfl, ho0, hb⟩; refine ⟨_, rfl, ?_⟩; have HO800 := am_ (Kd.S_lower (Kd.S_new' ho0 (Kd.S_lt (((Kd.S_mono (sf_ gb797 (Kd.S_types HO794.out BK797.out (by decide)) (fun _ hk => hk.2)) (fun _ h_ => h_.1)))))) (below_size bl_)); replace HO794 := am_ (Kd.S_elder' (((Kd.S_mono (sf_ gb797 (Kd.S_types HO794.out BK797.out (by decide)) (fun _ hk => hk.2)) (fun _ h_ => h_.1)))) (Kd.S_base ho0) hb); replace BK797 := am_ (blk_below (g := gb797) (o := .cells #[.slice Ao3 t792.length co3] 61 (0, 0)) (bp_ BK797.out) hb); replace HB := sb_ hb; clear hb ho0)); (try (refine gc_ (some 8) rfl rfl Tryz.func17 rfl #[.string (⟨#[48, 59, 45, 48, 59, 59, 64]⟩ : ByteArray)] rfl ?_; (with_reducible refine (parse_Parse.calls _ _ _ _ _ _ A1.out ?side1).mono ?_); (case side1 => exact LW.below HLW.out bl_); rintro e w1 ⟨v793, rfl, ho0, hb⟩; refine ⟨_, rfl, ?_⟩; have HO794 := am_ (Kd.S_lower ho0 (below_size bl_)); replace HB := sb_ hb; clear hb ho0))) | ((with_reducible refine gate_dst (N := 1) rfl ?_); (try (refine gate_guard (by rfl) ?_; dsimp only)); refine bx_ (N := 1) (cs := #[.slice none 0 0]) (t := 61) ?_; intro gb797 hg w2 hbox hb; have BK797 := am_ hbox; have GW797 := am_ (bg_ hg : w.heap.size ≤ gb797); replace HO794 := zb_ HO794 hb; replace HB := sb_ hb; clear hb hbox hg; obtain ⟨Ao3, co3, eo3⟩ := Kd.S_slice HO794.out; subst eo3; obtain ⟨hcz4_0, hfz4_0⟩ := cz1_ BK797.out) | ((with_reducible refine gate_dst (N := 4) rfl ?_); (try (refine gate_guard (by rfl) ?_; dsimp only)); refine bx_ (N := 4) (cs := #[.slice none 0 0]) (t := 61) ?_; intro gb803 hg w6 hbox hb; have BK803 := am_ hbox; have GW803 := am_ (bg_ hg : w.heap.size ≤ gb803); obtain ⟨NB797_803, NB803_797⟩ := nb_ hg BK797; replace HO794 := zb_ HO794 hb; replace HO800 := zb_ HO800 hb; replace BK797 := bb_ BK797 hb; replace HB := sb_ hb; clear hb hbox hg; obtain ⟨Ao7, co7, eo7⟩ := Kd.S_slice HO800.out; subst eo7; have hnb8 := NB803_797.out; have hnc8 := NB797_803.out; obtain ⟨hcz9_0, hfz9_0⟩ := cz1_ BK803.out; (try (obtain ⟨hcz4_0, hfz4_0⟩ := cz1_ BK797.out))) | ((with_reducible refine gate_store (t := 61) (p := 4) rfl ?_); refine store_event (t := 61) (p := 4) (v := ?vo_w10) (w1 := (w6.setCell ⟨gb803, 0, none⟩ (.slice Ao7 t798.length co7))) ?hg ?ho ?hn ?hr ?_; (case ho => rfl); (case hg => rfl); (case hn => rfl); (case hr => first | (go_simp; done) | (go_simp; rfl)); intro w10 hw; have n0_ : Aside0 (Kd.S k33 33 w10 w.heap.size (fun k_ => some k_ ≠ (.slice Ao7 t798.length co7 : Value).ownBlock) (.slice Ao3 t792.length co3) t792) := ⟨(by rw [hw]; exact ((Kd.S_mono (sf_ gb803 (Kd.S_types HO794.out BK803.out (by decide)) (fun _ hk => hk.2)) (fun _ hk => hk.1.2))))⟩; have n1_ : Aside0 (Kd.S k33 33 w10 w.heap.size (fun k_ => some k_ ≠ (.slice Ao3 t792.length co3 : Value).ownBlock) (.slice Ao7 t798.length co7) t798) := ⟨(by rw [hw]; exact ((Kd.S_mono (sf_ gb803 (Kd.S_types HO800.out BK803.out (by decide)) (fun _ hk => hk.2)) (fun _ hk => hk.1.2))))⟩; have n2_ : Aside0 (w10.heap[gb797]? = some (.cells #[.slice Ao3 t792.length co3] 61 (0, 0))) := ⟨(by rw [hw]; exact (bk_ BK797.out))⟩; have n3_ : Aside0 (w10.heap[gb803]? = some (.cells #[.slice Ao7 t798.length co7] 61 (0, 0))) := ⟨(by rw [hw]; exact (bp_ BK803.out))⟩; have n4_ : Aside0 (Below w.heap.size w w10) := ⟨(by rw [hw]; exact bl_)⟩; clear hw; clear HO794; clear HO800; clear BK797; clear BK803; clear HB; have HO794 := n0_; have HO800 := n1_; have BK797 := n2_; have BK803 := n3_; have HB := n4_; clear n0_ n1_ n2_ n3_ n4_; obtain ⟨hcz4_0, hfz4_0⟩ := cz1_ BK797.out; have p804 : 0 ≤ (2 : Int) := (by omega); have q804 : 2 < (t792.length : Int) := da_; obtain ⟨ad804, A804_6, c804_6, e804, hx804_0, hx804_1, hx804_2, hx804_3, hx804_4, hx804_5, hx804_6, hl804_6, hi804_6⟩ := at_T33 (Kd.S_reads' HO794.out).2.2 2 p804 q804; cases e804; obtain ⟨ce804, hce804, hMe804, hcc804⟩ := Kd.S_get HO794.out z33 2 p804 (by first | exact q804 | exact da_ | (have e_ := (Kd.S_reads' HO794.out).1; omega)); obtain ⟨ve804_6, rfl, ge804_6⟩ := k33_openM hMe804; have hv11_6 := hcc804 6 _ rfl; rw [add_field _ _ 6 (by omega)] at hv11_6; replace hv11_6 := Option.some.inj (hv11_6.symm.trans hx804_6); rw [hv11_6] at ge804_6; have HL804_6 := am_ (show Kd.R k55 55 _ _ _ _ ((rd_T33 t792 2).f3) from ge804_6); clear hv11_6 ge804_6; clear hcc804 hce804; (try simp only [show (2 : Int).toNat = 2 from rfl, Nat.reduceMul, Nat.reduceEqDiff, Go.Addr.add, ↓reduceIte] at hx804_0); (try simp only [show (2 : Int).toNat = 2 from rfl, Nat.reduceMul, Nat.reduceEqDiff, Go.Addr.add, ↓reduceIte] at hx804_1); (try simp only [show (2 : Int).toNat = 2 from rfl, Nat.reduceMul, Nat.reduceEqDiff, Go.Addr.add, ↓reduceIte] at hx804_2); (try simp only [show (2 : Int).toNat = 2 from rfl, Nat.reduceMul, Nat.reduceEqDiff, Go.Addr.add, ↓reduceIte] at hx804_3); (try simp only [show (2 : Int).toNat = 2 from rfl, Nat.reduceMul, Nat.reduceEqDiff, Go.Addr.add, ↓reduceIte] at hx804_4); (try simp only [show (2 : Int).toNat = 2 from rfl, Nat.reduceMul, Nat.reduceEqDiff, Go.Addr.add, ↓reduceIte] at hx804_5); (try simp only [show (2 : Int).toNat = 2 from rfl, Nat.reduceMul, Nat.reduceEqDiff, Go.Addr.add, ↓reduceIte] at hx804_6); have qi804 : (2 < t792.length) = True := eq_true (by omega); (try rw [show ((2 : Int)).toNat = 2 from rfl] at hx804_0); (try rw [show 2 * 7 = 14 from rfl] at hx804_0); (try rw [show ((2 : Int)).toNat = 2 from rfl] at hx804_1); (try rw [show 2 * 7 = 14 from rfl] at hx804_1); (try rw [show ((2 : Int)).toNat = 2 from rfl] at hx804_2); (try rw [show 2 * 7 = 14 from rfl] at hx804_2); (try rw [show ((2 : Int)).toNat = 2 from rfl] at hx804_3); (try rw [show 2 * 7 = 14 from rfl] at hx804_3); (try rw [show ((2 : Int)).toNat = 2 from rfl] at hx804_4); (try rw [show 2 * 7 = 14 from rfl] at hx804_4); (try rw [show ((2 : Int)).toNat = 2 from rfl] at hx804_5); (try rw [show 2 * 7 = 14 from rfl] at hx804_5); (try rw [show ((2 : Int)).toNat = 2 from rfl] at hx804_6); (try rw [show 2 * 7 = 14 from rfl] at hx804_6); have HR804_6 := am_ hi804_6; have HC804_6 := am_ hl804_6; clear hi804_6 hl804_6; replace p804 := eq_true p804; replace q804 := eq_true q804) | (go_at_call 21; (with_reducible refine (parse_Code_Conds.calls _ _ _ _ _ ?side1 ?side2 A10.out).mono ?_); (case side1 => exact kc_ (Kd.S_reads' HO794.out).2.2); (case side2 => exact (Kd.S_reads' HO794.out).2.1); rintro e w12 ⟨rfl, hb⟩; replace HO794 := zb_ HO794 hb; replace HO800 := zb_ HO800 hb; replace HL804_6 := rb_ HL804_6 hb; replace BK797 := bb_ BK797 hb; replace BK803 := bb_ BK803 hb; replace HR804_6 := cb_ HR804_6 hb; replace HB := sb_ hb; clear hb))
 go_ret
 exact ⟨er_, bl_⟩) : p := h
set_option maxHeartbeats 8000000 in
set_option maxRecDepth 100000 in
theorem numerarylaw15_wakes.calls (k : Nat)  (r : Bool) (w : World) (h : numerarylaw15_wakes.f k  = some r) (HLW_ : LW w) :
 Calls Tryz.prog 20 #[] w fun e w' => e = .returned (.bool r) ∧ Below w.heap.size w w' := by
 have HLW := am_ HLW_
 clear HLW_
 have hu61 := Tryz.underlying61
 have HB := am_ (Below.refl w.heap.size w)
 have H : ((parse_Parse.f k (⟨#[48, 59, 45, 48, 59, 59, 64]⟩ : ByteArray)).bind fun bt792 => ((parse_Parse.f k (⟨#[59, 59, 59, 59]⟩ : ByteArray)).bind fun bt798 => (if bt792.2.2 = 0 then (if bt792.2.1 = 7 then (if (bt792.1.length : Int) = 4 then (if 2 < (bt792.1.length : Int) then (if (((rd_T33 bt792.1 2).f3).length : Int) = 0 then (if bt798.2.1 = 3 then (if bt798.2.2 = 12 then ((parse_Code_Conds.f bt792.1).bind fun t805 => (some (!t805))) else (some false)) else (some false)) else (some false)) else (none)) else (some false)) else (some false)) else (some false)))) = some r := h
 clear h
 replace H := bd_ H
 obtain ⟨⟨t792, t795, t796⟩, A1, H⟩ := H
 try dsimp only at H
 replace H := bd_ H
 obtain ⟨⟨t798, t801, t802⟩, A2, H⟩ := H
 try dsimp only at H
 replace H := ie_ H
 rcases H with ⟨-, c3b0, c3b1, H⟩ | ⟨c3, c3b0, c3b1, H⟩
 ·
  replace H := ie_ H
  rcases H with ⟨-, c4b0, c4b1, H⟩ | ⟨c4, c4b0, c4b1, H⟩
  ·
   replace H := ie_ H
   rcases H with ⟨-, c5b0, c5b1, H⟩ | ⟨c5, c5b0, c5b1, H⟩
   ·
    replace H := ixl_ H
    obtain ⟨c6, c6b0, H⟩ := H
    have c6b1 : decide (2 < t792.length) = true := decide_eq_true (by omega)
    clear c6
    replace H := ie_ H
    rcases H with ⟨-, c7b0, c7b1, H⟩ | ⟨c7, c7b0, c7b1, H⟩
    ·
     replace H := ie_ H
     rcases H with ⟨-, c8b0, c8b1, H⟩ | ⟨c8, c8b0, c8b1, H⟩
     ·
      replace H := ie_ H
      rcases H with ⟨-, c9b0, c9b1, H⟩ | ⟨c9, c9b0, c9b1, H⟩
      ·
       replace H := bd_ H
       obtain ⟨t805, A10, H⟩ := H
       exact numerarylaw15_wakes.k1
      ·
       exact numerarylaw15_wakes.k1
     ·
      exact numerarylaw15_wakes.k1
    ·
     have c7b2 : ¬ (((rd_T33 t792 2).f3) = []) := fun h_ => c7 (by rw [h_]; rfl)
     exact numerarylaw15_wakes.k1
   ·
    exact numerarylaw15_wakes.k1
  ·
   exact numerarylaw15_wakes.k1
 ·
  exact numerarylaw15_wakes.k1


mutual
def numerarylaw15_ParseJoins.j0 : Nat → Bool → List (S33) → List (S33) → Option (Bool)
 | 0, _, _, _ => none
 | k + 1, x62, x818000, x824000 => if x62 = true then (some false) else (numerarylaw15_ParseJoins.l0 k (x818000.length : Int) 0 x818000 x824000)
def numerarylaw15_ParseJoins.l0 : Nat → Int → Int → List (S33) → List (S33) → Option (Bool)
 | 0, _, _, _, _ => none
 | k + 1, x65, x66, x818000, x824000 => if x66 < x65 then (if 0 ≤ x66 then (if x66 < (x818000.length : Int) then (if x66 < (x824000.length : Int) then ((item_Section_Equal.f k ((rd_T33 x818000 x66).f0) ((rd_T33 x818000 x66).f1) ((rd_T33 x818000 x66).f2.f0) ((rd_T33 x818000 x66).f2.f1) ((rd_T33 x818000 x66).f2.f2) ((rd_T33 x818000 x66).f2.f3) ((rd_T33 x818000 x66).f3) ((rd_T33 x824000 x66).f0) ((rd_T33 x824000 x66).f1) ((rd_T33 x824000 x66).f2.f0) ((rd_T33 x824000 x66).f2.f1) ((rd_T33 x824000 x66).f2.f2) ((rd_T33 x824000 x66).f2.f3) ((rd_T33 x824000 x66).f3)).bind fun t829 => (if t829 = true then (numerarylaw15_ParseJoins.l0 k x65 (wrap64 (x66 + 1)) x818000 x824000) else (some false))) else (none)) else (none)) else (none)) else (if 0 ≤ (x818000.length : Int) then (if (x818000.length : Int) < (x824000.length : Int) then (if ((rd_T33 x824000 (x818000.length : Int)).f0) = 1 then (if (((rd_T33 x824000 (x818000.length : Int)).f3).length : Int) = 0 then (some (((rd_T33 x824000 (x818000.length : Int)).f1) == 0)) else (some false)) else (some false)) else (none)) else (none))
end
def numerarylaw15_ParseJoins.f (k : Nat) (a0 : ByteArray) : Option (Bool) := if 0 ≤ (mn (a0.size : Int) 200) then (if (mn (a0.size : Int) 200) ≤ (a0.size : Int) then ((parse_Parse.f k (a0.extract 0 ((mn (a0.size : Int) 200) : Int).toNat)).bind fun bt812 => (if (a0.extract 0 ((mn (a0.size : Int) 200) : Int).toNat).size + 1 ≤ 9223372036854775807 then ((parse_Parse.f k ((a0.extract 0 ((mn (a0.size : Int) 200) : Int).toNat) ++ (⟨#[59]⟩ : ByteArray))).bind fun bt818 => (if bt812.2.2 = 0 then (if (bt812.1.length : Int) = 4 then ((numerarylaw15_wakes.f k).bind fun t825 => (if t825 = true then (if bt818.2.2 = 12 then (some (bt818.2.1 == ((a0.extract 0 ((mn (a0.size : Int) 200) : Int).toNat).size : Int))) else (some false)) else (some false))) else ((numerarylaw15_wakes.f k).bind fun t826 => (if t826 = true then (if bt818.2.2 = 0 then (numerarylaw15_ParseJoins.j0 k ((bt818.1.length : Int) != (wrap64 ((bt812.1.length : Int) + 1))) bt812.1 bt818.1) else (numerarylaw15_ParseJoins.j0 k true bt812.1 bt818.1)) else (numerarylaw15_ParseJoins.j0 k true bt812.1 bt818.1)))) else ((numerarylaw15_wakes.f k).bind fun t824 => (some t824)))) else (none))) else (none)) else (none)
def numerarylaw15_ParseJoins.T13 : Bool × List (List Nat × List Nat) := (true, [([], []), ([0], [0]), ([], []), ([1, 2], [1, 2]), ([3], [3]), ([], []), ([5], [5]), ([], []), ([6, 7], [6, 7]), ([8], [8]), ([4, 9], [4, 9]), ([10], [10])])
def numerarylaw15_ParseJoins.B13 : List Nat := [0, 1, 0, 7, 15, 0, 32, 0, 224, 480, 1023, 2047]
theorem numerarylaw15_ParseJoins.tab13 : rtab .any (opsOf Tryz.f7 13) = numerarylaw15_ParseJoins.T13 := by kernel_rfl
theorem numerarylaw15_ParseJoins.bits13 : waitsOk numerarylaw15_ParseJoins.T13.2 numerarylaw15_ParseJoins.B13 = true := by kernel_rfl
set_option maxRecDepth 1000000 in
theorem numerarylaw15_ParseJoins.k1 {p : Prop} (h : p := by
 first | (obtain rfl := Option.some.inj H) | (have H' := am_ H; clear H)
 first
  | (
   go_enter Tryz.func7, Tryz.ntmps7
   try go_wp2_with (first | ((with_reducible refine gate_callee (f := 17) rfl ?_); (try (refine goesL_ (some 25) rfl rfl Tryz.func17 (by kernel_rfl) rfl #[.string ((a0.extract 0 ((ji2) : Int).toNat) ++ (⟨#[59]⟩ : ByteArray))] rfl (by (try simp only [List.map_toArray, List.map_cons, List.map_nil]); first | done | (simp only [hji2]; rfl) | rfl | (simp only [List.length_drop, List.length_take]; rfl)) ?_; (with_reducible refine (parse_Parse.calls _ _ _ _ _ _ A7.out ?side1).mono ?_); (case side1 => exact LW.below HLW.out bl_); rintro e w4 ⟨v819, rfl, ho0, hb⟩; refine ⟨_, rfl, ?_⟩; have HO820 := am_ (Kd.S_lower (Kd.S_new' ho0 (Kd.S_lt (((Kd.S_mono (sf_ gb817 (Kd.S_types HO814.out BK817.out (by decide)) (fun _ hk => hk.2)) (fun _ h_ => h_.1)))))) (below_size bl_)); replace HO814 := am_ (Kd.S_elder' (((Kd.S_mono (sf_ gb817 (Kd.S_types HO814.out BK817.out (by decide)) (fun _ hk => hk.2)) (fun _ h_ => h_.1)))) (Kd.S_base ho0) hb); replace BK817 := am_ (blk_below (g := gb817) (o := .cells #[.slice Ao3 t812.length co3] 61 (0, 0)) (bp_ BK817.out) hb); replace HB := sb_ hb; clear hb ho0)); (try (refine goesL_ (some 18) rfl rfl Tryz.func17 (by kernel_rfl) rfl #[.string (a0.extract 0 ((ji2) : Int).toNat)] rfl (by (try simp only [List.map_toArray, List.map_cons, List.map_nil]); first | done | (simp only [hji2]; rfl) | rfl | (simp only [List.length_drop, List.length_take]; rfl)) ?_; (with_reducible refine (parse_Parse.calls _ _ _ _ _ _ A5.out ?side1).mono ?_); (case side1 => exact LW.below HLW.out bl_); rintro e w1 ⟨v813, rfl, ho0, hb⟩; refine ⟨_, rfl, ?_⟩; have HO814 := am_ (Kd.S_lower ho0 (below_size bl_)); replace HB := sb_ hb; clear hb ho0))) | ((with_reducible refine gate_dst (N := 3) rfl ?_); (try (refine gate_guard (by rfl) ?_; dsimp only)); refine bx_ (N := 3) (cs := #[.slice none 0 0]) (t := 61) ?_; intro gb817 hg w2 hbox hb; have BK817 := am_ hbox; have GW817 := am_ (bg_ hg : w.heap.size ≤ gb817); replace HO814 := zb_ HO814 hb; replace HB := sb_ hb; clear hb hbox hg; obtain ⟨Ao3, co3, eo3⟩ := Kd.S_slice HO814.out; subst eo3; (try (obtain ⟨hcz16_0, hfz16_0⟩ := cz1_ BK817.out)); (try (obtain ⟨hcz38_0, hfz38_0⟩ := cz1_ BK817.out)); (try (obtain ⟨hcz13_0, hfz13_0⟩ := cz1_ BK817.out))) | ((with_reducible refine gate_dst (N := 6) rfl ?_); (try (refine gate_guard (by rfl) ?_; dsimp only)); refine bx_ (N := 6) (cs := #[.slice none 0 0]) (t := 61) ?_; intro gb823 hg w5 hbox hb; have BK823 := am_ hbox; have GW823 := am_ (bg_ hg : w.heap.size ≤ gb823); obtain ⟨NB817_823, NB823_817⟩ := nb_ hg BK817; replace HO814 := zb_ HO814 hb; replace HO820 := zb_ HO820 hb; replace BK817 := bb_ BK817 hb; replace HB := sb_ hb; clear hb hbox hg; obtain ⟨Ao6, co6, eo6⟩ := Kd.S_slice HO820.out; subst eo6; have hnb7 := NB823_817.out; have hnc7 := NB817_823.out; (try (obtain ⟨hcz21_0, hfz21_0⟩ := cz1_ BK823.out; obtain ⟨hcz22_0, hfz22_0⟩ := cz1_ BK817.out)); (try (obtain ⟨hcz43_0, hfz43_0⟩ := cz1_ BK823.out; obtain ⟨hcz44_0, hfz44_0⟩ := cz1_ BK817.out)); (try (obtain ⟨hcz12_0, hfz12_0⟩ := cz1_ BK823.out))) | ((with_reducible refine gate_callee (f := 20) rfl ?_); (try (refine gc_ (some 31) rfl rfl Tryz.func20 rfl #[] rfl ?_; (with_reducible refine (numerarylaw15_wakes.calls _ _ _ A104.out ?side1).mono ?_); (case side1 => exact LW.below HLW.out bl_); rintro e w8 ⟨rfl, hb⟩; refine ⟨_, rfl, ?_⟩; replace HO814 := am_ (Kd.S_below (((Kd.S_mono (sf_ gb823 (Kd.S_types HO814.out BK823.out (by decide)) (fun _ hk => hk.2)) (fun _ h_ => h_.1)))) hb); replace HO820 := am_ (Kd.S_below (((Kd.S_mono (sf_ gb823 (Kd.S_types HO820.out BK823.out (by decide)) (fun _ hk => hk.2)) (fun _ h_ => h_.1)))) hb); replace BK817 := bb_ BK817 hb; replace BK823 := am_ (blk_below (g := gb823) (o := .cells #[.slice Ao6 t818.length co6] 61 (0, 0)) (bp_ BK823.out) hb); replace HB := sb_ hb; clear hb)); (try (refine gc_ (some 36) rfl rfl Tryz.func20 rfl #[] rfl ?_; (with_reducible refine (numerarylaw15_wakes.calls _ _ _ A10.out ?side1).mono ?_); (case side1 => exact LW.below HLW.out bl_); rintro e w8 ⟨rfl, hb⟩; refine ⟨_, rfl, ?_⟩; replace HO814 := am_ (Kd.S_below (((Kd.S_mono (sf_ gb823 (Kd.S_types HO814.out BK823.out (by decide)) (fun _ hk => hk.2)) (fun _ h_ => h_.1)))) hb); replace HO820 := am_ (Kd.S_below (((Kd.S_mono (sf_ gb823 (Kd.S_types HO820.out BK823.out (by decide)) (fun _ hk => hk.2)) (fun _ h_ => h_.1)))) hb); replace BK817 := bb_ BK817 hb; replace BK823 := am_ (blk_below (g := gb823) (o := .cells #[.slice Ao6 t818.length co6] 61 (0, 0)) (bp_ BK823.out) hb); replace HB := sb_ hb; clear hb))))
   go_ret
   exact ⟨by first | rfl | (simp [errW_none, errW_some] <;> rfl) | (simp only [← hji2]; first | rfl | (simp [errW_none, errW_some] <;> rfl)) | (simp [*, errW_none, errW_some] <;> rfl), bl_⟩)
  | (
   try go_wp2_with (first | ((with_reducible refine gate_callee (f := 20) rfl ?_); refine gc_ (some 47) rfl rfl Tryz.func20 rfl #[] rfl ?_; (with_reducible refine (numerarylaw15_wakes.calls _ _ _ A57.out ?side1).mono ?_); (case side1 => exact LW.below HLW.out bl_); rintro e w8 ⟨rfl, hb⟩; refine ⟨_, rfl, ?_⟩; replace HO814 := am_ (Kd.S_below (((Kd.S_mono (sf_ gb823 (Kd.S_types HO814.out BK823.out (by decide)) (fun _ hk => hk.2)) (fun _ h_ => h_.1)))) hb); replace HO820 := am_ (Kd.S_below (((Kd.S_mono (sf_ gb823 (Kd.S_types HO820.out BK823.out (by decide)) (fun _ hk => hk.2)) (fun _ h_ => h_.1)))) hb); replace BK817 := bb_ BK817 hb; replace BK823 := am_ (blk_below (g := gb823) (o := .cells #[.slice Ao53 t818.length co53] 61 (0, 0)) (bp_ BK823.out) hb); replace HB := sb_ hb; clear hb; (try (have hnb7 := NB823_817.out; have hnc7 := NB817_823.out; obtain ⟨hcz62_0, hfz62_0⟩ := cz1_ BK823.out; obtain ⟨hcz63_0, hfz63_0⟩ := cz1_ BK817.out))))
   go_meet
   first
    | (
     case rel => exact ⟨_, (((t818.length : Int) != (wrap64 ((t812.length : Int) + 1)))), sr_, H', ⟨by first | omega | exact Nat.le_refl _⟩, ⟨ks_ (Kd.S_mono HO814.out (fun _ hk => hk.2))⟩, ⟨ks_ (Kd.S_mono HO820.out (fun _ hk => hk.2))⟩, ⟨bk_ BK817.out⟩, ⟨bk_ BK823.out⟩, ⟨bl_⟩⟩)
    | (
     case rel => exact ⟨_, (true), sr_, H', ⟨by first | omega | exact Nat.le_refl _⟩, ⟨ks_ (Kd.S_mono HO814.out (fun _ hk => hk.2))⟩, ⟨ks_ (Kd.S_mono HO820.out (fun _ hk => hk.2))⟩, ⟨bk_ BK817.out⟩, ⟨bk_ BK823.out⟩, ⟨bl_⟩⟩))
  | (
   go_wp2
   go_ret
   exact ⟨by first | rfl | (simp [errW_none, errW_some] <;> rfl) | (simp only [← hji2]; first | rfl | (simp [errW_none, errW_some] <;> rfl)) | (simp [*, errW_none, errW_some] <;> rfl), bl_⟩)
  | (
   try go_wp2
   refine gz_ 12 ?_
   replace HO_818000 := am_ (Kd.S_drew HO_818000.out)
   replace HO_824000 := am_ (Kd.S_drew HO_824000.out)
   replace BK817 := am_ (blk_drew BK817.out)
   replace BK823 := am_ (blk_drew BK823.out)
   replace HB := am_ (below_drew1 HB.out)
   have p827 : 0 ≤ (x66_2 : Int) := da_
   have q827 : x66_2 < (t812.length : Int) := da_
   obtain ⟨ad827, A827_6, c827_6, e827, hx827_0, hx827_1, hx827_2, hx827_3, hx827_4, hx827_5, hx827_6, hl827_6, hi827_6⟩ := at_T33 (Kd.S_reads' HO_818000.out).2.2 x66_2 p827 q827
   cases e827
   obtain ⟨ce827, hce827, hMe827, hcc827⟩ := Kd.S_get HO_818000.out z33 x66_2 p827 (by first | exact q827 | exact da_ | (have e_ := (Kd.S_reads' HO_818000.out).1; omega))
   obtain ⟨ve827_6, rfl, ge827_6⟩ := k33_openM hMe827
   have hv9_6 := hcc827 6 _ rfl
   rw [add_field _ _ 6 (by omega)] at hv9_6
   replace hv9_6 := Option.some.inj (hv9_6.symm.trans hx827_6)
   rw [hv9_6] at ge827_6
   have HL827_6 := am_ (show Kd.R k55 55 _ _ _ _ ((rd_T33 t812 x66_2).f3) from ge827_6)
   clear hv9_6 ge827_6
   clear hcc827 hce827
   have HR827_6 := am_ hi827_6
   have HC827_6 := am_ hl827_6
   clear hi827_6 hl827_6
   replace p827 := eq_true p827
   replace q827 := eq_true q827
   have p828 : 0 ≤ (x66_2 : Int) := da_
   have q828 : x66_2 < (t818.length : Int) := da_
   obtain ⟨ad828, A828_6, c828_6, e828, hx828_0, hx828_1, hx828_2, hx828_3, hx828_4, hx828_5, hx828_6, hl828_6, hi828_6⟩ := at_T33 (Kd.S_reads' HO_824000.out).2.2 x66_2 p828 q828
   cases e828
   obtain ⟨ce828, hce828, hMe828, hcc828⟩ := Kd.S_get HO_824000.out z33 x66_2 p828 (by first | exact q828 | exact da_ | (have e_ := (Kd.S_reads' HO_824000.out).1; omega))
   obtain ⟨ve828_6, rfl, ge828_6⟩ := k33_openM hMe828
   have hv10_6 := hcc828 6 _ rfl
   rw [add_field _ _ 6 (by omega)] at hv10_6
   replace hv10_6 := Option.some.inj (hv10_6.symm.trans hx828_6)
   rw [hv10_6] at ge828_6
   have HL828_6 := am_ (show Kd.R k55 55 _ _ _ _ ((rd_T33 t818 x66_2).f3) from ge828_6)
   clear hv10_6 ge828_6
   clear hcc828 hce828
   have HR828_6 := am_ hi828_6
   have HC828_6 := am_ hl828_6
   clear hi828_6 hl828_6
   replace p828 := eq_true p828
   replace q828 := eq_true q828
   refine sw_ (n := 12) (S := fun w' => w'.cell? ⟨gb817, 0, none⟩ = some (.slice (some ad827) t812.length co49) ∧ w'.cell? ⟨gb823, 0, none⟩ = some (.slice (some ad828) t818.length co53) ∧ w'.cell? (ad827.add ((x66_2).toNat * 7)) = some (.int .i64 ((rd_T33 t812 x66_2).f0)) ∧ w'.cell? ⟨(ad827.add ((x66_2).toNat * 7)).block, (ad827.add ((x66_2).toNat * 7)).off + 1, none⟩ = some (.int .i64 ((rd_T33 t812 x66_2).f1)) ∧ w'.cell? ⟨(ad827.add ((x66_2).toNat * 7)).block, (ad827.add ((x66_2).toNat * 7)).off + 2, none⟩ = some (.int .i64 ((rd_T33 t812 x66_2).f2.f0)) ∧ w'.cell? ⟨(ad827.add ((x66_2).toNat * 7)).block, (ad827.add ((x66_2).toNat * 7)).off + 3, none⟩ = some (.bool ((rd_T33 t812 x66_2).f2.f1)) ∧ w'.cell? ⟨(ad827.add ((x66_2).toNat * 7)).block, (ad827.add ((x66_2).toNat * 7)).off + 4, none⟩ = some (.string ((rd_T33 t812 x66_2).f2.f2)) ∧ w'.cell? ⟨(ad827.add ((x66_2).toNat * 7)).block, (ad827.add ((x66_2).toNat * 7)).off + 5, none⟩ = some (.string ((rd_T33 t812 x66_2).f2.f3)) ∧ w'.cell? ⟨(ad827.add ((x66_2).toNat * 7)).block, (ad827.add ((x66_2).toNat * 7)).off + 6, none⟩ = some (.slice A827_6 ((rd_T33 t812 x66_2).f3).length c827_6) ∧ w'.cell? (ad828.add ((x66_2).toNat * 7)) = some (.int .i64 ((rd_T33 t818 x66_2).f0)) ∧ w'.cell? ⟨(ad828.add ((x66_2).toNat * 7)).block, (ad828.add ((x66_2).toNat * 7)).off + 1, none⟩ = some (.int .i64 ((rd_T33 t818 x66_2).f1)) ∧ w'.cell? ⟨(ad828.add ((x66_2).toNat * 7)).block, (ad828.add ((x66_2).toNat * 7)).off + 2, none⟩ = some (.int .i64 ((rd_T33 t818 x66_2).f2.f0)) ∧ w'.cell? ⟨(ad828.add ((x66_2).toNat * 7)).block, (ad828.add ((x66_2).toNat * 7)).off + 3, none⟩ = some (.bool ((rd_T33 t818 x66_2).f2.f1)) ∧ w'.cell? ⟨(ad828.add ((x66_2).toNat * 7)).block, (ad828.add ((x66_2).toNat * 7)).off + 4, none⟩ = some (.string ((rd_T33 t818 x66_2).f2.f2)) ∧ w'.cell? ⟨(ad828.add ((x66_2).toNat * 7)).block, (ad828.add ((x66_2).toNat * 7)).off + 5, none⟩ = some (.string ((rd_T33 t818 x66_2).f2.f3)) ∧ w'.cell? ⟨(ad828.add ((x66_2).toNat * 7)).block, (ad828.add ((x66_2).toNat * 7)).off + 6, none⟩ = some (.slice A828_6 ((rd_T33 t818 x66_2).f3).length c828_6)) (ds := []) ⟨(blk_cell BK817.out 0).trans rfl, (blk_cell BK823.out 0).trans rfl, hx827_0, hx827_1, hx827_2, hx827_3, hx827_4, hx827_5, hx827_6, hx828_0, hx828_1, hx828_2, hx828_3, hx828_4, hx828_5, hx828_6⟩ (fun hHeld => ?_); refine with_tabW numerarylaw15_ParseJoins.tab13 numerarylaw15_ParseJoins.bits13 (fun HT_ HW_ => ?_)
   generalize wr.drew = w11 at HO_818000 HO_824000 BK817 BK823 HB HL827_6 HL828_6 HR827_6 HR828_6 hx827_0 hx827_1 hx827_2 hx827_3 hx827_4 hx827_5 hx827_6 hx828_0 hx828_1 hx828_2 hx828_3 hx828_4 hx828_5 hx828_6 hHeld ⊢
   refine pw_ 0 (some 69) ?_
   refine pw_ 2 (some 71) ?_
   refine pw_ 5 (some 74) ?_
   refine pw_ 7 (some 76) ?_
   refine tw_ 1 (some 70) hHeld ?_
   refine pw_ 3 (some 72) ?_
   refine tw_ 4 (some 73) hHeld ?_
   refine tw_ 6 (some 75) hHeld ?_
   refine pw_ 8 (some 77) ?_
   refine tw_ 9 (some 78) hHeld ?_
   refine ow_ 10 (some 79) (fun K hK => ?_)
   refine goes_ Tryz.func16 (by kernel_rfl) rfl #[.agg #[.int .i64 ((rd_T33 t812 x66_2).f0), .int .i64 ((rd_T33 t812 x66_2).f1), .int .i64 ((rd_T33 t812 x66_2).f2.f0), .bool ((rd_T33 t812 x66_2).f2.f1), .string ((rd_T33 t812 x66_2).f2.f2), .string ((rd_T33 t812 x66_2).f2.f3), .slice A827_6 ((rd_T33 t812 x66_2).f3).length c827_6], .agg #[.int .i64 ((rd_T33 t818 x66_2).f0), .int .i64 ((rd_T33 t818 x66_2).f1), .int .i64 ((rd_T33 t818 x66_2).f2.f0), .bool ((rd_T33 t818 x66_2).f2.f1), .string ((rd_T33 t818 x66_2).f2.f2), .string ((rd_T33 t818 x66_2).f2.f3), .slice A828_6 ((rd_T33 t818 x66_2).f3).length c828_6]] (by rfl) rfl rfl (by (try simp only [List.map_toArray, List.map_cons, List.map_nil]); first | done | rfl | (simp only [List.length_drop, List.length_take]; rfl)) ?_
   with_reducible refine (item_Section_Equal.calls _ _ _ _ _ _ _ _ _ _ _ _ _ _ _ _ _ _ _ _ _ ?side1 ?side2 ?side3 ?side4 A73.out).mono ?_
   (case side1 => exact (kc_ HR827_6.out))
   (case side2 => exact HC827_6.out)
   (case side3 => exact (kc_ HR828_6.out))
   (case side4 => exact HC828_6.out)
   rintro e w8 ⟨rfl, hb⟩
   have HS2_ := hs_ hb hHeld.2.2.1
   have HS3_ := hs_ hb hHeld.2.2.2.1
   have HS4_ := hs_ hb hHeld.2.2.2.2.1
   have HS5_ := hs_ hb hHeld.2.2.2.2.2.1
   have HS6_ := hs_ hb hHeld.2.2.2.2.2.2.1
   have HS7_ := hs_ hb hHeld.2.2.2.2.2.2.2.1
   have HS8_ := hs_ hb hHeld.2.2.2.2.2.2.2.2.1
   have HS9_ := hs_ hb hHeld.2.2.2.2.2.2.2.2.2.1
   have HS10_ := hs_ hb hHeld.2.2.2.2.2.2.2.2.2.2.1
   have HS11_ := hs_ hb hHeld.2.2.2.2.2.2.2.2.2.2.2.1
   have HS12_ := hs_ hb hHeld.2.2.2.2.2.2.2.2.2.2.2.2.1
   have HS13_ := hs_ hb hHeld.2.2.2.2.2.2.2.2.2.2.2.2.2.1
   have HS14_ := hs_ hb hHeld.2.2.2.2.2.2.2.2.2.2.2.2.2.2.1
   have HS15_ := hs_ hb hHeld.2.2.2.2.2.2.2.2.2.2.2.2.2.2.2
   refine ⟨_, rfl, ?_⟩
   replace HO_818000 := zb_ HO_818000 hb
   replace HO_824000 := zb_ HO_824000 hb
   replace HL827_6 := rb_ HL827_6 hb
   replace HL828_6 := rb_ HL828_6 hb
   replace BK817 := bb_ BK817 hb
   replace BK823 := bb_ BK823 hb
   replace HR827_6 := cb_ HR827_6 hb
   replace HR828_6 := cb_ HR828_6 hb
   replace HB := am_ (below_step bl_ hb)
   (try clear hb)
   (try clear hb2)
   (try clear hk)
   (try clear hi)
   refine hK.out _ _ ⟨(blk_cell BK817.out 0).trans rfl, (blk_cell BK823.out 0).trans rfl, HS2_, HS3_, HS4_, HS5_, HS6_, HS7_, HS8_, HS9_, HS10_, HS11_, HS12_, HS13_, HS14_, HS15_⟩ (fun hHeld => ?_)
   clear hK K
   refine norm_ (a' := ?_) ?_ ?_
   rotate_left
   ·
    show Act.put _ (some 79) _ = _
    simp only [Act.put, List.setIfInBounds_toArray, List.set_cons_zero, List.set_cons_succ, i64_w, i32_w]
    rfl
   refine pw_ 11 (some 80) ?_
   refine done_ (done_of HT_.out (by kernel_rfl)) ?_
   try go_wp2
   first
    | (
     go_roundg k2
     case measure => have := HJ45.out; have := HK2.out; omega
     case rel => exact ⟨(wrap64 (x66_2 + 1)), sr_, H', ⟨by have := HJ45.out; have := HK2.out; omega⟩, ⟨ks_ HO_818000.out⟩, ⟨ks_ HO_824000.out⟩, ⟨bk_ BK817.out⟩, ⟨bk_ BK823.out⟩, ⟨bl_⟩⟩)
    | (
     go_ret
     exact ⟨by first | rfl | (simp [errW_none, errW_some] <;> rfl) | (simp only [← hji2]; first | rfl | (simp [errW_none, errW_some] <;> rfl)) | (simp [*, errW_none, errW_some] <;> rfl), bl_⟩))
  | (
   have hnb7 := NB823_817.out
   have hnc7 := NB817_823.out
   obtain ⟨hcz12_0, hfz12_0⟩ := cz1_ BK823.out
   obtain ⟨hcz13_0, hfz13_0⟩ := cz1_ BK817.out
   have p830 : 0 ≤ ((t812.length : Int) : Int) := da_
   have q830 : (t812.length : Int) < (t818.length : Int) := da_
   obtain ⟨ad830, A830_6, c830_6, e830, hx830_0, hx830_1, hx830_2, hx830_3, hx830_4, hx830_5, hx830_6, hl830_6, hi830_6⟩ := at_T33 (Kd.S_reads' HO_824000.out).2.2 (t812.length : Int) p830 q830
   cases e830
   obtain ⟨ce830, hce830, hMe830, hcc830⟩ := Kd.S_get HO_824000.out z33 (t812.length : Int) p830 (by first | exact q830 | exact da_ | (have e_ := (Kd.S_reads' HO_824000.out).1; omega))
   obtain ⟨ve830_6, rfl, ge830_6⟩ := k33_openM hMe830
   have hv14_6 := hcc830 6 _ rfl
   rw [add_field _ _ 6 (by omega)] at hv14_6
   replace hv14_6 := Option.some.inj (hv14_6.symm.trans hx830_6)
   rw [hv14_6] at ge830_6
   have HL830_6 := am_ (show Kd.R k55 55 _ _ _ _ ((rd_T33 t818 (t812.length : Int)).f3) from ge830_6)
   clear hv14_6 ge830_6
   clear hcc830 hce830
   have HR830_6 := am_ hi830_6
   have HC830_6 := am_ hl830_6
   clear hi830_6 hl830_6
   (try simp only [Go.IntWalk.toNatUp] at hx830_0)
   (try simp only [Go.IntWalk.toNatUp] at hx830_1)
   (try simp only [Go.IntWalk.toNatUp] at hx830_2)
   (try simp only [Go.IntWalk.toNatUp] at hx830_3)
   (try simp only [Go.IntWalk.toNatUp] at hx830_4)
   (try simp only [Go.IntWalk.toNatUp] at hx830_5)
   (try simp only [Go.IntWalk.toNatUp] at hx830_6)
   replace p830 := eq_true p830
   replace q830 := eq_true q830
   try go_wp2_with (first | ((with_reducible refine gate_dst (N := 10) rfl ?_); (try (refine gate_guard (by rfl) ?_; dsimp only)); refine bx_ (N := 10) (cs := #[.int .i64 0, .int .i64 0, .int .i64 0, .bool false, .string (⟨#[]⟩ : ByteArray), .string (⟨#[]⟩ : ByteArray), .slice none 0 0]) (t := 33) ?_; intro gb831 hg w15 hbox hb; have BK831 := am_ hbox; have GW831 := am_ (bg_ hg : w.heap.size ≤ gb831); obtain ⟨NB817_831, NB831_817⟩ := nb_ hg BK817; obtain ⟨NB823_831, NB831_823⟩ := nb_ hg BK823; replace HO_818000 := am_ (Kd.S_below (Kd.S_elderB (ks_ HO_818000.out) gb831 (Nat.le_of_eq hg.symm)) hb); replace HO_824000 := am_ (Kd.S_below (Kd.S_elderB (ks_ HO_824000.out) gb831 (Nat.le_of_eq hg.symm)) hb); replace HL830_6 := rb_ HL830_6 hb; replace BK817 := bb_ BK817 hb; replace BK823 := bb_ BK823 hb; replace HR830_6 := cb_ HR830_6 hb; replace HB := sb_ hb; clear hb hbox hg; have hnb17 := NB831_817.out; have hnc17 := NB817_831.out; have hnb18 := NB831_823.out; have hnc18 := NB823_831.out; obtain ⟨hcz19_0, hcz19_1, hcz19_2, hcz19_3, hcz19_4, hcz19_5, hcz19_6, hfz19_0, hfz19_1, hfz19_2, hfz19_3, hfz19_4, hfz19_5, hfz19_6⟩ := cz7_ BK831.out))
   go_ret
   exact ⟨by first | rfl | (simp [errW_none, errW_some] <;> rfl) | (simp only [← hji2]; first | rfl | (simp [errW_none, errW_some] <;> rfl)) | (simp [*, errW_none, errW_some] <;> rfl), bl_⟩)) : p := h
set_option maxHeartbeats 8000000 in
set_option maxRecDepth 100000 in
theorem numerarylaw15_ParseJoins.calls (k : Nat) (a0 : ByteArray) (r : Bool) (w : World) (h : numerarylaw15_ParseJoins.f k a0 = some r) (HLW_ : LW w) (hT_ : r = true := by rfl) :
 Calls Tryz.prog 7 #[.string a0] w fun e w' => e = .returned (.bool r) ∧ Below w.heap.size w w' := by
 have HT2_ := am_ hT_
 clear hT_
 have HLW := am_ HLW_
 clear HLW_
 have hu61 := Tryz.underlying61
 have hu33 := Tryz.underlying33
 have HB := am_ (Below.refl w.heap.size w)
 have H : (if 0 ≤ (mn (a0.size : Int) 200) then (if (mn (a0.size : Int) 200) ≤ (a0.size : Int) then ((parse_Parse.f k (a0.extract 0 ((mn (a0.size : Int) 200) : Int).toNat)).bind fun bt812 => (if (a0.extract 0 ((mn (a0.size : Int) 200) : Int).toNat).size + 1 ≤ 9223372036854775807 then ((parse_Parse.f k ((a0.extract 0 ((mn (a0.size : Int) 200) : Int).toNat) ++ (⟨#[59]⟩ : ByteArray))).bind fun bt818 => (if bt812.2.2 = 0 then (if (bt812.1.length : Int) = 4 then ((numerarylaw15_wakes.f k).bind fun t825 => (if t825 = true then (if bt818.2.2 = 12 then (some (bt818.2.1 == ((a0.extract 0 ((mn (a0.size : Int) 200) : Int).toNat).size : Int))) else (some false)) else (some false))) else ((numerarylaw15_wakes.f k).bind fun t826 => (if t826 = true then (if bt818.2.2 = 0 then (numerarylaw15_ParseJoins.j0 k ((bt818.1.length : Int) != (wrap64 ((bt812.1.length : Int) + 1))) bt812.1 bt818.1) else (numerarylaw15_ParseJoins.j0 k true bt812.1 bt818.1)) else (numerarylaw15_ParseJoins.j0 k true bt812.1 bt818.1)))) else ((numerarylaw15_wakes.f k).bind fun t824 => (some t824)))) else (none))) else (none)) else (none)) = some r := h
 clear h
 obtain ⟨ji2, hji2⟩ : ∃ j_ : Int, (mn (a0.size : Int) 200) = j_ := ⟨_, rfl⟩
 replace H : (if 0 ≤ (ji2) then (if (ji2) ≤ (a0.size : Int) then ((parse_Parse.f k (a0.extract 0 ((ji2) : Int).toNat)).bind fun bt812 => (if (a0.extract 0 ((ji2) : Int).toNat).size + 1 ≤ 9223372036854775807 then ((parse_Parse.f k ((a0.extract 0 ((ji2) : Int).toNat) ++ (⟨#[59]⟩ : ByteArray))).bind fun bt818 => (if bt812.2.2 = 0 then (if (bt812.1.length : Int) = 4 then ((numerarylaw15_wakes.f k).bind fun t825 => (if t825 = true then (if bt818.2.2 = 12 then (some (bt818.2.1 == ((a0.extract 0 ((ji2) : Int).toNat).size : Int))) else (some false)) else (some false))) else ((numerarylaw15_wakes.f k).bind fun t826 => (if t826 = true then (if bt818.2.2 = 0 then (numerarylaw15_ParseJoins.j0 k ((bt818.1.length : Int) != (wrap64 ((bt812.1.length : Int) + 1))) bt812.1 bt818.1) else (numerarylaw15_ParseJoins.j0 k true bt812.1 bt818.1)) else (numerarylaw15_ParseJoins.j0 k true bt812.1 bt818.1)))) else ((numerarylaw15_wakes.f k).bind fun t824 => (some t824)))) else (none))) else (none)) else (none)) = some r := by first | (rw [hji2] at H; exact H) | (simp only [hji2] at H ⊢; exact H)
 (try (have hji2h : ji2 ≤ 200 := by (rw [← hji2]; unfold mn; (repeat' split) <;> omega)))
 (try (have hji2g : ji2 ≤ 64 := by omega))
 (try (have hji2l : 0 ≤ ji2 := by (rw [← hji2]; unfold mn; (repeat' split) <;> omega)))
 (try (have hji2m : 0 ≤ ji2 := by omega))
 have hji2_ : (if 200 < (a0.size : Int) then 200 else (a0.size : Int)) = ji2 := hji2
 replace H := ixl_ H
 obtain ⟨c3, -, H⟩ := H
 have c3b0 := eq_true c3
 have c3b1 : decide (0 ≤ (ji2)) = true := decide_eq_true c3
 clear c3
 replace H := ixl_ H
 obtain ⟨c4, -, H⟩ := H
 have c4b0 := eq_true c4
 have c4b1 : decide ((ji2) ≤ (a0.size : Int)) = true := decide_eq_true c4
 clear c4
 replace H := bd_ H
 obtain ⟨⟨t812, t815, t816⟩, A5, H⟩ := H
 try dsimp only at H
 replace H := ixl_ H
 obtain ⟨c6, -, H⟩ := H
 have c6b0 := eq_true c6
 have c6b1 : decide ((a0.extract 0 ((ji2) : Int).toNat).size + 1 ≤ 9223372036854775807) = true := decide_eq_true c6
 try have c6b2 : (9223372036854775807 < (a0.extract 0 ((ji2) : Int).toNat).size + 1) = False := eq_false (Nat.not_lt.2 c6)
 replace H := bd_ H
 obtain ⟨⟨t818, t821, t822⟩, A7, H⟩ := H
 try dsimp only at H
 replace H := ie_ H
 rcases H with ⟨-, c8b0, c8b1, H⟩ | ⟨c8, c8b0, c8b1, H⟩
 ·
  replace H := ie_ H
  rcases H with ⟨-, c9b0, c9b1, H⟩ | ⟨c9, c9b0, c9b1, H⟩
  ·
   replace H := bd_ H
   obtain ⟨t825, A10, H⟩ := H
   replace H := ib_ H
   rcases H with ⟨rfl, H⟩ | ⟨rfl, H⟩
   ·
    replace H := ie_ H
    rcases H with ⟨-, c12b0, c12b1, H⟩ | ⟨c12, -, -, H⟩
    ·
     exact numerarylaw15_ParseJoins.k1
    ·
     exact absurd H (by rw [HT2_.out]; simp)
   ·
    exact numerarylaw15_ParseJoins.k1
  ·
   have HC46 := am_ H
   clear H
   go_enter Tryz.func7, Tryz.ntmps7
   go_upto_region 8 with (first | ((with_reducible refine gate_callee (f := 17) rfl ?_); refine goesL_ (some 18) rfl rfl Tryz.func17 (by kernel_rfl) rfl #[.string (a0.extract 0 ((ji2) : Int).toNat)] rfl (by (try simp only [List.map_toArray, List.map_cons, List.map_nil]); first | done | (simp only [hji2]; rfl) | rfl | (simp only [List.length_drop, List.length_take]; rfl)) ?_; (with_reducible refine (parse_Parse.calls _ _ _ _ _ _ A5.out ?side1).mono ?_); (case side1 => exact LW.below HLW.out bl_); rintro e w47 ⟨v813, rfl, ho0, hb⟩; refine ⟨_, rfl, ?_⟩; have HO814 := am_ (Kd.S_lower ho0 (below_size bl_)); replace HB := sb_ hb; clear hb ho0) | ((with_reducible refine gate_dst (N := 3) rfl ?_); (try (refine gate_guard (by rfl) ?_; dsimp only)); refine bx_ (N := 3) (cs := #[.slice none 0 0]) (t := 61) ?_; intro gb817 hg w48 hbox hb; have BK817 := am_ hbox; have GW817 := am_ (bg_ hg : w.heap.size ≤ gb817); replace HO814 := zb_ HO814 hb; replace HB := sb_ hb; clear hb hbox hg; obtain ⟨Ao49, co49, eo49⟩ := Kd.S_slice HO814.out; subst eo49; obtain ⟨hcz50_0, hfz50_0⟩ := cz1_ BK817.out) | ((with_reducible refine gate_callee (f := 17) rfl ?_); refine goesL_ (some 25) rfl rfl Tryz.func17 (by kernel_rfl) rfl #[.string ((a0.extract 0 ((ji2) : Int).toNat) ++ (⟨#[59]⟩ : ByteArray))] rfl (by (try simp only [List.map_toArray, List.map_cons, List.map_nil]); first | done | (simp only [hji2]; rfl) | rfl | (simp only [List.length_drop, List.length_take]; rfl)) ?_; (with_reducible refine (parse_Parse.calls _ _ _ _ _ _ A7.out ?side1).mono ?_); (case side1 => exact LW.below HLW.out bl_); rintro e w51 ⟨v819, rfl, ho0, hb⟩; refine ⟨_, rfl, ?_⟩; have HO820 := am_ (Kd.S_lower (Kd.S_new' ho0 (Kd.S_lt (((Kd.S_mono (sf_ gb817 (Kd.S_types HO814.out BK817.out (by decide)) (fun _ hk => hk.2)) (fun _ h_ => h_.1)))))) (below_size bl_)); replace HO814 := am_ (Kd.S_elder' (((Kd.S_mono (sf_ gb817 (Kd.S_types HO814.out BK817.out (by decide)) (fun _ hk => hk.2)) (fun _ h_ => h_.1)))) (Kd.S_base ho0) hb); replace BK817 := am_ (blk_below (g := gb817) (o := .cells #[.slice Ao49 t812.length co49] 61 (0, 0)) (bp_ BK817.out) hb); replace HB := sb_ hb; clear hb ho0) | ((with_reducible refine gate_dst (N := 6) rfl ?_); (try (refine gate_guard (by rfl) ?_; dsimp only)); refine bx_ (N := 6) (cs := #[.slice none 0 0]) (t := 61) ?_; intro gb823 hg w52 hbox hb; have BK823 := am_ hbox; have GW823 := am_ (bg_ hg : w.heap.size ≤ gb823); obtain ⟨NB817_823, NB823_817⟩ := nb_ hg BK817; replace HO814 := zb_ HO814 hb; replace HO820 := zb_ HO820 hb; replace BK817 := bb_ BK817 hb; replace HB := sb_ hb; clear hb hbox hg; obtain ⟨Ao53, co53, eo53⟩ := Kd.S_slice HO820.out; subst eo53; have hnb54 := NB823_817.out; have hnc54 := NB817_823.out; obtain ⟨hcz55_0, hfz55_0⟩ := cz1_ BK823.out; obtain ⟨hcz56_0, hfz56_0⟩ := cz1_ BK817.out))
   (try simp only [Act.put, List.setIfInBounds_toArray, List.set_cons_zero, List.set_cons_succ])
   go_cut [62] (fun v62 wc => ∃ (kq : Nat) (x62_45 : Bool), v62 = .bool x62_45 ∧ Aside0 (numerarylaw15_ParseJoins.j0 kq x62_45 t812 t818 = some r) ∧ Aside0 (kq ≤ k) ∧ Aside0 (Kd.S k33 33 wc w.heap.size (fun k_ => some k_ ≠ ((.slice Ao53 t818.length co53) : Value).ownBlock) (.slice Ao49 t812.length co49) t812) ∧ Aside0 (Kd.S k33 33 wc w.heap.size (fun k_ => some k_ ≠ ((.slice Ao49 t812.length co49) : Value).ownBlock) (.slice Ao53 t818.length co53) t818) ∧ Aside0 (wc.heap[gb817]? = some (.cells #[(.slice Ao49 t812.length co49)] 61 (0, 0))) ∧ Aside0 (wc.heap[gb823]? = some (.cells #[(.slice Ao53 t818.length co53)] 61 (0, 0))) ∧ Aside0 (Below w.heap.size w wc))
   case first =>
    have H := HC46.out
    clear HC46
    replace H := bd_ H
    obtain ⟨t826, A57, H⟩ := H
    replace H := ib_ H
    rcases H with ⟨rfl, H⟩ | ⟨rfl, H⟩
    ·
     replace H := ie_ H
     rcases H with ⟨-, c59b0, c59b1, H⟩ | ⟨c59, c59b0, c59b1, H⟩
     ·
      (first | rw [c59b0] | (simp only [i64_w, i32_w]; rw [c59b0]) | skip)
      exact numerarylaw15_ParseJoins.k1
     ·
      (first | rw [c59b0] | (simp only [i64_w, i32_w]; rw [c59b0]) | skip)
      exact numerarylaw15_ParseJoins.k1
    ·
     exact numerarylaw15_ParseJoins.k1
   case rest =>
    clear HC46
    try clear c1
    try clear c2
    try clear p2
    try clear c3
    try clear c3b0
    try clear c3b1
    try clear c4
    try clear c4b0
    try clear c4b1
    try clear c5
    try clear c6
    try clear c6b0
    try clear c6b1
    try clear c6b2
    try clear p6
    try clear c7
    try clear c8
    try clear c8b0
    try clear c8b1
    try clear c9
    try clear c9b0
    try clear c9b1
    try clear c11
    try clear c12
    try clear c12b0
    try clear c12b1
    try clear c17
    try clear c20
    try clear c31
    try clear c42
    try clear c54
    try clear c58
    try clear c59
    try clear c59b0
    try clear c59b1
    try clear c61
    try clear p64
    try clear hcz16_0
    try clear hcz21_0
    try clear hcz22_0
    try clear hcz27_0
    try clear hcz32_0
    try clear hcz33_0
    try clear hcz38_0
    try clear hcz43_0
    try clear hcz44_0
    try clear hcz50_0
    try clear hcz55_0
    try clear hcz56_0
    try clear hcz62_0
    try clear hcz63_0
    try clear hfz16_0
    try clear hfz21_0
    try clear hfz22_0
    try clear hfz27_0
    try clear hfz32_0
    try clear hfz33_0
    try clear hfz38_0
    try clear hfz43_0
    try clear hfz44_0
    try clear hfz50_0
    try clear hfz55_0
    try clear hfz56_0
    try clear hfz62_0
    try clear hfz63_0
    obtain ⟨kq, x62_45, rfl, HA, HJ45, HO_818000, HO_824000, BK817, BK823, HB⟩ := hcut
    cases kq with
    | zero => exact absurd HA.out (by simp [numerarylaw15_ParseJoins.j0])
    | succ kj45 =>
     have H := HA.out
     clear HA
     simp only [numerarylaw15_ParseJoins.j0] at H
     replace H := ib_ H
     rcases H with ⟨rfl, H⟩ | ⟨rfl, H⟩
     ·
      exact numerarylaw15_ParseJoins.k1
     ·
      have H' := am_ H
      clear H
      have hnb67 := NB817_823.out
      have hnc67 := NB823_817.out
      obtain ⟨hcz68_0, hfz68_0⟩ := cz1_ BK817.out
      go_wp2
      go_loopg [66] kj45 (fun kq v66 w' => ∃ (x66_2 : Int), v66 = .int .i64 x66_2 ∧ Aside0 (numerarylaw15_ParseJoins.l0 kq (t812.length : Int) x66_2 t812 t818 = some r) ∧ Aside0 (kq ≤ kj45) ∧ Aside0 (Kd.S k33 33 w' w.heap.size (fun k_ => some k_ ≠ ((.slice Ao53 t818.length co53) : Value).ownBlock) (.slice Ao49 t812.length co49) t812) ∧ Aside0 (Kd.S k33 33 w' w.heap.size (fun k_ => some k_ ≠ ((.slice Ao49 t812.length co49) : Value).ownBlock) (.slice Ao53 t818.length co53) t818) ∧ Aside0 (w'.heap[gb817]? = some (.cells #[(.slice Ao49 t812.length co49)] 61 (0, 0))) ∧ Aside0 (w'.heap[gb823]? = some (.cells #[(.slice Ao53 t818.length co53)] 61 (0, 0))) ∧ Aside0 (Below w.heap.size w w'))
      case atStart => exact ⟨(0), sr_, H', ⟨Nat.le_refl _⟩, ⟨ks_ HO_818000.out⟩, ⟨ks_ HO_824000.out⟩, ⟨bk_ BK817.out⟩, ⟨bk_ BK823.out⟩, ⟨bl_⟩⟩
      case round =>
       clear H'
       try clear c1
       try clear c2
       try clear p2
       try clear c3
       try clear c3b0
       try clear c3b1
       try clear c4
       try clear c4b0
       try clear c4b1
       try clear c5
       try clear c6
       try clear c6b0
       try clear c6b1
       try clear c6b2
       try clear p6
       try clear c7
       try clear c8
       try clear c8b0
       try clear c8b1
       try clear c9
       try clear c9b0
       try clear c9b1
       try clear c11
       try clear c12
       try clear c12b0
       try clear c12b1
       try clear c17
       try clear c20
       try clear c31
       try clear c42
       try clear c54
       try clear c58
       try clear c59
       try clear c59b0
       try clear c59b1
       try clear c61
       try clear p64
       try clear c66
       try clear c67
       try clear hcz16_0
       try clear hcz21_0
       try clear hcz22_0
       try clear hcz27_0
       try clear hcz32_0
       try clear hcz33_0
       try clear hcz38_0
       try clear hcz43_0
       try clear hcz44_0
       try clear hcz50_0
       try clear hcz55_0
       try clear hcz56_0
       try clear hcz62_0
       try clear hcz63_0
       try clear hcz68_0
       try clear hfz16_0
       try clear hfz21_0
       try clear hfz22_0
       try clear hfz27_0
       try clear hfz32_0
       try clear hfz33_0
       try clear hfz38_0
       try clear hfz43_0
       try clear hfz44_0
       try clear hfz50_0
       try clear hfz55_0
       try clear hfz56_0
       try clear hfz62_0
       try clear hfz63_0
       try clear hfz68_0
       try clear p2
       try clear p6
       try clear p64
       obtain ⟨x66_2, rfl, HA, HK2, HO_818000, HO_824000, BK817, BK823, HB⟩ := hrel
       cases gk with
       | zero => exact absurd HA.out (by simp [numerarylaw15_ParseJoins.l0])
       | succ k2 =>
        have H := HA.out
        clear HA
        simp only [numerarylaw15_ParseJoins.l0] at H
        replace H := il_ H
        rcases H with ⟨-, c69b0, H⟩ | ⟨-, c69b0, H⟩
        ·
         replace H := ixl_ H
         obtain ⟨-, c70b0, H⟩ := H
         replace H := ixl_ H
         obtain ⟨-, c71b0, H⟩ := H
         replace H := ixl_ H
         obtain ⟨-, c72b0, H⟩ := H
         replace H := bd_ H
         obtain ⟨t829, A73, H⟩ := H
         replace H := ib_ H
         rcases H with ⟨rfl, H⟩ | ⟨rfl, H⟩
         ·
          exact numerarylaw15_ParseJoins.k1
         ·
          exact numerarylaw15_ParseJoins.k1
        ·
         replace H := ixl_ H
         obtain ⟨c79, c79b0, H⟩ := H
         have c79b1 : decide (0 ≤ t812.length) = true := decide_eq_true (by omega)
         clear c79
         replace H := ixl_ H
         obtain ⟨c80, c80b0, H⟩ := H
         have c80b1 : decide (t812.length < t818.length) = true := decide_eq_true (Int.ofNat_lt.mp c80)
         clear c80
         replace H := ie_ H
         rcases H with ⟨-, c81b0, c81b1, H⟩ | ⟨c81, -, -, H⟩
         ·
          replace H := ie_ H
          rcases H with ⟨-, c82b0, c82b1, H⟩ | ⟨c82, -, -, H⟩
          ·
           exact numerarylaw15_ParseJoins.k1
          ·
           exact absurd H (by rw [HT2_.out]; simp)
         ·
          exact absurd H (by rw [HT2_.out]; simp)
 ·
  replace H := bd_ H
  obtain ⟨t824, A104, H⟩ := H
  exact numerarylaw15_ParseJoins.k1

def numerarylaw15_ParseJoins.Pure : Prop := ∀ (a0 : ByteArray), a0.size ≤ 140737488351232 → ∃ k, numerarylaw15_ParseJoins.f k a0 = some true
theorem numerarylaw15_ParseJoins.walk (P : numerarylaw15_ParseJoins.Pure) (a0 : ByteArray) (w : World) (w0 : a0.size ≤ 140737488351232) (HLW_ : LW w) :
 Calls Tryz.prog 7 #[.string a0] w fun e w' => e = .returned (.bool true) ∧ Below w.heap.size w w' := by
 obtain ⟨k, h⟩ := P a0 w0
 refine (numerarylaw15_ParseJoins.calls k a0 true w h HLW_).mono ?_
 rintro e w' ⟨rfl, hd⟩
 exact ⟨rfl, hd⟩

end Go.Proofs.YtiidpicgdjjikaaGreatDoor.P
