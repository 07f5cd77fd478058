import Derived.Test.YtiidpicgdjjikaaGreatDoorJ6
import Derived.Test.YtiidpicgdjjikaaGreatDoorJ10
import Derived.Test.YtiidpicgdjjikaaGreatDoorJ40
namespace Go.Proofs.YtiidpicgdjjikaaGreatDoor.P
open Go.RowKit Go.Proofs.YtiidpicgdjjikaaGreatDoor.G Go.Proofs.YtiidpicgdjjikaaGreatDoorW.PrintWords Go.Proofs.YtiidpicgdjjikaaGreatDoorW.PrintLast Go.Proofs.YtiidpicgdjjikaaGreatDoorW.PrintMore
attribute [local go_sem] isSome_setCell_eq max2_int min2_int max_two min_two max_three min_three max_four min_four
set_option linter.unusedVariables false
set_option linter.unusedSimpArgs false

def parse_Parse.l0 : Nat → ByteArray → Int → List (S112) → Int → Int → List (S33) → Option ((List (S33)) × Int × Int)
 | 0, _, _, _, _, _, _ => none
 | k + 1, x0, x9, x32, x33, x34, x757000 => if x34 < x33 then (if 0 ≤ x34 then (if x34 < (x32.length : Int) then ((item_Of.f k ((rd_T112 x32 x34).f0)).bind fun bt759 => (if bt759.2.2.2.2.2.2.2.2 = 0 then ((parse_may.f k bt759.1 bt759.2.1 bt759.2.2.1 bt759.2.2.2.1 bt759.2.2.2.2.1 bt759.2.2.2.2.2.1 bt759.2.2.2.2.2.2.1 x34).bind fun t771 => (if t771 = true then (if x757000.length < 1599289640401 then (parse_Parse.l0 k x0 x9 x32 x33 (wrap64 (x34 + 1)) (x757000 ++ [(⟨bt759.1, bt759.2.1, (⟨bt759.2.2.1, bt759.2.2.2.1, bt759.2.2.2.2.1, bt759.2.2.2.2.2.1⟩ : S30), bt759.2.2.2.2.2.2.1⟩ : S33)])) else (none)) else (some (([] : List (S33)), (rd_T112 x32 x34).f1, 12)))) else (if 0 ≤ bt759.2.2.2.2.2.2.2.1 then (if bt759.2.2.2.2.2.2.2.1 < (((rd_T112 x32 x34).f0).length : Int) then (some (([] : List (S33)), (rd_T53 ((rd_T112 x32 x34).f0) bt759.2.2.2.2.2.2.2.1).f3, bt759.2.2.2.2.2.2.2.2)) else (none)) else (none)))) else (none)) else (none)) else (if x9 ≥ 0 then (some (([] : List (S33)), x9, 12)) else (some (x757000, (x0.size : Int), 0)))
def parse_Parse.f (k : Nat) (a0 : ByteArray) : Option ((List (S33)) × Int × Int) := (token_All.f k a0).bind fun bt747 => (if bt747.2.2 = 0 then ((parse_parts.f k bt747.1).bind fun bt752 => (parse_Parse.l0 k a0 bt752.2 bt752.1 (bt752.1.length : Int) 0 ([] : List (S33)))) else (some (([] : List (S33)), bt747.2.1, bt747.2.2)))
theorem parse_Parse.mono_l : ∀ k, (∀ y0 y1 y2 y3 y4 y5, LeO (parse_Parse.l0 k y0 y1 y2 y3 y4 y5) (parse_Parse.l0 (k + 1) y0 y1 y2 y3 y4 y5))
 | 0 => fun _ _ _ _ _ _ r h => by simp [parse_Parse.l0] at h
 | k + 1 => by
  have ih0 := parse_Parse.mono_l k
  ·
   intro y0 y1 y2 y3 y4 y5
   unfold parse_Parse.l0
   repeat' first
   | (with_reducible exact ih0 _ _ _ _ _ _)
   | (with_reducible exact item_Of.mono _ _)
   | (with_reducible exact parse_may.mono _ _ _ _ _ _ _ _ _)
   | (with_reducible exact parse_parts.mono _ _)
   | (with_reducible exact token_All.mono _ _)
   | (with_reducible exact LeO.refl _)
   | (with_reducible exact LeO.none _)
   | (with_reducible refine LeO.ite ?_ ?_)
   | (with_reducible refine LeO.bind ?_ (fun _ => ?_))
   | exact ih0 _ _ _ _ _ _
   | exact item_Of.mono _ _
   | exact parse_may.mono _ _ _ _ _ _ _ _ _
   | exact parse_parts.mono _ _
   | exact token_All.mono _ _
   | exact LeO.none _
   | refine LeO.ite ?_ ?_
   | refine LeO.bind ?_ (fun _ => ?_)
theorem parse_Parse.mono : ∀ a0 k, LeO (parse_Parse.f k a0) (parse_Parse.f (k + 1) a0) := by
 intro a0 k
 have ih0 := parse_Parse.mono_l k
 unfold parse_Parse.f
 repeat' first | with_reducible first | exact ih0 _ _ _ _ _ _ | exact item_Of.mono _ _ | exact parse_may.mono _ _ _ _ _ _ _ _ _ | exact parse_parts.mono _ _ | exact token_All.mono _ _ | exact LeO.refl _ | exact LeO.none _ | refine LeO.ite ?_ ?_ | refine LeO.bind ?_ (fun _ => ?_)
def parse_Parse.T11 : Bool × List (List Nat × List Nat) := (true, [([], []), ([], []), ([1], [1]), ([], []), ([2, 3], [2, 3]), ([4], [4]), ([5], [5]), ([], []), ([0, 0], [0]), ([6, 8, 0, 1, 2, 3, 4, 5, 6, 8], [6]), ([7, 9, 0, 1, 2, 3, 4, 5, 6, 7, 8, 9], [7])])
def parse_Parse.B11 : List Nat := [0, 0, 2, 0, 14, 30, 62, 0, 1, 383, 1023]
theorem parse_Parse.tab11 : rtab .any (opsOf Tryz.f17 11) = parse_Parse.T11 := by kernel_rfl
theorem parse_Parse.bits11 : waitsOk parse_Parse.T11.2 parse_Parse.B11 = true := by kernel_rfl
set_option maxRecDepth 1000000 in
theorem parse_Parse.k1 {p : Prop} (h : p := by
 first | (simp only [Option.some.injEq, Prod.mk.injEq] at H; obtain ⟨rfl, rfl, rfl⟩ := H) | (have H' := am_ H; clear H)
 first
  | (
   have p757 : 0 ≤ (x34_1 : Int) := da_
   have q757 : x34_1 < (t752.length : Int) := da_
   obtain ⟨ad757, A757_0, c757_0, e757, hx757_0, hx757_1, hl757_0, hi757_0⟩ := at_T112 (Kd.S_reads' HO_32.out).2.2 x34_1 p757 q757
   cases e757
   obtain ⟨ce757, hce757, hMe757, hcc757⟩ := Kd.S_get HO_32.out z112 x34_1 p757 (by first | exact q757 | exact da_ | (have e_ := (Kd.S_reads' HO_32.out).1; omega))
   obtain ⟨ve757_0, rfl, ge757_0⟩ := k112_openM hMe757
   have hv1_0 := hcc757 0 _ rfl
   rw [Nat.add_zero] at hv1_0
   replace hv1_0 := Option.some.inj (hv1_0.symm.trans hx757_0)
   rw [hv1_0] at ge757_0
   have HL757_0 := am_ (show Kd.R k53 53 _ _ _ _ ((rd_T112 t752 x34_1).f0) from ge757_0)
   clear hv1_0 ge757_0
   clear hcc757 hce757
   have HR757_0 := am_ hi757_0
   have HC757_0 := am_ hl757_0
   clear hi757_0 hl757_0
   replace p757 := eq_true p757
   replace q757 := eq_true q757
   try go_wp2_with (first | ((with_reducible refine gate_dst (N := 12) rfl ?_); refine bx_ (N := 12) (cs := #[.slice none 0 0, .int .i64 0]) (t := 112) ?_; intro gb758 hg w2 hbox hb; have BK758 := am_ hbox; have GW758 := am_ (bg_ hg : w.heap.size ≤ gb758); obtain ⟨NB746_758, NB758_746⟩ := nb_ hg BK746; obtain ⟨NB756_758, NB758_756⟩ := nb_ hg BK756; replace HO_32 := am_ (Kd.S_below (Kd.S_elderB (ks_ HO_32.out) gb758 (Nat.le_of_eq hg.symm)) hb); replace HO_757000 := zb_ HO_757000 hb; replace HL757_0 := rb_ HL757_0 hb; replace BK746 := bb_ BK746 hb; replace BK756 := bb_ BK756 hb; replace HR757_0 := cb_ HR757_0 hb; replace HB := sb_ hb; clear hb hbox hg; have hnb3 := NB758_746.out; have hnc3 := NB746_758.out; have hnb4 := NB758_756.out; have hnc4 := NB756_758.out; obtain ⟨hcz11_0, hcz11_1, hfz11_0, hfz11_1⟩ := cz2_ BK758.out) | ((with_reducible refine gate_callee (f := 12) rfl ?_); refine gc_ (some 42) rfl rfl Tryz.func12 rfl #[.slice A757_0 ((rd_T112 t752 x34_1).f0).length c757_0] rfl ?_; (with_reducible refine (item_Of.calls _ _ _ _ _ _ _ _ _ _ _ _ _ _ ?side1 ?side2 A14.out ?side3).mono ?_); (case side1 => repeat (first | exact ((Kd.R_reads' (((Kd.R_mono (rf_ gb758 (Kd.R_types HL757_0.out BK758.out (by decide)) (fun _ hk => hk.2)) (fun _ h_ => h_.1))))).2.2) | (with_reducible refine Kd.C_alloc ?_ _) | (with_reducible refine Kd.C_drewN ?_ _) | (with_reducible refine Kd.C_drew ?_))); (case side2 => exact HC757_0.out); (case side3 => exact LW.below HLW.out bl_); rintro e w12 ⟨v766, rfl, ho0, hb⟩; refine ⟨_, rfl, ?_⟩; have n0_ := am_ (Kd.S_below (((Kd.S_mono (sf_ gb758 (Kd.S_mono HO_32.out (fun k_ hk => (⟨hk, hk.2⟩ : _ ∧ k_ ≠ gb758))) (fun _ hk => hk.2)) (fun _ h_ => h_.1)))) hb); have n1_ := am_ (Kd.S_elder' (((Kd.S_mono (sf_ gb758 (Kd.S_types HO_757000.out BK758.out (by decide)) (fun _ hk => hk.2)) (fun _ h_ => h_.1)))) (Kd.R_base ho0) hb); have n2_ := am_ (Kd.R_below (((Kd.R_mono (rf_ gb758 (Kd.R_types HL757_0.out BK758.out (by decide)) (fun _ hk => hk.2)) (fun _ h_ => h_.1)))) hb); have n3_ := am_ (Kd.R_lower ho0 (below_size bl_)); have n4_ := bb_ BK746 hb; have n5_ := bb_ BK756 hb; have n6_ := am_ (Kd.C_below ((Kd.R_reads' (((Kd.R_mono (rf_ gb758 (Kd.R_types HL757_0.out BK758.out (by decide)) (fun _ hk => hk.2)) (fun _ h_ => h_.1))))).2.2) hb); have n7_ := am_ (blk_below (g := gb758) (o := .cells #[.slice A757_0 ((rd_T112 t752 x34_1).f0).length c757_0, .int .i64 ((rd_T112 t752 x34_1).f1)] 112 (0, 0)) (bp_ BK758.out) hb); have n8_ := am_ (below_step bl_ hb); clear HO_32; clear HO_757000; clear HL757_0; clear BK746; clear BK756; clear HR757_0; clear BK758; clear HB; have HO_32 := n0_; have HO_757000 := n1_; have HL757_0 := n2_; have HO767 := n3_; have BK746 := n4_; have BK756 := n5_; have HR757_0 := n6_; have BK758 := n7_; have HB := n8_; clear n0_ n1_ n2_ n3_ n4_ n5_ n6_ n7_ n8_; clear hb ho0) | ((with_reducible refine gate_dst (N := 13) rfl ?_); refine bx_ (N := 13) (cs := #[.int .i64 0, .int .i64 0, .int .i64 0, .bool false, .string (⟨#[]⟩ : ByteArray), .string (⟨#[]⟩ : ByteArray), .slice none 0 0]) (t := 33) ?_; intro gb770 hg w13 hbox hb; have BK770 := am_ hbox; have GW770 := am_ (bg_ hg : w.heap.size ≤ gb770); obtain ⟨NB746_770, NB770_746⟩ := nb_ hg BK746; obtain ⟨NB756_770, NB770_756⟩ := nb_ hg BK756; obtain ⟨NB758_770, NB770_758⟩ := nb_ hg BK758; replace HO_32 := zb_ HO_32 hb; replace HO_757000 := am_ (Kd.S_below (Kd.S_elderB (ks_ HO_757000.out) gb770 (Nat.le_of_eq hg.symm)) hb); replace HL757_0 := rb_ HL757_0 hb; replace HO767 := rb_ HO767 hb; replace BK746 := bb_ BK746 hb; replace BK756 := bb_ BK756 hb; replace HR757_0 := cb_ HR757_0 hb; replace BK758 := bb_ BK758 hb; replace HB := sb_ hb; clear hb hbox hg; have hnb14 := NB770_746.out; have hnc14 := NB746_770.out; have hnb15 := NB770_756.out; have hnc15 := NB756_770.out; have hnb16 := NB770_758.out; have hnc16 := NB758_770.out; obtain ⟨hcz17_0, hcz17_1, hcz17_2, hcz17_3, hcz17_4, hcz17_5, hcz17_6, hfz17_0, hfz17_1, hfz17_2, hfz17_3, hfz17_4, hfz17_5, hfz17_6⟩ := cz7_ BK770.out; obtain ⟨Ao18, co18, eo18⟩ := Kd.R_slice HO767.out; subst eo18) | ((with_reducible refine gate_callee (f := 46) rfl ?_); refine gc_ (some 58) rfl rfl Tryz.func46 rfl #[.agg #[.int .i64 t759, .int .i64 t760, .int .i64 t761, .bool t762, .string t763, .string t764, .slice Ao18 t765.length co18], .int .i64 x34_1] rfl ?_; (with_reducible refine (parse_may.calls _ _ _ _ _ _ _ _ _ _ _ _ _ ?side1 ?side2 A16.out).mono ?_); (case side1 => refine (Kd.R_reads' (e := 55) (base := w.heap.size) (ok := fun k_ => True) (n := t765.length) (c := co18) ?_).2.2; exact (((Kd.R_mono (rf_ gb770 (Kd.R_types HO767.out BK770.out (by decide)) (fun _ hk => hk.2)) (fun _ h_ => h_.1))))); (case side2 => exact (Kd.R_reads' HO767.out).2.1); rintro e w19 ⟨rfl, hb⟩; refine ⟨_, rfl, ?_⟩; have n0_ := am_ (Kd.S_below (((Kd.S_mono (sf_ gb770 (Kd.S_types HO_32.out BK770.out (by decide)) (fun _ hk => hk.2)) (fun _ h_ => h_.1)))) hb); have n1_ := am_ (Kd.S_below (((Kd.S_mono (sf_ gb770 (Kd.S_mono HO_757000.out (fun k_ hk => (⟨hk, hk.2⟩ : _ ∧ k_ ≠ gb770))) (fun _ hk => hk.2)) (fun _ h_ => h_.1)))) hb); have n2_ := am_ (Kd.R_below (((Kd.R_mono (rf_ gb770 (Kd.R_types HL757_0.out BK770.out (by decide)) (fun _ hk => hk.2)) (fun _ h_ => h_.1)))) hb); have n3_ := am_ (Kd.R_below (((Kd.R_mono (rf_ gb770 (Kd.R_types HO767.out BK770.out (by decide)) (fun _ hk => hk.2)) (fun _ h_ => h_.1)))) hb); have n4_ := bb_ BK746 hb; have n5_ := bb_ BK756 hb; have n6_ := am_ (Kd.C_below ((Kd.R_reads' (((Kd.R_mono (rf_ gb770 (Kd.R_types HL757_0.out BK770.out (by decide)) (fun _ hk => hk.2)) (fun _ h_ => h_.1))))).2.2) hb); have n7_ := bb_ BK758 hb; have n8_ := am_ (blk_below (g := gb770) (o := .cells #[.int .i64 t759, .int .i64 t760, .int .i64 t761, .bool t762, .string t763, .string t764, .slice Ao18 t765.length co18] 33 (0, 0)) (bp_ BK770.out) hb); have n9_ := am_ (below_step bl_ hb); clear HO_32; clear HO_757000; clear HL757_0; clear HO767; clear BK746; clear BK756; clear HR757_0; clear BK758; clear BK770; clear HB; have HO_32 := n0_; have HO_757000 := n1_; have HL757_0 := n2_; have HO767 := n3_; have BK746 := n4_; have BK756 := n5_; have HR757_0 := n6_; have BK758 := n7_; have BK770 := n8_; have HB := n9_; clear n0_ n1_ n2_ n3_ n4_ n5_ n6_ n7_ n8_ n9_; clear hb; (try (have hnb20 := NB756_746.out; have hnc20 := NB746_756.out; obtain ⟨hcz21_0, hfz21_0⟩ := cz1_ BK756.out; obtain ⟨hcz17_0, hcz17_1, hcz17_2, hcz17_3, hcz17_4, hcz17_5, hcz17_6, hfz17_0, hfz17_1, hfz17_2, hfz17_3, hfz17_4, hfz17_5, hfz17_6⟩ := cz7_ BK770.out))) | ((with_reducible refine gate_builtin (b := .append) (xs := #[.tmp 64, .tmp 66]) rfl ?_); at_builtin; refine Kd.S_append k33 (w0 := w) w.heap.size rfl (.tmp 64) (.tmp 66) 59 33 (.agg #[(.int .i64 0), (.int .i64 0), (.int .i64 0), (.bool false), (.string ⟨#[]⟩), (.string ⟨#[]⟩), (.slice none 0 0)]) 88 rfl Tryz.underlying59 info33 rfl (by decide) (by omega) u757000 x757000_1 (⟨t759, t760, (⟨t761, t762, t763, t764⟩ : S30), t765⟩ : S33) [.int .i64 t759, .int .i64 t760, .int .i64 t761, .bool t762, .string t763, .string t764, .slice Ao18 t765.length co18] (fun k_ => k_ ≠ gb770) (fun k_ => some k_ = (.slice Ao18 t765.length co18 : Value).ownBlock) rfl rfl ?aP (fun k_ hk_ => ((Kd.R_mono (ok' := fun k_ => ((fun k_ => k_ ≠ gb770)) k_ ∧ some k_ ≠ (u757000 : Value).ownBlock) (Kd.R_types (Kd.R_apart' (HO767.out) (Kd.S_typed HO_757000.out) (by decide)) BK770.out (by decide)) (fun k_ hk => ⟨hk.2, hk.1.2⟩))).1 k_ hk_.symm) ?aF ?aO ?aB ?aS ?aL ?_; (case aP => exact k33_mkM _ _ _ (⟨t759, t760, (⟨t761, t762, t763, t764⟩ : S30), t765⟩ : S33) (Kd.R_mono (Kd.R_tight rfl (Kd.R_mono (ok' := fun k_ => ((fun k_ => k_ ≠ gb770)) k_ ∧ some k_ ≠ (u757000 : Value).ownBlock) (Kd.R_types (Kd.R_apart' (HO767.out) (Kd.S_typed HO_757000.out) (by decide)) BK770.out (by decide)) (fun k_ hk => ⟨hk.2, hk.1.2⟩))) (fun _ h_ => h_))); (case aB => exact bl_); (case aF => exact (fun k_ hk => Kd.freshB (g := gb770) (o := .cells #[.int .i64 t759, .int .i64 t760, .int .i64 t761, .bool t762, .string t763, .string t764, .slice Ao18 t765.length co18] 33 (0, 0)) (bk_ BK770.out) k_ hk)); (case aO => exact (ks_ (Kd.S_mono HO_757000.out (fun k_ hk => ⟨hk.2, fun e_ => hk.1.2 e_⟩)))); (case aS => exact (below_size bl_)); (case aL => have := LMc18.out; omega); intro v773 w22 ho hb hg hat; rw [← Ny772.out] at ho; have HO774 := am_ (ho); replace HO_32 := am_ (Kd.S_over' (ks_ HO_32.out) (Kd.S_typed (ks_ HO_757000.out)) (by decide) hg); replace BK746 := am_ (blk_grown (g := gb746) (o := .cells #[.slice none 0 0] 61 (0, 0)) (bk_ BK746.out) hg (Kd.S_ne HO_757000.out BK746.out (by decide))); replace BK756 := am_ (blk_grown (g := gb756) (o := .cells #[u757000] 61 (0, 0)) (bk_ BK756.out) hg (Kd.S_ne HO_757000.out BK756.out (by decide))); replace HL757_0 := am_ (Kd.R_over' (kr_ HL757_0.out) (Kd.S_typed (ks_ HO_757000.out)) (by decide) hg); replace BK758 := am_ (blk_grown (g := gb758) (o := .cells #[.slice A757_0 ((rd_T112 t752 x34_1).f0).length c757_0, .int .i64 ((rd_T112 t752 x34_1).f1)] 112 (0, 0)) (bk_ BK758.out) hg (Kd.S_ne HO_757000.out BK758.out (by decide))); replace BK770 := am_ (blk_grown (g := gb770) (o := .cells #[.int .i64 t759, .int .i64 t760, .int .i64 t761, .bool t762, .string t763, .string t764, .slice Ao18 t765.length co18] 33 (0, 0)) (bk_ BK770.out) hg (Kd.S_away HO_757000.out (fun _ hk => hk.2))); replace HB := am_ (hb); clear HO_757000; clear HO767; clear ho hb hg hat; obtain ⟨Ao23, co23, eo23⟩ := Kd.S_slice HO774.out; subst eo23; obtain ⟨hcz21_0, hfz21_0⟩ := cz1_ BK756.out))
   first
    | (
     go_roundg k1
     case measure => have := HK1.out; omega
     case rel => exact ⟨(wrap64 (x34_1 + 1)), (y772), (.slice Ao23 y772.length co23), sr_, H', ⟨by have := HK1.out; omega⟩, ⟨Kd.S_mono (sf_ gb756 (Kd.S_types HO_32.out BK756.out (by decide)) (fun _ hk => hk.2)) (fun _ hk => trivial)⟩, ⟨Kd.S_mono (sf_ gb756 (Kd.S_types HO774.out BK756.out (by decide)) (fun _ hk => hk.2)) (fun _ hk => trivial)⟩, ⟨bk_ BK746.out⟩, ⟨bp_ BK756.out⟩, ⟨bl_⟩⟩)
    | (
     refine gz_ 6 ?_
     replace HO_32 := am_ (Kd.S_drew HO_32.out)
     replace HO_757000 := am_ (Kd.S_drew HO_757000.out)
     replace HL757_0 := am_ (Kd.R_drew HL757_0.out)
     replace HO767 := am_ (Kd.R_drew HO767.out)
     replace BK746 := am_ (blk_drew BK746.out)
     replace BK756 := am_ (blk_drew BK756.out)
     replace BK758 := am_ (blk_drew BK758.out)
     replace BK770 := am_ (blk_drew BK770.out)
     replace HR757_0 := am_ (Kd.C_drew HR757_0.out)
     replace HB := am_ (below_drew1 HB.out)
     refine sw_ (n := 6) (S := fun w' => w'.cell? ⟨gb758, 0, none⟩ = some (.slice A757_0 ((rd_T112 t752 x34_1).f0).length c757_0) ∧ w'.cell? ⟨gb758, 1, none⟩ = some (.int .i64 ((rd_T112 t752 x34_1).f1))) (ds := []) ⟨(blk_cell BK758.out 0).trans rfl, (blk_cell BK758.out 1).trans rfl⟩ (fun hHeld => ?_)
     generalize w19.drew = w24 at HO_32 HO_757000 HL757_0 HO767 BK746 BK756 BK758 BK770 HR757_0 HB hHeld ⊢
     refine pw_ 0 (some 60) ?_
     refine pw_ 1 (some 61) ?_
     refine tw_ 2 (some 62) hHeld ?_
     refine ow_ 3 (none) (fun K hK => ?_)
     have hs25 : w24.cell? ⟨gb746, 0, none⟩ = some (.slice none 0 0) := (blk_cell BK746.out 0).trans rfl
     have hfs25 := blk_frozen BK746.out 0
     have hns25_1 := NB756_746.out
     have hns25_2 := NB758_746.out
     have hns25_3 := NB770_746.out
     have hms25_1 := NB746_756.out
     have hms25_2 := NB746_758.out
     have hms25_3 := NB746_770.out
     refine skip_ (w1 := ?_) (by rfl) rfl ?_ ?_
     rotate_left
     ·
      go_simp
      rfl
     refine hK.out _ _ ⟨(cf_ NB758_746.out hHeld.1), (cf_ NB758_746.out hHeld.2)⟩ (fun hHeld => ?_)
     clear hK K
     refine pw_ 4 (some 3) ?_
     refine pw_ 5 (some 4) ?_
     refine done_ (by kernel_rfl) ?_
     try go_wp2
     refine bodyPost_ret (results_ctt rfl _ _ gb746 61 _ (0, 0) _ rfl (bp_ BK746.out) Tryz.underlying61 rfl (by kernel_rfl)) rfl ?_
     exact ⟨_, er_, kn_, bl_⟩)
    | (
     refine gz_ 11 ?_
     generalize hq_ : (((((((w13.setCell ⟨gb770, 0, none⟩ (.int .i64 t759)).setCell ⟨gb770, 1, none⟩ (.int .i64 t760)).setCell ⟨gb770, 2, none⟩ (.int .i64 t761)).setCell ⟨gb770, 3, none⟩ (.bool t762)).setCell ⟨gb770, 4, none⟩ (.string t763)).setCell ⟨gb770, 5, none⟩ (.string t764)).setCell ⟨gb770, 6, none⟩ (.slice Ao18 t765.length co18)) = w26
     replace HO_32 := (⟨by subst hq_; exact Kd.S_mono (sf_ gb770 (Kd.S_types HO_32.out BK770.out (by decide)) (fun _ hk => hk.2)) (fun _ hk => hk.1.2)⟩ : Aside0 (Kd.S k112 112 w26 w.heap.size (fun k_ => k_ ≠ gb758) (.slice (some ad757) t752.length co10) t752))
     replace HO_757000 := (⟨by subst hq_; exact Kd.S_mono (sf_ gb770 (Kd.S_mono HO_757000.out (fun k_ hk => (⟨hk, hk.2⟩ : _ ∧ k_ ≠ gb770))) (fun _ hk => hk.2)) (fun _ hk => ⟨hk.1.1.2, hk.1.2⟩)⟩ : Aside0 (Kd.S k33 33 w26 w.heap.size (fun k_ => some k_ ≠ (.slice Ao18 t765.length co18 : Value).ownBlock ∧ k_ ≠ gb770) u757000 x757000_1))
     replace HL757_0 := (⟨by subst hq_; exact Kd.R_mono (rf_ gb770 (Kd.R_types HL757_0.out BK770.out (by decide)) (fun _ hk => hk.2)) (fun _ hk => hk.1.2)⟩ : Aside0 (Kd.R k53 53 w26 w.heap.size (fun k_ => some k_ ≠ (.slice (some ad757) t752.length co10 : Value).ownBlock) (.slice A757_0 ((rd_T112 t752 x34_1).f0).length c757_0) ((rd_T112 t752 x34_1).f0)))
     replace HO767 := (⟨by subst hq_; exact Kd.R_mono (rf_ gb770 (Kd.R_types HO767.out BK770.out (by decide)) (fun _ hk => hk.2)) (fun _ hk => trivial)⟩ : Aside0 (Kd.R k55 55 w26 w.heap.size (fun _ => True) (.slice Ao18 t765.length co18) t765))
     replace BK746 := (⟨by subst hq_; exact bk_ BK746.out⟩ : Aside0 (w26.heap[gb746]? = some (.cells #[.slice none 0 0] 61 (0, 0))))
     replace BK756 := (⟨by subst hq_; exact bk_ BK756.out⟩ : Aside0 (w26.heap[gb756]? = some (.cells #[u757000] 61 (0, 0))))
     replace BK758 := (⟨by subst hq_; exact bk_ BK758.out⟩ : Aside0 (w26.heap[gb758]? = some (.cells #[.slice A757_0 ((rd_T112 t752 x34_1).f0).length c757_0, .int .i64 ((rd_T112 t752 x34_1).f1)] 112 (0, 0))))
     replace BK770 := (⟨by subst hq_; exact bp_ BK770.out⟩ : Aside0 (w26.heap[gb770]? = some (.cells #[.int .i64 t759, .int .i64 t760, .int .i64 t761, .bool t762, .string t763, .string t764, .slice Ao18 t765.length co18] 33 (0, 0))))
     replace HB := (⟨by subst hq_; exact bl_⟩ : Aside0 (Below w.heap.size w w26))
     clear hq_
     replace HO_32 := am_ (Kd.S_drew HO_32.out)
     replace HO_757000 := am_ (Kd.S_drew HO_757000.out)
     replace HL757_0 := am_ (Kd.R_drew HL757_0.out)
     replace HO767 := am_ (Kd.R_drew HO767.out)
     replace BK746 := am_ (blk_drew BK746.out)
     replace BK756 := am_ (blk_drew BK756.out)
     replace BK758 := am_ (blk_drew BK758.out)
     replace BK770 := am_ (blk_drew BK770.out)
     replace HB := am_ (below_drew1 HB.out)
     have p775 : 0 ≤ (t768 : Int) := da_
     have q775 : t768 < (((rd_T112 t752 x34_1).f0).length : Int) := da_
     obtain ⟨ad775, e775, hx775_0, hx775_1, hx775_2, hx775_3⟩ := at_T53 ((Kd.R_reads' HL757_0.out).2.2) t768 p775 q775
     cases e775
     replace p775 := eq_true p775
     replace q775 := eq_true q775
     refine sw_ (n := 11) (S := fun w' => w'.cell? ⟨gb758, 0, none⟩ = some (.slice (some ad775) ((rd_T112 t752 x34_1).f0).length c757_0) ∧ w'.cell? ⟨gb758, 1, none⟩ = some (.int .i64 ((rd_T112 t752 x34_1).f1)) ∧ w'.cell? (ad775.add ((t768).toNat * 4)) = some (.int .i64 ((rd_T53 ((rd_T112 t752 x34_1).f0) t768).f0)) ∧ w'.cell? ⟨(ad775.add ((t768).toNat * 4)).block, (ad775.add ((t768).toNat * 4)).off + 1, none⟩ = some (.string ((rd_T53 ((rd_T112 t752 x34_1).f0) t768).f1)) ∧ w'.cell? ⟨(ad775.add ((t768).toNat * 4)).block, (ad775.add ((t768).toNat * 4)).off + 2, none⟩ = some (.int .i64 ((rd_T53 ((rd_T112 t752 x34_1).f0) t768).f2)) ∧ w'.cell? ⟨(ad775.add ((t768).toNat * 4)).block, (ad775.add ((t768).toNat * 4)).off + 3, none⟩ = some (.int .i64 ((rd_T53 ((rd_T112 t752 x34_1).f0) t768).f3))) (ds := []) ⟨(blk_cell BK758.out 0).trans rfl, (blk_cell BK758.out 1).trans rfl, hx775_0, hx775_1, hx775_2, hx775_3⟩ (fun hHeld => ?_); refine with_tabW parse_Parse.tab11 parse_Parse.bits11 (fun HT_ HW_ => ?_)
     generalize w26.drew = w27 at HO_32 HO_757000 HL757_0 HO767 BK746 BK756 BK758 BK770 HB hx775_0 hx775_1 hx775_2 hx775_3 hHeld ⊢
     refine pw_ 0 (some 48) ?_
     refine pw_ 1 (some 49) ?_
     refine pw_ 3 (some 51) ?_
     refine pw_ 7 (some 55) ?_
     refine tw_ 2 (some 50) hHeld ?_
     refine pw_ 4 (some 52) ?_
     refine pw_ 5 (some 53) ?_
     refine tw_ 6 (some 54) hHeld ?_
     refine ow_ 8 (none) (fun K hK => ?_)
     have hs28 : w27.cell? ⟨gb746, 0, none⟩ = some (.slice none 0 0) := (blk_cell BK746.out 0).trans rfl
     have hfs28 := blk_frozen BK746.out 0
     have hns28_1 := NB756_746.out
     have hns28_2 := NB758_746.out
     have hns28_3 := NB770_746.out
     have hms28_1 := NB746_756.out
     have hms28_2 := NB746_758.out
     have hms28_3 := NB746_770.out
     refine skip_ (w1 := ?_) (by rfl) rfl ?_ ?_
     rotate_left
     ·
      go_simp
      rfl
     refine hK.out _ _ ⟨(cf_ NB758_746.out hHeld.1), (cf_ NB758_746.out hHeld.2.1), (cg_ (Kd.own_blk (Kd.R_ne HL757_0.out BK746.out (by decide))) hHeld.2.2.1), (cg_ (Kd.own_blk (Kd.R_ne HL757_0.out BK746.out (by decide))) hHeld.2.2.2.1), (cg_ (Kd.own_blk (Kd.R_ne HL757_0.out BK746.out (by decide))) hHeld.2.2.2.2.1), (cg_ (Kd.own_blk (Kd.R_ne HL757_0.out BK746.out (by decide))) hHeld.2.2.2.2.2)⟩ (fun hHeld => ?_)
     clear hK K
     refine pw_ 9 (some 3) ?_
     refine pw_ 10 (some 4) ?_
     refine done_ (done_of HT_.out (by kernel_rfl)) ?_
     try go_wp2
     refine bodyPost_ret (results_ctt rfl _ _ gb746 61 _ (0, 0) _ rfl (bp_ BK746.out) Tryz.underlying61 rfl (by kernel_rfl)) rfl ?_
     exact ⟨_, er_, kn_, bl_⟩))
  | (
   have hnb29 := NB746_756.out
   have hnc29 := NB756_746.out
   obtain ⟨hcz30_0, hfz30_0⟩ := cz1_ BK746.out
   go_wp2
   refine bodyPost_ret (results_ctt rfl _ _ gb746 61 _ (0, 0) _ rfl (bp_ BK746.out) Tryz.underlying61 rfl (by kernel_rfl)) rfl ?_
   exact ⟨_, er_, kn_, bl_⟩)
  | (
   have hnb20 := NB756_746.out
   have hnc20 := NB746_756.out
   obtain ⟨hcz21_0, hfz21_0⟩ := cz1_ BK756.out
   obtain ⟨Ao31, co31, eo31⟩ := Kd.S_slice HO_757000.out
   subst eo31
   obtain ⟨hcz30_0, hfz30_0⟩ := cz1_ BK746.out
   go_wp2
   refine bodyPost_ret (results_ctt rfl _ _ gb746 61 _ (0, 0) _ rfl (bp_ BK746.out) Tryz.underlying61 rfl (by kernel_rfl)) rfl ?_
   exact ⟨_, er_, Kd.S_mono (sf_ gb746 (Kd.S_types HO_757000.out BK746.out (by decide)) (fun _ hk => hk.2)) (fun _ hk => trivial), bl_⟩)
  | (
   go_enter Tryz.func17, Tryz.ntmps17
   try go_wp2_with (first | ((with_reducible refine gate_dst (N := 2) rfl ?_); refine bx_ (N := 2) (cs := #[.slice none 0 0]) (t := 61) ?_; intro gb746 hg w32 hbox hb; have BK746 := am_ hbox; have GW746 := am_ (bg_ hg : w.heap.size ≤ gb746); replace HB := sb_ hb; clear hb hbox hg) | ((with_reducible refine gate_callee (f := 44) rfl ?_); refine gc_ (some 18) rfl rfl Tryz.func44 rfl #[.string a0] rfl ?_; (with_reducible refine (token_All.calls _ _ _ _ _ _ A2.out ?side1).mono ?_); (case side1 => exact LW.below HLW.out bl_); rintro e w33 ⟨v750, rfl, ho0, hb⟩; refine ⟨_, rfl, ?_⟩; have HO751 := am_ (Kd.R_lower ho0 (below_size bl_)); replace BK746 := bb_ BK746 hb; replace HB := sb_ hb; clear hb ho0; obtain ⟨hcz30_0, hfz30_0⟩ := cz1_ BK746.out))
   refine bodyPost_ret (results_ctt rfl _ _ gb746 61 _ (0, 0) _ rfl (bp_ BK746.out) Tryz.underlying61 rfl (by kernel_rfl)) rfl ?_
   exact ⟨_, er_, kn_, bl_⟩)) : p := h
set_option maxHeartbeats 8000000 in
set_option maxRecDepth 100000 in
theorem parse_Parse.calls (k : Nat) (a0 : ByteArray) (r1 : List (S33)) (r2 : Int) (r3 : Int) (w : World) (h : parse_Parse.f k a0 = some (r1, r2, r3)) (HLW_ : LW w) :
 Calls Tryz.prog 17 #[.string a0] w fun e w' => ∃ v0_ : Value, e = .returned (.tuple #[.agg #[v0_], .int .i64 r2, .int .i64 r3]) ∧ Kd.S k33 33 w' w.heap.size (fun _ => True) v0_ r1 ∧ Below w.heap.size w w' := by
 have HLW := am_ HLW_
 clear HLW_
 have hu61 := Tryz.underlying61
 have hu112 := Tryz.underlying112
 have hu33 := Tryz.underlying33
 have HB := am_ (Below.refl w.heap.size w)
 have H : ((token_All.f k a0).bind fun bt747 => (if bt747.2.2 = 0 then ((parse_parts.f k bt747.1).bind fun bt752 => (parse_Parse.l0 k a0 bt752.2 bt752.1 (bt752.1.length : Int) 0 ([] : List (S33)))) else (some (([] : List (S33)), bt747.2.1, bt747.2.2)))) = some (r1, r2, r3) := h
 clear h
 replace H := bd_ H
 obtain ⟨⟨t747, t748, t749⟩, A2, H⟩ := H
 try dsimp only at H
 replace H := ie_ H
 rcases H with ⟨-, c3b0, c3b1, H⟩ | ⟨c3, c3b0, c3b1, H⟩
 ·
  replace H := bd_ H
  obtain ⟨⟨t752, t753⟩, A4, H⟩ := H
  try dsimp only at H
  have H' := am_ H
  clear H
  go_enter Tryz.func17, Tryz.ntmps17
  go_wp2_with (first | ((with_reducible refine gate_dst (N := 2) rfl ?_); refine bx_ (N := 2) (cs := #[.slice none 0 0]) (t := 61) ?_; intro gb746 hg w5 hbox hb; have BK746 := am_ hbox; have GW746 := am_ (bg_ hg : w.heap.size ≤ gb746); replace HB := sb_ hb; clear hb hbox hg) | ((with_reducible refine gate_callee (f := 44) rfl ?_); refine gc_ (some 18) rfl rfl Tryz.func44 rfl #[.string a0] rfl ?_; (with_reducible refine (token_All.calls _ _ _ _ _ _ A2.out ?side1).mono ?_); (case side1 => exact LW.below HLW.out bl_); rintro e w6 ⟨v750, rfl, ho0, hb⟩; refine ⟨_, rfl, ?_⟩; have HO751 := am_ (Kd.R_lower ho0 (below_size bl_)); replace BK746 := bb_ BK746 hb; replace HB := sb_ hb; clear hb ho0; obtain ⟨Ao7, co7, eo7⟩ := Kd.R_slice HO751.out; subst eo7) | ((with_reducible refine gate_callee (f := 45) rfl ?_); refine gc_ (some 29) rfl rfl Tryz.func45 rfl #[.slice Ao7 t747.length co7] rfl ?_; (with_reducible refine (parse_parts.calls _ _ _ _ _ _ _ ?side1 ?side2 A4.out).mono ?_); (case side1 => exact kc_ (Kd.R_reads' HO751.out).2.2); (case side2 => exact (Kd.R_reads' HO751.out).2.1); rintro e w8 ⟨v754, rfl, ho0, hb⟩; refine ⟨_, rfl, ?_⟩; have HO755 := am_ (Kd.S_lower (Kd.S_new' ho0 (Kd.R_lt (kr_ HO751.out))) (below_size bl_)); replace HO751 := rb_ HO751 hb; replace BK746 := bb_ BK746 hb; replace HB := sb_ hb; clear hb ho0) | ((with_reducible refine gate_dst (N := 10) rfl ?_); refine bx_ (N := 10) (cs := #[.slice none 0 0]) (t := 61) ?_; intro gb756 hg w9 hbox hb; have BK756 := am_ hbox; have GW756 := am_ (bg_ hg : w.heap.size ≤ gb756); obtain ⟨NB746_756, NB756_746⟩ := nb_ hg BK746; replace HO751 := rb_ HO751 hb; replace HO755 := zb_ HO755 hb; replace BK746 := bb_ BK746 hb; replace HB := sb_ hb; clear hb hbox hg; obtain ⟨Ao10, co10, eo10⟩ := Kd.S_slice HO755.out; subst eo10))
  go_loopg [34] k (fun kq v34 w' => ∃ (x34_1 : Int) (x757000_1 : List (S33)) (u757000 : Value), v34 = .int .i64 x34_1 ∧ Aside0 (parse_Parse.l0 kq a0 t753 t752 (t752.length : Int) x34_1 x757000_1 = some (r1, r2, r3)) ∧ Aside0 (kq ≤ k) ∧ Aside0 (Kd.S k112 112 w' w.heap.size (fun _ => True) (.slice Ao10 t752.length co10) t752) ∧ Aside0 (Kd.S k33 33 w' w.heap.size (fun _ => True) u757000 x757000_1) ∧ Aside0 (w'.heap[gb746]? = some (.cells #[(.slice none 0 0)] 61 (0, 0))) ∧ Aside0 (w'.heap[gb756]? = some (.cells #[u757000] 61 (0, 0))) ∧ Aside0 (Below w.heap.size w w'))
  case atStart => exact ⟨(0), (([] : List (S33))), (.slice none 0 0), sr_, H', ⟨Nat.le_refl _⟩, ⟨ks_ (Kd.S_mono HO755.out (fun _ hk => trivial))⟩, ⟨kn_⟩, ⟨bk_ BK746.out⟩, ⟨bk_ BK756.out⟩, ⟨bl_⟩⟩
  case round =>
   clear H'
   try clear c1
   try clear p2
   try clear c3
   try clear c3b0
   try clear c3b1
   try clear c4
   obtain ⟨x34_1, x757000_1, u757000, rfl, HA, HK1, HO_32, HO_757000, BK746, BK756, HB⟩ := hrel
   cases gk with
   | zero => exact absurd HA.out (by simp [parse_Parse.l0])
   | succ k1 =>
    have H := HA.out
    clear HA
    simp only [parse_Parse.l0] at H
    replace H := il_ H
    rcases H with ⟨-, c11b0, H⟩ | ⟨-, c11b0, H⟩
    ·
     replace H := ixl_ H
     obtain ⟨-, c12b0, H⟩ := H
     replace H := ixl_ H
     obtain ⟨-, c13b0, H⟩ := H
     replace H := bd_ H
     obtain ⟨⟨t759, t760, t761, t762, t763, t764, t765, t768, t769⟩, A14, H⟩ := H
     try dsimp only at H
     replace H := ie_ H
     rcases H with ⟨-, c15b0, c15b1, H⟩ | ⟨c15, c15b0, c15b1, H⟩
     ·
      replace H := bd_ H
      obtain ⟨t771, A16, H⟩ := H
      replace H := ib_ H
      rcases H with ⟨rfl, H⟩ | ⟨rfl, H⟩
      ·
       replace H := ixl_ H
       obtain ⟨c18, -, H⟩ := H
       have LMc18 := am_ c18
       clear c18
       obtain ⟨y772, hy772⟩ : ∃ y_ : List (S33), y_ = (x757000_1 ++ [(⟨t759, t760, (⟨t761, t762, t763, t764⟩ : S30), t765⟩ : S33)]) := ⟨_, rfl⟩
       replace H : (parse_Parse.l0 k1 a0 t753 t752 (t752.length : Int) (wrap64 (x34_1 + 1)) y772) = some (r1, r2, r3) := by first | (rw [hy772]; with_reducible exact H) | (have H2_ := (Option.bind_some _ _).symm.trans H; rw [hy772]; with_reducible exact H2_) | (have H2_ := (Option.bind_some _ _).symm.trans H; with_reducible exact H2_) | with_reducible exact H | (rw [hy772]; exact H) | exact H
       have Ny772 := am_ hy772
       clear hy772
       exact parse_Parse.k1
      ·
       exact parse_Parse.k1
     ·
      replace H := ixl_ H
      obtain ⟨-, c51b0, H⟩ := H
      replace H := ixl_ H
      obtain ⟨-, c52b0, H⟩ := H
      exact parse_Parse.k1
    ·
     replace H := il_ H
     rcases H with ⟨-, c67b0, H⟩ | ⟨-, c67b0, H⟩
     ·
      exact parse_Parse.k1
     ·
      exact parse_Parse.k1
 ·
  exact parse_Parse.k1

end Go.Proofs.YtiidpicgdjjikaaGreatDoor.P
