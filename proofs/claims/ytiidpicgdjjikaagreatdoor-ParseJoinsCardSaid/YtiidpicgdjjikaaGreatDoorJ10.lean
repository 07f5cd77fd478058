import Derived.Test.YtiidpicgdjjikaaGreatDoorJ4
import Derived.Test.YtiidpicgdjjikaaGreatDoorJ6
import Derived.Test.YtiidpicgdjjikaaGreatDoorJ8
import Derived.Test.YtiidpicgdjjikaaGreatDoorJ9
namespace Go.Proofs.YtiidpicgdjjikaaGreatDoor.P
open Go.RowKit Go.Proofs.YtiidpicgdjjikaaGreatDoor.G Go.Proofs.YtiidpicgdjjikaaGreatDoorW.PrintWords Go.Proofs.YtiidpicgdjjikaaGreatDoorW.PrintLast Go.Proofs.YtiidpicgdjjikaaGreatDoorW.PrintMore
attribute [local go_sem] isSome_setCell_eq max2_int min2_int max_two min_two max_three min_three max_four min_four
set_option linter.unusedVariables false
set_option linter.unusedSimpArgs false

def token_first.f (k : Nat) (a0 : ByteArray) : Option (Int × ByteArray × Int × Int × Int × Int × Int) := (token_begun.f k a0).bind fun bt690 => (if bt690.2.2.2.2.2.2.2 = true then (some (bt690.1, bt690.2.1, bt690.2.2.1, bt690.2.2.2.1, bt690.2.2.2.2.1, bt690.2.2.2.2.2.1, bt690.2.2.2.2.2.2.1)) else (if 0 < (a0.size : Int) then ((token_single.f (bt a0 0)).bind fun bt699 => (if bt699.2 = true then (if 0 ≤ 1 then (if 1 ≤ (a0.size : Int) then (some (bt699.1, a0.extract 0 1, 1, 0, 1, 0, 0)) else (none)) else (none)) else ((token_lettered.f k a0).bind fun bt701 => (if bt701.2.2.2.2 > 0 then (some (bt701.1, bt701.2.1, bt701.2.2.1, bt701.2.2.2.1, bt701.2.2.2.2, 0, 0)) else ((runes_First.f k a0).bind fun bt707 => (if bt707.2.2 = true then (if (bt a0 0) < 128 then ((strings_IndexByte.f (⟨#[36, 45, 43, 40, 41, 58, 33, 94, 38, 39, 126, 123, 125, 60, 62, 61, 32, 49, 50, 51, 52, 53, 54, 55, 56, 57]⟩ : ByteArray) (bt a0 0)).bind fun t710 => (if t710 < 0 then (some (0, (⟨#[]⟩ : ByteArray), 0, 0, 0, 0, 9)) else (if 0 ≤ bt707.2.1 then (if bt707.2.1 ≤ (a0.size : Int) then (some (17, a0.extract 0 (bt707.2.1 : Int).toNat, 1, 0, bt707.2.1, 0, 0)) else (none)) else (none)))) else (if 0 ≤ bt707.2.1 then (if bt707.2.1 ≤ (a0.size : Int) then (some (17, a0.extract 0 (bt707.2.1 : Int).toNat, 1, 0, bt707.2.1, 0, 0)) else (none)) else (none))) else (some (0, (⟨#[]⟩ : ByteArray), 0, 0, 0, 0, 4)))))))) else (none)))
theorem token_first.mono : ∀ a0 k, LeO (token_first.f k a0) (token_first.f (k + 1) a0) := by
 intro a0 k
 unfold token_first.f
 repeat' first | with_reducible first | exact runes_First.mono _ _ | exact token_begun.mono _ _ | exact token_lettered.mono _ _ | exact LeO.refl _ | exact LeO.none _ | refine LeO.ite ?_ ?_ | refine LeO.bind ?_ (fun _ => ?_)
set_option maxRecDepth 1000000 in
theorem token_first.k1 {p : Prop} (h : p := by
 first | (simp only [Option.some.injEq, Prod.mk.injEq] at H; obtain ⟨rfl, rfl, rfl, rfl, rfl, rfl, rfl⟩ := H) | (have H' := am_ H; clear H)
 go_enter Tryz.func66, Tryz.ntmps66
 try go_wp2_with (first | ((with_reducible refine gate_dst (N := 2) rfl ?_); refine bx_ (N := 2) (cs := #[.int .i64 0, .string (⟨#[]⟩ : ByteArray), .int .i64 0, .int .i64 0]) (t := 53) ?_; intro gb689 hg w1 hbox hb; have BK689 := am_ hbox; have GW689 := am_ (bg_ hg : w.heap.size ≤ gb689); replace HB := sb_ hb; clear hb hbox hg) | ((with_reducible refine gate_callee (f := 87) rfl ?_); refine gc_ (some 20) rfl rfl Tryz.func87 rfl #[.string a0] rfl ?_; (with_reducible refine (token_begun.calls _ _ _ _ _ _ _ _ _ _ _ A2.out).mono ?_); rintro e w2 ⟨rfl, hb⟩; refine ⟨_, rfl, ?_⟩; replace BK689 := bb_ BK689 hb; replace HB := sb_ hb; clear hb) | ((with_reducible refine gate_dst (N := 6) rfl ?_); refine bx_ (N := 6) (cs := #[.int .i64 0, .string (⟨#[]⟩ : ByteArray), .int .i64 0, .int .i64 0]) (t := 53) ?_; intro gb698 hg w3 hbox hb; have BK698 := am_ hbox; have GW698 := am_ (bg_ hg : w.heap.size ≤ gb698); obtain ⟨NB689_698, NB698_689⟩ := nb_ hg BK689; replace BK689 := bb_ BK689 hb; replace HB := sb_ hb; clear hb hbox hg; have hnb4 := NB698_689.out; have hnc4 := NB689_698.out; obtain ⟨hcz5_0, hcz5_1, hcz5_2, hcz5_3, hfz5_0, hfz5_1, hfz5_2, hfz5_3⟩ := cz4_ BK698.out; (try (have p11 : 0 ≤ (0 : Int) := (by omega); have q11 : 0 < a0.size := (by have : (0 : Int) < (a0.size : Int) := da_; omega); have hx11 : ∀ h : 0 < a0.size, ((a0[0]'h).toNat : Int) = bt a0 0 := bt_at a0 0; clear p11; have qi11 : (0 < (a0.size : Int)) = True := eq_true (da_); replace q11 := eq_true q11)); (try (obtain ⟨hcz6_0, hcz6_1, hcz6_2, hcz6_3, hfz6_0, hfz6_1, hfz6_2, hfz6_3⟩ := cz4_ BK689.out))) | ((with_reducible refine gate_callee (f := 88) rfl ?_); refine gc_ (some 34) rfl rfl Tryz.func88 rfl #[.int .u8 (bt a0 0)] rfl ?_; (with_reducible refine (token_single.calls _ _ _ _ A12.out).mono ?_); rintro e w2 ⟨rfl, hb⟩; refine ⟨_, rfl, ?_⟩; replace BK689 := bb_ BK689 hb; replace BK698 := am_ (blk_below (g := gb698) (o := .cells #[.int .i64 t690, .string t691, .int .i64 t692, .int .i64 t693] 53 (0, 0)) (bp_ BK698.out) hb); replace HB := sb_ hb; clear hb; (try (obtain ⟨hcz6_0, hcz6_1, hcz6_2, hcz6_3, hfz6_0, hfz6_1, hfz6_2, hfz6_3⟩ := cz4_ BK689.out))) | ((with_reducible refine gate_callee (f := 89) rfl ?_); refine gc_ (some 44) rfl rfl Tryz.func89 rfl #[.string a0] rfl ?_; (with_reducible refine (token_lettered.calls _ _ _ _ _ _ _ _ A23.out ?side1).mono ?_); (case side1 => exact LW.below HLW.out bl_); rintro e w2 ⟨rfl, hb⟩; refine ⟨_, rfl, ?_⟩; replace BK689 := bb_ BK689 hb; replace BK698 := bb_ BK698 hb; replace HB := sb_ hb; clear hb) | ((with_reducible refine gate_dst (N := 13) rfl ?_); refine bx_ (N := 13) (cs := #[.int .i64 0, .string (⟨#[]⟩ : ByteArray), .int .i64 0, .int .i64 0]) (t := 53) ?_; intro gb706 hg w7 hbox hb; have BK706 := am_ hbox; have GW706 := am_ (bg_ hg : w.heap.size ≤ gb706); obtain ⟨NB689_706, NB706_689⟩ := nb_ hg BK689; obtain ⟨NB698_706, NB706_698⟩ := nb_ hg BK698; replace BK689 := bb_ BK689 hb; replace BK698 := bb_ BK698 hb; replace HB := sb_ hb; clear hb hbox hg; have hnb8 := NB706_689.out; have hnc8 := NB689_706.out; have hnb9 := NB706_698.out; have hnc9 := NB698_706.out; obtain ⟨hcz10_0, hcz10_1, hcz10_2, hcz10_3, hfz10_0, hfz10_1, hfz10_2, hfz10_3⟩ := cz4_ BK706.out; (try (obtain ⟨hcz6_0, hcz6_1, hcz6_2, hcz6_3, hfz6_0, hfz6_1, hfz6_2, hfz6_3⟩ := cz4_ BK689.out))) | ((with_reducible refine gate_callee (f := 90) rfl ?_); refine gc_ (some 53) rfl rfl Tryz.func90 rfl #[.string a0] rfl ?_; (with_reducible refine (runes_First.calls _ _ _ _ _ _ A37.out).mono ?_); rintro e w2 ⟨rfl, hb⟩; refine ⟨_, rfl, ?_⟩; replace BK689 := bb_ BK689 hb; replace BK698 := bb_ BK698 hb; replace BK706 := am_ (blk_below (g := gb706) (o := .cells #[.int .i64 t701, .string t702, .int .i64 t703, .int .i64 t704] 53 (0, 0)) (bp_ BK706.out) hb); replace HB := sb_ hb; clear hb; (try (have p39 : 0 ≤ (0 : Int) := (by omega); have q39 : 0 < a0.size := (by have : (0 : Int) < (a0.size : Int) := da_; omega); have hx39 : ∀ h : 0 < a0.size, ((a0[0]'h).toNat : Int) = bt a0 0 := bt_at a0 0; clear p39; have qi39 : (0 < (a0.size : Int)) = True := eq_true (da_); replace q39 := eq_true q39; (try (have p41 : 0 ≤ (0 : Int) := (by omega); have q41 : 0 < a0.size := (by have : (0 : Int) < (a0.size : Int) := da_; omega); have hx41 : ∀ h : 0 < a0.size, ((a0[0]'h).toNat : Int) = bt a0 0 := bt_at a0 0; clear p41; have qi41 : (0 < (a0.size : Int)) = True := eq_true (da_); replace q41 := eq_true q41)); (try (obtain ⟨hcz6_0, hcz6_1, hcz6_2, hcz6_3, hfz6_0, hfz6_1, hfz6_2, hfz6_3⟩ := cz4_ BK689.out)))); (try (obtain ⟨hcz6_0, hcz6_1, hcz6_2, hcz6_3, hfz6_0, hfz6_1, hfz6_2, hfz6_3⟩ := cz4_ BK689.out))) | (go_at_call 91; (with_reducible refine (strings_IndexByte.calls _ _ _ _ A42.out).mono ?_); rintro e w' ⟨rfl, ⟨nd, rfl⟩⟩; (try (rw [drewN_self w2]; generalize hq_ : World.drewN w2 _ = w2; have n0_ : Aside0 (w2.heap[gb689]? = some (.cells #[.int .i64 0, .string (⟨#[]⟩ : ByteArray), .int .i64 0, .int .i64 0] 53 (0, 0))) := ⟨by rw [← hq_]; exact (bk_ BK689.out)⟩; have n1_ : Aside0 (w2.heap[gb698]? = some (.cells #[.int .i64 t690, .string t691, .int .i64 t692, .int .i64 t693] 53 (0, 0))) := ⟨by rw [← hq_]; exact (bk_ BK698.out)⟩; have n2_ : Aside0 (w2.heap[gb706]? = some (.cells #[.int .i64 t701, .string t702, .int .i64 t703, .int .i64 t704] 53 (0, 0))) := ⟨by rw [← hq_]; exact (bk_ BK706.out)⟩; have n3_ : Aside0 (Below w.heap.size w w2) := ⟨by rw [← hq_]; exact bl_⟩; clear BK689 BK698 BK706 HB hq_; have BK689 := n0_; have BK698 := n1_; have BK706 := n2_; have HB := n3_; clear n0_ n1_ n2_ n3_)); obtain ⟨hcz6_0, hcz6_1, hcz6_2, hcz6_3, hfz6_0, hfz6_1, hfz6_2, hfz6_3⟩ := cz4_ BK689.out))
 refine bodyPost_ret (results_list (rs := [.cell 2 53, .tmp 3, .tmp 4, .tmp 5]) rfl (by simp) (.cell gb689 53 _ (0, 0) _ rfl (bp_ BK689.out) Tryz.underlying53 rfl (by kernel_rfl) (.tmp (.tmp (.tmp .nil))))) rfl ?_
 exact ⟨er_, bl_⟩) : p := h
set_option maxHeartbeats 8000000 in
set_option maxRecDepth 100000 in
theorem token_first.calls (k : Nat) (a0 : ByteArray) (r1 : Int) (r2 : ByteArray) (r3 : Int) (r4 : Int) (r5 : Int) (r6 : Int) (r7 : Int) (w : World) (h : token_first.f k a0 = some (r1, r2, r3, r4, r5, r6, r7)) (HLW_ : LW w) :
 Calls Tryz.prog 66 #[.string a0] w fun e w' => e = .returned (.tuple #[.agg #[.int .i64 r1, .string r2, .int .i64 r3, .int .i64 r4], .int .i64 r5, .int .i64 r6, .int .i64 r7]) ∧ Below w.heap.size w w' := by
 have HLW := am_ HLW_
 clear HLW_
 have hu53 := Tryz.underlying53
 have HB := am_ (Below.refl w.heap.size w)
 have H : ((token_begun.f k a0).bind fun bt690 => (if bt690.2.2.2.2.2.2.2 = true then (some (bt690.1, bt690.2.1, bt690.2.2.1, bt690.2.2.2.1, bt690.2.2.2.2.1, bt690.2.2.2.2.2.1, bt690.2.2.2.2.2.2.1)) else (if 0 < (a0.size : Int) then ((token_single.f (bt a0 0)).bind fun bt699 => (if bt699.2 = true then (if 0 ≤ 1 then (if 1 ≤ (a0.size : Int) then (some (bt699.1, a0.extract 0 1, 1, 0, 1, 0, 0)) else (none)) else (none)) else ((token_lettered.f k a0).bind fun bt701 => (if bt701.2.2.2.2 > 0 then (some (bt701.1, bt701.2.1, bt701.2.2.1, bt701.2.2.2.1, bt701.2.2.2.2, 0, 0)) else ((runes_First.f k a0).bind fun bt707 => (if bt707.2.2 = true then (if (bt a0 0) < 128 then ((strings_IndexByte.f (⟨#[36, 45, 43, 40, 41, 58, 33, 94, 38, 39, 126, 123, 125, 60, 62, 61, 32, 49, 50, 51, 52, 53, 54, 55, 56, 57]⟩ : ByteArray) (bt a0 0)).bind fun t710 => (if t710 < 0 then (some (0, (⟨#[]⟩ : ByteArray), 0, 0, 0, 0, 9)) else (if 0 ≤ bt707.2.1 then (if bt707.2.1 ≤ (a0.size : Int) then (some (17, a0.extract 0 (bt707.2.1 : Int).toNat, 1, 0, bt707.2.1, 0, 0)) else (none)) else (none)))) else (if 0 ≤ bt707.2.1 then (if bt707.2.1 ≤ (a0.size : Int) then (some (17, a0.extract 0 (bt707.2.1 : Int).toNat, 1, 0, bt707.2.1, 0, 0)) else (none)) else (none))) else (some (0, (⟨#[]⟩ : ByteArray), 0, 0, 0, 0, 4)))))))) else (none)))) = some (r1, r2, r3, r4, r5, r6, r7) := h
 clear h
 replace H := bd_ H
 obtain ⟨⟨t690, t691, t692, t693, t694, t695, t696, t697⟩, A2, H⟩ := H
 try dsimp only at H
 replace H := ib_ H
 rcases H with ⟨rfl, H⟩ | ⟨rfl, H⟩
 ·
  exact token_first.k1
 ·
  replace H := ixl_ H
  obtain ⟨c10, c10b0, H⟩ := H
  have c10b1 : decide (0 < a0.size) = true := decide_eq_true (by omega)
  clear c10
  replace H := bd_ H
  obtain ⟨⟨t699, t700⟩, A12, H⟩ := H
  try dsimp only at H
  replace H := ib_ H
  rcases H with ⟨rfl, H⟩ | ⟨rfl, H⟩
  ·
   have c14 : 0 ≤ 1 := by decide
   rw [if_pos c14] at H
   have c14b0 := eq_true c14
   have c14b1 : decide (0 ≤ 1) = true := decide_eq_true c14
   clear c14
   replace H := ixl_ H
   obtain ⟨c15, -, H⟩ := H
   have c15b0 := eq_true c15
   have c15b1 : decide (1 ≤ (a0.size : Int)) = true := decide_eq_true c15
   clear c15
   exact token_first.k1
  ·
   replace H := bd_ H
   obtain ⟨⟨t701, t702, t703, t704, t705⟩, A23, H⟩ := H
   try dsimp only at H
   replace H := il_ H
   rcases H with ⟨-, c24b0, H⟩ | ⟨-, c24b0, H⟩
   ·
    exact token_first.k1
   ·
    replace H := bd_ H
    obtain ⟨⟨t707, t708, t709⟩, A37, H⟩ := H
    try dsimp only at H
    replace H := ib_ H
    rcases H with ⟨rfl, H⟩ | ⟨rfl, H⟩
    ·
     replace H := il_ H
     rcases H with ⟨-, c40b0, H⟩ | ⟨-, c40b0, H⟩
     ·
      replace H := bd_ H
      obtain ⟨t710, A42, H⟩ := H
      replace H := il_ H
      rcases H with ⟨-, c43b0, H⟩ | ⟨-, c43b0, H⟩
      ·
       exact token_first.k1
      ·
       replace H := ixl_ H
       obtain ⟨c57, -, H⟩ := H
       have c57b0 := eq_true c57
       have c57b1 : decide (0 ≤ t708) = true := decide_eq_true c57
       clear c57
       replace H := ixl_ H
       obtain ⟨c58, -, H⟩ := H
       have c58b0 := eq_true c58
       have c58b1 : decide (t708 ≤ (a0.size : Int)) = true := decide_eq_true c58
       clear c58
       exact token_first.k1
     ·
      replace H := ixl_ H
      obtain ⟨c72, -, H⟩ := H
      have c72b0 := eq_true c72
      have c72b1 : decide (0 ≤ t708) = true := decide_eq_true c72
      clear c72
      replace H := ixl_ H
      obtain ⟨c73, -, H⟩ := H
      have c73b0 := eq_true c73
      have c73b1 : decide (t708 ≤ (a0.size : Int)) = true := decide_eq_true c73
      clear c73
      exact token_first.k1
    ·
     exact token_first.k1


def token_All.l0 : Nat → ByteArray → List (S53) → Int → Option ((List (S53)) × Int × Int)
 | 0, _, _, _ => none
 | k + 1, x0, x5, x6 => if x6 < (x0.size : Int) then (if 0 ≤ x6 then (if x6 ≤ (x0.size : Int) then ((token_first.f k (x0.extract (x6 : Int).toNat x0.size)).bind fun bt711 => (if bt711.2.2.2.2.2.2 = 0 then (if x5.length < 3518437208883 then (token_All.l0 k x0 (x5 ++ [(⟨bt711.1, bt711.2.1, bt711.2.2.1, x6⟩ : S53)]) (wrap64 (x6 + bt711.2.2.2.2.1))) else (none)) else (some (([] : List (S53)), wrap64 (x6 + bt711.2.2.2.2.2.1), bt711.2.2.2.2.2.2)))) else (none)) else (none)) else (some (x5, (x0.size : Int), 0))
def token_All.f (k : Nat) (a0 : ByteArray) : Option ((List (S53)) × Int × Int) := if (a0.size : Int) > 4096 then (some (([] : List (S53)), 0, 14)) else (token_All.l0 k a0 ([] : List (S53)) 0)
theorem token_All.mono_l : ∀ k, (∀ y0 y1 y2, LeO (token_All.l0 k y0 y1 y2) (token_All.l0 (k + 1) y0 y1 y2))
 | 0 => fun _ _ _ r h => by simp [token_All.l0] at h
 | k + 1 => by
  have ih0 := token_All.mono_l k
  ·
   intro y0 y1 y2
   unfold token_All.l0
   repeat' first
   | (with_reducible exact ih0 _ _ _)
   | (with_reducible exact token_first.mono _ _)
   | (with_reducible exact LeO.refl _)
   | (with_reducible exact LeO.none _)
   | (with_reducible refine LeO.ite ?_ ?_)
   | (with_reducible refine LeO.bind ?_ (fun _ => ?_))
   | exact ih0 _ _ _
   | exact token_first.mono _ _
   | exact LeO.none _
   | refine LeO.ite ?_ ?_
   | refine LeO.bind ?_ (fun _ => ?_)
theorem token_All.mono : ∀ a0 k, LeO (token_All.f k a0) (token_All.f (k + 1) a0) := by
 intro a0 k
 have ih0 := token_All.mono_l k
 unfold token_All.f
 repeat' first | with_reducible first | exact ih0 _ _ _ | exact token_first.mono _ _ | exact LeO.refl _ | exact LeO.none _ | refine LeO.ite ?_ ?_ | refine LeO.bind ?_ (fun _ => ?_)
set_option maxRecDepth 1000000 in
theorem token_All.k1 {p : Prop} (h : p := by
 first | (simp only [Option.some.injEq, Prod.mk.injEq] at H; obtain ⟨rfl, rfl, rfl⟩ := H) | (have H' := am_ H; clear H)
 first
  | (
   go_enter Tryz.func44, Tryz.ntmps44
   go_wp2
   go_ret3
   exact ⟨_, er_, by first | exact Kd.R_nil _ _ _ _ _ | exact Kd.N_nil _ _ _ _ _ | exact Kd.V_nil _ _ _ _ _ | exact Kd.Q_nil _ _ _ _ _ | exact Kd.S_nil _ _ _ _ _, bl_⟩)
  | (
   try go_wp2_with (first | ((with_reducible refine gate_callee (f := 66) rfl ?_); refine gc_ (some 22) rfl rfl Tryz.func66 rfl #[.string (a0.extract (x6_1 : Int).toNat a0.size)] rfl ?_; (with_reducible refine (token_first.calls _ _ _ _ _ _ _ _ _ _ A6.out ?side1).mono ?_); (case side1 => exact LW.below HLW.out bl_); rintro e w1 ⟨rfl, hb⟩; refine ⟨_, rfl, ?_⟩; replace HO_5 := rb_ HO_5 hb; replace HB := sb_ hb; clear hb) | ((with_reducible refine gate_dst (N := 7) rfl ?_); refine bx_ (N := 7) (cs := #[.int .i64 0, .string (⟨#[]⟩ : ByteArray), .int .i64 0, .int .i64 0]) (t := 53) ?_; intro gb718 hg w2 hbox hb; have BK718 := am_ hbox; have GW718 := am_ (bg_ hg : w.heap.size ≤ gb718); replace HO_5 := am_ (Kd.R_below (Kd.R_elderB (kr_ HO_5.out) gb718 (Nat.le_of_eq hg.symm)) hb); replace HB := sb_ hb; clear hb hbox hg; obtain ⟨hcz3_0, hcz3_1, hcz3_2, hcz3_3, hfz3_0, hfz3_1, hfz3_2, hfz3_3⟩ := cz4_ BK718.out) | ((with_reducible refine gate_builtin (b := .append) (xs := #[.tmp 35, .tmp 37]) rfl ?_); at_builtin; refine Kd.R_append k53 (w0 := w) w.heap.size rfl (.tmp 35) (.tmp 37) 22 53 (.agg #[(.int .i64 0), (.string ⟨#[]⟩), (.int .i64 0), (.int .i64 0)]) 40 rfl Tryz.underlying22 info53 rfl (by decide) (by omega) u5 x5_1 (⟨t711, t712, t713, x6_1⟩ : S53) [.int .i64 t711, .string t712, .int .i64 t713, .int .i64 x6_1] (fun k_ => k_ ≠ gb718) (fun _ => False) rfl (by first | (go_simp; done) | (go_simp; rfl)) ?aP (fun _ hk => hk.elim) ?aF ?aO ?aB ?aS ?aL ?_; (case aP => exact k53_mkM _ _ _ (⟨t711, t712, t713, x6_1⟩ : S53)); (case aB => exact bl_); (case aF => exact (fun k_ hk => Kd.freshB (g := gb718) (o := .cells #[.int .i64 t711, .string t712, .int .i64 t713, .int .i64 x6_1] 53 (0, 0)) (bp_ BK718.out) k_ hk)); (case aO => exact ((Kd.R_mono (rf_ gb718 (Kd.R_mono HO_5.out (fun k_ hk => (⟨hk, hk.2⟩ : _ ∧ k_ ≠ gb718))) (fun _ hk => hk.2)) (fun _ hk => hk.1.2)))); (case aS => exact (below_size bl_)); (case aL => have := LMc8.out; omega); intro v720 w4 ho hb hg hat; rw [← Ny719.out] at ho; have HO721 := am_ (ho); replace BK718 := am_ (blk_grown (g := gb718) (o := .cells #[.int .i64 t711, .string t712, .int .i64 t713, .int .i64 x6_1] 53 (0, 0)) (bp_ BK718.out) hg (Kd.R_away HO_5.out (fun _ hk => hk.2))); replace HB := am_ (hb); clear HO_5; clear ho hb hg hat))
   first
    | (
     go_roundg k1
     case measure => have := HK1.out; omega
     case rel => exact ⟨(y719), (wrap64 (x6_1 + t715)), sr_, H', ⟨by have := HK1.out; omega⟩, ⟨kr_ (Kd.R_mono HO721.out (fun _ hk => trivial))⟩, ⟨bl_⟩⟩)
    | (
     go_ret3
     exact ⟨_, er_, by first | exact Kd.R_nil _ _ _ _ _ | exact Kd.N_nil _ _ _ _ _ | exact Kd.V_nil _ _ _ _ _ | exact Kd.Q_nil _ _ _ _ _ | exact Kd.S_nil _ _ _ _ _, bl_⟩))
  | (
   go_wp2
   go_ret3
   exact ⟨_, er_, kr_ HO_5.out, bl_⟩)) : p := h
set_option maxHeartbeats 8000000 in
set_option maxRecDepth 100000 in
theorem token_All.calls (k : Nat) (a0 : ByteArray) (r1 : List (S53)) (r2 : Int) (r3 : Int) (w : World) (h : token_All.f k a0 = some (r1, r2, r3)) (HLW_ : LW w) :
 Calls Tryz.prog 44 #[.string a0] w fun e w' => ∃ v0_ : Value, e = .returned (.tuple #[v0_, .int .i64 r2, .int .i64 r3]) ∧ Kd.R k53 53 w' w.heap.size (fun _ => True) v0_ r1 ∧ Below w.heap.size w w' := by
 have HLW := am_ HLW_
 clear HLW_
 have hu53 := Tryz.underlying53
 have HB := am_ (Below.refl w.heap.size w)
 have H : (if (a0.size : Int) > 4096 then (some (([] : List (S53)), 0, 14)) else (token_All.l0 k a0 ([] : List (S53)) 0)) = some (r1, r2, r3) := h
 clear h
 replace H := il_ H
 rcases H with ⟨c2, c2b0, H⟩ | ⟨c2, c2b0, H⟩
 ·
  have c2b1 : decide (4096 < a0.size) = true := decide_eq_true (by omega)
  clear c2
  exact token_All.k1
 ·
  have c2b1 : decide (4096 < a0.size) = false := decide_eq_false (by omega)
  clear c2
  have H' := am_ H
  clear H
  go_enter Tryz.func44, Tryz.ntmps44
  go_wp2
  go_loopg [5, 6] k (fun kq v5 v6 w' => ∃ (x5_1 : List (S53)) (x6_1 : Int), v6 = .int .i64 x6_1 ∧ Aside0 (token_All.l0 kq a0 x5_1 x6_1 = some (r1, r2, r3)) ∧ Aside0 (kq ≤ k) ∧ Aside0 (Kd.R k53 53 w' w.heap.size (fun _ => True) v5 x5_1) ∧ Aside0 (Below w.heap.size w w'))
  case atStart => exact ⟨(([] : List (S53))), (0), sr_, H', ⟨Nat.le_refl _⟩, ⟨by first | exact Kd.R_nil _ _ _ _ _ | exact Kd.N_nil _ _ _ _ _ | exact Kd.V_nil _ _ _ _ _ | exact Kd.Q_nil _ _ _ _ _ | exact Kd.S_nil _ _ _ _ _⟩, ⟨bl_⟩⟩
  case round =>
   clear H'
   try clear c2
   try clear c2b0
   try clear c2b1
   try clear p2
   obtain ⟨x5_1, x6_1, rfl, HA, HK1, HO_5, HB⟩ := hrel
   cases gk with
   | zero => exact absurd HA.out (by simp [token_All.l0])
   | succ k1 =>
    have H := HA.out
    clear HA
    simp only [token_All.l0] at H
    replace H := il_ H
    rcases H with ⟨-, c3b0, H⟩ | ⟨-, c3b0, H⟩
    ·
     replace H := ixl_ H
     obtain ⟨c4, -, H⟩ := H
     have c4b0 := eq_true c4
     have c4b1 : decide (0 ≤ x6_1) = true := decide_eq_true c4
     clear c4
     replace H := ixl_ H
     obtain ⟨c5, -, H⟩ := H
     have c5b0 := eq_true c5
     have c5b1 : decide (x6_1 ≤ (a0.size : Int)) = true := decide_eq_true c5
     clear c5
     replace H := bd_ H
     obtain ⟨⟨t711, t712, t713, t714, t715, t716, t717⟩, A6, H⟩ := H
     try dsimp only at H
     replace H := ie_ H
     rcases H with ⟨-, c7b0, c7b1, H⟩ | ⟨c7, c7b0, c7b1, H⟩
     ·
      replace H := ixl_ H
      obtain ⟨c8, -, H⟩ := H
      have LMc8 := am_ c8
      clear c8
      obtain ⟨y719, hy719⟩ : ∃ y_ : List (S53), y_ = (x5_1 ++ [(⟨t711, t712, t713, x6_1⟩ : S53)]) := ⟨_, rfl⟩
      replace H : (token_All.l0 k1 a0 y719 (wrap64 (x6_1 + t715))) = some (r1, r2, r3) := by first | (rw [hy719]; with_reducible exact H) | (have H2_ := (Option.bind_some _ _).symm.trans H; rw [hy719]; with_reducible exact H2_) | (have H2_ := (Option.bind_some _ _).symm.trans H; with_reducible exact H2_) | with_reducible exact H | (rw [hy719]; exact H) | exact H
      have Ny719 := am_ hy719
      clear hy719
      exact token_All.k1
     ·
      exact token_All.k1
    ·
     exact token_All.k1


def parse_parts.l0 : Nat → List (S112) → List (S53) → Int → Int → Option ((List (S112)) × Int)
 | 0, _, _, _, _ => none
 | k + 1, x4, x9, x10, x11 => if x11 < x10 then (if 0 ≤ x11 then (if x11 < (x9.length : Int) then (if ((rd_T53 x9 x11).f0) = 11 then (if (x4.length : Int) = 4 then (some (x4, (rd_T53 x9 x11).f3)) else (if x4.length < 4398046511104 then (parse_parts.l0 k (x4 ++ [(⟨([] : List (S53)), wrap64 (((rd_T53 x9 x11).f3) + 1)⟩ : S112)]) x9 x10 (wrap64 (x11 + 1))) else (none))) else (if 0 ≤ (wrap64 ((x4.length : Int) - 1)) then (if (wrap64 ((x4.length : Int) - 1)) < (x4.length : Int) then (if ((rd_T112 x4 (wrap64 ((x4.length : Int) - 1))).f0).length < 3518437208883 then (parse_parts.l0 k (x4.set ((wrap64 ((x4.length : Int) - 1)) : Int).toNat (⟨(((rd_T112 x4 (wrap64 ((x4.length : Int) - 1))).f0) ++ [(⟨(rd_T53 x9 x11).f0, (rd_T53 x9 x11).f1, (rd_T53 x9 x11).f2, (rd_T53 x9 x11).f3⟩ : S53)]), (rd_T112 x4 (wrap64 ((x4.length : Int) - 1))).f1⟩ : S112)) x9 x10 (wrap64 (x11 + 1))) else (none)) else (none)) else (none))) else (none)) else (none)) else (some (x4, (-1)))
def parse_parts.f (k : Nat) (l0 : List (S53)) : Option ((List (S112)) × Int) := parse_parts.l0 k (([(⟨([] : List (S53)), 0⟩ : S112)] : List (S112))) l0 (l0.length : Int) 0
theorem parse_parts.mono_l : ∀ k, (∀ y0 y1 y2 y3, LeO (parse_parts.l0 k y0 y1 y2 y3) (parse_parts.l0 (k + 1) y0 y1 y2 y3))
 | 0 => fun _ _ _ _ r h => by simp [parse_parts.l0] at h
 | k + 1 => by
  have ih0 := parse_parts.mono_l k
  ·
   intro y0 y1 y2 y3
   unfold parse_parts.l0
   repeat' first
   | (with_reducible exact ih0 _ _ _ _)
   | (with_reducible exact LeO.refl _)
   | (with_reducible exact LeO.none _)
   | (with_reducible refine LeO.ite ?_ ?_)
   | (with_reducible refine LeO.bind ?_ (fun _ => ?_))
   | exact ih0 _ _ _ _
   | exact LeO.none _
   | refine LeO.ite ?_ ?_
   | refine LeO.bind ?_ (fun _ => ?_)
theorem parse_parts.mono : ∀ a0 k, LeO (parse_parts.f k a0) (parse_parts.f (k + 1) a0) := by
 intro a0 k
 have ih0 := parse_parts.mono_l k
 unfold parse_parts.f
 repeat' first | with_reducible first | exact ih0 _ _ _ _ | exact LeO.refl _ | exact LeO.none _ | refine LeO.ite ?_ ?_ | refine LeO.bind ?_ (fun _ => ?_)
def parse_parts.T6 : Bool × List (List Nat × List Nat) := (true, [([], []), ([], []), ([1], [1]), ([2], [2]), ([], []), ([], []), ([5], [5]), ([6], [6]), ([4, 7], [4, 7]), ([8], [8]), ([9], [9]), ([], []), ([11], [11]), ([10, 12], [10, 12]), ([0, 3, 0, 1, 2, 3, 4, 5, 6, 7, 8, 9, 10, 11, 12, 13], [0, 3]), ([14, 0, 1, 2, 3, 4, 5, 6, 7, 8, 9, 10, 11, 12, 13], [14]), ([15, 13, 13, 0, 1, 2, 3, 4, 5, 6, 7, 8, 9, 10, 11, 12, 13], [13, 15])])
def parse_parts.B6 : List Nat := [0, 0, 2, 6, 0, 0, 32, 96, 240, 496, 1008, 0, 2048, 8176, 16383, 32767, 65535]
theorem parse_parts.tab6 : rtab .any (opsOf Tryz.f45 6) = parse_parts.T6 := by kernel_rfl
theorem parse_parts.bits6 : waitsOk parse_parts.T6.2 parse_parts.B6 = true := by kernel_rfl
set_option maxRecDepth 1000000 in
theorem parse_parts.k1 {p : Prop} (h : p := by
 first | (simp only [Option.some.injEq, Prod.mk.injEq] at H; obtain ⟨rfl, rfl⟩ := H) | (have H' := am_ H; clear H)
 first
  | (
   have p725 : 0 ≤ (x11_1 : Int) := da_
   have q725 : x11_1 < (l0.length : Int) := da_
   obtain ⟨ad725, e725, hx725_0, hx725_1, hx725_2, hx725_3⟩ := at_T53 HR0.out x11_1 p725 q725
   cases e725
   replace hx725_0 := (HB.out.cell (World.block_lt_of_cell? w _ hx725_0)).trans hx725_0
   replace hx725_1 := (HB.out.cell (World.block_lt_of_cell? w _ hx725_1)).trans hx725_1
   replace hx725_2 := (HB.out.cell (World.block_lt_of_cell? w _ hx725_2)).trans hx725_2
   replace hx725_3 := (HB.out.cell (World.block_lt_of_cell? w _ hx725_3)).trans hx725_3
   replace p725 := eq_true p725
   replace q725 := eq_true q725
   try go_wp2_with (first | ((with_reducible refine gate_dst (N := 6) rfl ?_); refine bx_ (N := 6) (cs := #[.int .i64 0, .string (⟨#[]⟩ : ByteArray), .int .i64 0, .int .i64 0]) (t := 53) ?_; intro gb726 hg w1 hbox hb; have BK726 := am_ hbox; have GW726 := am_ (bg_ hg : w.heap.size ≤ gb726); have GE726 := GW726; replace HO_4 := am_ (Kd.S_below (Kd.S_elderB (ks_ HO_4.out) gb726 (Nat.le_of_eq hg.symm)) hb); replace HB := sb_ hb; clear hb hbox hg; obtain ⟨hcz3_0, hcz3_1, hcz3_2, hcz3_3, hfz3_0, hfz3_1, hfz3_2, hfz3_3⟩ := cz4_ BK726.out; (try ((fail_if_success (first | (have := LMc22))); obtain ⟨Ao4, co4, eo4⟩ := Kd.S_slice HO_4.out; subst eo4))) | ((with_reducible refine gate_builtin (b := .append) (xs := #[.tmp 40, .tmp 45]) rfl ?_); at_builtin; refine Kd.S_append k112 (w0 := w) w.heap.size rfl (.tmp 40) (.tmp 45) 108 112 (.agg #[(.slice none 0 0), (.int .i64 0)]) 32 rfl Tryz.underlying108 info112 rfl (by decide) (by omega) (.slice Ao4 x4_1.length co4) x4_1 (⟨([] : List (S53)), wrap64 (((rd_T53 l0 x11_1).f3) + 1)⟩ : S112) [.slice none 0 0, .int .i64 (wrap64 (((rd_T53 l0 x11_1).f3) + 1))] (fun k_ => k_ ≠ gb726) (fun _ => False) rfl (by first | (go_simp; done) | (go_simp; rfl)) ?aP (fun k_ hk_ => hk_.elim) ?aF ?aO ?aB ?aS ?aL ?_; (case aP => exact k112_mkM _ _ _ (⟨([] : List (S53)), wrap64 (((rd_T53 l0 x11_1).f3) + 1)⟩ : S112) (Kd.R_nil _ _ _ _ _)); (case aB => exact bl_); (case aF => exact (fun k_ hk => Kd.freshB (g := gb726) (o := .cells #[.int .i64 ((rd_T53 l0 x11_1).f0), .string ((rd_T53 l0 x11_1).f1), .int .i64 ((rd_T53 l0 x11_1).f2), .int .i64 ((rd_T53 l0 x11_1).f3)] 53 (0, 0)) (bp_ BK726.out) k_ hk)); (case aO => exact ((Kd.S_mono (sf_ gb726 (Kd.S_mono HO_4.out (fun k_ hk => (⟨hk, hk.2⟩ : _ ∧ k_ ≠ gb726))) (fun _ hk => hk.2)) (fun k_ hk => ⟨hk.1.2, fun e_ => e_⟩)))); (case aS => exact (below_size bl_)); (case aL => have := LMc14.out; omega); intro v728 w7 ho hb hg hat; rw [← Ny727.out] at ho; have HO729 := am_ (ho); replace BK726 := am_ (blk_grown (g := gb726) (o := .cells #[.int .i64 ((rd_T53 l0 x11_1).f0), .string ((rd_T53 l0 x11_1).f1), .int .i64 ((rd_T53 l0 x11_1).f2), .int .i64 ((rd_T53 l0 x11_1).f3)] 53 (0, 0)) (bp_ BK726.out) hg (Kd.S_ne HO_4.out BK726.out (by decide))); replace HB := am_ (hb); clear HO_4; clear ho hb hg hat))
   first
    | (
     refine gz_ 5 ?_
     generalize hq_ : ((((w1.setCell ⟨gb726, 0, none⟩ (.int .i64 ((rd_T53 l0 x11_1).f0))).setCell ⟨gb726, 1, none⟩ (.string ((rd_T53 l0 x11_1).f1))).setCell ⟨gb726, 2, none⟩ (.int .i64 ((rd_T53 l0 x11_1).f2))).setCell ⟨gb726, 3, none⟩ (.int .i64 ((rd_T53 l0 x11_1).f3))) = w5
     replace HO_4 := (⟨by subst hq_; exact Kd.S_mono (sf_ gb726 (Kd.S_mono HO_4.out (fun k_ hk => (⟨hk, hk.2⟩ : _ ∧ k_ ≠ gb726))) (fun _ hk => hk.2)) (fun _ hk => hk.1.2)⟩ : Aside0 (Kd.S k112 112 w5 w.heap.size (fun k_ => k_ ≠ gb726) (.slice Ao4 x4_1.length co4) x4_1))
     replace BK726 := (⟨by subst hq_; exact bp_ BK726.out⟩ : Aside0 (w5.heap[gb726]? = some (.cells #[.int .i64 ((rd_T53 l0 x11_1).f0), .string ((rd_T53 l0 x11_1).f1), .int .i64 ((rd_T53 l0 x11_1).f2), .int .i64 ((rd_T53 l0 x11_1).f3)] 53 (0, 0))))
     replace HB := (⟨by subst hq_; exact bl_⟩ : Aside0 (Below w.heap.size w w5))
     clear hq_
     replace HO_4 := am_ (Kd.S_drew HO_4.out)
     replace BK726 := am_ (blk_drew BK726.out)
     replace HB := am_ (below_drew1 HB.out)
     refine sw_ (n := 5) (S := fun w' => w'.cell? ⟨gb726, 0, none⟩ = some (.int .i64 ((rd_T53 l0 x11_1).f0)) ∧ w'.cell? ⟨gb726, 1, none⟩ = some (.string ((rd_T53 l0 x11_1).f1)) ∧ w'.cell? ⟨gb726, 2, none⟩ = some (.int .i64 ((rd_T53 l0 x11_1).f2)) ∧ w'.cell? ⟨gb726, 3, none⟩ = some (.int .i64 ((rd_T53 l0 x11_1).f3))) (ds := []) ⟨(blk_cell BK726.out 0).trans rfl, (blk_cell BK726.out 1).trans rfl, (blk_cell BK726.out 2).trans rfl, (blk_cell BK726.out 3).trans rfl⟩ (fun hHeld => ?_)
     generalize w5.drew = w6 at HO_4 BK726 HB hHeld ⊢
     refine pw_ 0 (some 37) ?_
     refine pw_ 1 (some 38) ?_
     refine pw_ 3 (some 2) ?_
     refine tw_ 2 (some 39) hHeld ?_
     refine pw_ 4 (some 3) ?_
     refine done_ (by kernel_rfl) ?_
     try go_wp2
     go_ret2
     exact ⟨_, er_, ks_ (Kd.S_mono HO_4.out (fun _ hk => trivial)), bl_⟩)
    | (
     go_roundg k1
     case measure => have := HK1.out; omega
     case rel => exact ⟨(y727), (wrap64 (x11_1 + 1)), sr_, H', ⟨by have := HK1.out; omega⟩, ⟨ks_ (Kd.S_mono HO729.out (fun _ hk => trivial))⟩, ⟨bl_⟩⟩)
    | (
     refine gz_ 17 ?_
     generalize hq_ : ((((w1.setCell ⟨gb726, 0, none⟩ (.int .i64 ((rd_T53 l0 x11_1).f0))).setCell ⟨gb726, 1, none⟩ (.string ((rd_T53 l0 x11_1).f1))).setCell ⟨gb726, 2, none⟩ (.int .i64 ((rd_T53 l0 x11_1).f2))).setCell ⟨gb726, 3, none⟩ (.int .i64 ((rd_T53 l0 x11_1).f3))) = w5
     replace HO_4 := (⟨by subst hq_; exact Kd.S_mono (sf_ gb726 (Kd.S_mono HO_4.out (fun k_ hk => (⟨hk, hk.2⟩ : _ ∧ k_ ≠ gb726))) (fun _ hk => hk.2)) (fun _ hk => hk.1.2)⟩ : Aside0 (Kd.S k112 112 w5 w.heap.size (fun k_ => k_ ≠ gb726) u4 x4_1))
     replace BK726 := (⟨by subst hq_; exact bp_ BK726.out⟩ : Aside0 (w5.heap[gb726]? = some (.cells #[.int .i64 ((rd_T53 l0 x11_1).f0), .string ((rd_T53 l0 x11_1).f1), .int .i64 ((rd_T53 l0 x11_1).f2), .int .i64 ((rd_T53 l0 x11_1).f3)] 53 (0, 0))))
     replace HB := (⟨by subst hq_; exact bl_⟩ : Aside0 (Below w.heap.size w w5))
     clear hq_
     replace HO_4 := am_ (Kd.S_drew HO_4.out)
     replace BK726 := am_ (blk_drew BK726.out)
     replace HB := am_ (below_drew1 HB.out)
     obtain ⟨Ao4, co4, eo4⟩ := Kd.S_slice HO_4.out
     (first | subst eo4 | (injection eo4 with f1_ f2_ f3_; have f4_ := f1_.symm; have f5_ := f3_.symm; clear f1_ f2_ f3_; subst f4_; subst f5_))
     have p730 : 0 ≤ ((ji19) : Int) := da_
     have q730 : (ji19) < (x4_1.length : Int) := da_
     obtain ⟨ad730, A730_0, c730_0, e730, hx730_0, hx730_1, hl730_0, hi730_0⟩ := at_T112 (Kd.S_reads' HO_4.out).2.2 (ji19) p730 q730
     cases e730
     obtain ⟨ce730, hce730, hMe730, hcc730⟩ := Kd.S_get HO_4.out z112 (ji19) p730 (by first | exact q730 | exact da_ | (have e_ := (Kd.S_reads' HO_4.out).1; omega))
     obtain ⟨ve730_0, rfl, ge730_0⟩ := k112_openM hMe730
     have hv8_0 := hcc730 0 _ rfl
     rw [Nat.add_zero] at hv8_0
     replace hv8_0 := Option.some.inj (hv8_0.symm.trans hx730_0)
     rw [hv8_0] at ge730_0
     have HL730_0 := am_ (show Kd.R k53 53 _ _ _ _ ((rd_T112 x4_1 (ji19)).f0) from ge730_0)
     clear hv8_0 ge730_0
     have HX730_0 := am_ hx730_0
     clear hcc730 hce730
     have HR730_0 := am_ hi730_0
     have HC730_0 := am_ hl730_0
     clear hi730_0 hl730_0
     replace p730 := eq_true p730
     replace q730 := eq_true q730
     obtain ⟨go29, co9, eo9, gb29, gl29, cl29, HG29⟩ := Kd.S_form HO_4.out (by have h_ : ((ji19) : Int) < ((x4_1.length : Int) : Int) := da_; have h2_ : 0 ≤ ((ji19) : Int) := (da_); omega)
     (first | cases eo9 | (injection eo9 with ea_ en_ ec_; (first | subst ea_ | (injection ea_ with ea_; subst ea_)); subst ec_; clear en_))
     have GB29 := am_ gb29
     have GG29 := am_ HG29
     clear gb29 gl29 HG29
     (first | simp only [add_plain] at hx730_0 | skip)
     (first | simp only [add_plain] at hx730_1 | skip)
     obtain ⟨oki29, ce29, hcl29, hM29, hcc29, _, _, hH29⟩ := Kd.S_elem HO_4.out z112 ((ji19) : Int) (da_) (by have h_ : ((ji19) : Int) < ((x4_1.length : Int) : Int) := da_; first | exact h_ | (have e_ := (Kd.S_reads' HO_4.out).1; omega) | simpa using h_)
     obtain ⟨ve29_0, rfl, ge29_0⟩ := k112_openM hM29
     have hv9 := hcc29 0 _ rfl
     have hX29 := HX730_0.out
     (try simp only [add_plain] at hX29)
     (try simp only [Nat.add_zero] at hv9)
     replace hv9 := Option.some.inj (hv9.symm.trans hX29)
     subst hv9
     clear hX29 hcc29 hcl29
     have UU29 := am_ (show Kd.R k53 53 _ w.heap.size oki29 (.slice A730_0 ((rd_T112 x4_1 (ji19)).f0).length c730_0) ((rd_T112 x4_1 (ji19)).f0) from ge29_0)
     have HH29 := am_ hH29
     have HN29 := am_ (Kd.S_reads' HO_4.out).1
     clear hH29 ge29_0
     refine sw_ (n := 17) (S := fun w' => w'.cell? ⟨gb726, 0, none⟩ = some (.int .i64 ((rd_T53 l0 x11_1).f0)) ∧ w'.cell? ⟨gb726, 1, none⟩ = some (.string ((rd_T53 l0 x11_1).f1)) ∧ w'.cell? ⟨gb726, 2, none⟩ = some (.int .i64 ((rd_T53 l0 x11_1).f2)) ∧ w'.cell? ⟨gb726, 3, none⟩ = some (.int .i64 ((rd_T53 l0 x11_1).f3)) ∧ w'.cell? ⟨go29, ((ji19)).toNat * 2, none⟩ = some (.slice A730_0 ((rd_T112 x4_1 (ji19)).f0).length c730_0) ∧ w'.cell? ⟨go29, ((ji19)).toNat * 2 + 1, none⟩ = some (.int .i64 ((rd_T112 x4_1 (ji19)).f1))) (ds := [16]) ⟨(blk_cell BK726.out 0).trans rfl, (blk_cell BK726.out 1).trans rfl, (blk_cell BK726.out 2).trans rfl, (blk_cell BK726.out 3).trans rfl, hx730_0, hx730_1⟩ (fun hHeld => ?_); refine with_tabW parse_parts.tab6 parse_parts.bits6 (fun HT_ HW_ => ?_)
     generalize w5.drew = w10 at HO_4 BK726 HB GG29 HH29 HL730_0 HR730_0 HX730_0 UU29 hx730_0 hx730_1 hHeld ⊢
     refine pw_ 0 (some 18) ?_
     refine pw_ 1 (some 19) ?_
     refine pw_ 2 (some 20) ?_
     refine pw_ 3 (some 21) ?_
     refine pw_ 4 (some 22) ?_
     refine pw_ 5 (some 23) ?_
     refine pw_ 6 (some 24) ?_
     refine pw_ 7 (some 25) ?_
     refine pw_ 8 (some 26) ?_
     refine pw_ 9 (some 27) ?_
     refine tw_ 10 (some 28) hHeld ?_
     refine tw_ 11 (some 29) hHeld ?_
     refine ow_ 12 (some 30) (fun K hK => ?_)
     refine value_ (w1 := ?_) (v := ?_) (by rfl) rfl ?_ ?_
     rotate_left 2
     ·
      go_simp
      constructor
      ·
       rfl
      ·
       rfl
     refine hK.out _ _ ⟨(blk_cell (blk_alloc BK726.out _) 0).trans rfl, (blk_cell (blk_alloc BK726.out _) 1).trans rfl, (blk_cell (blk_alloc BK726.out _) 2).trans rfl, (blk_cell (blk_alloc BK726.out _) 3).trans rfl, (World.cell?_alloc_lt _ _ _ (World.block_lt_of_cell? _ _ (hHeld.2.2.2.2.1))).trans (hHeld.2.2.2.2.1), (World.cell?_alloc_lt _ _ _ (World.block_lt_of_cell? _ _ (hHeld.2.2.2.2.2))).trans (hHeld.2.2.2.2.2)⟩ (fun hHeld => ?_)
     clear hK K
     refine norm_ (a' := ?_) ?_ ?_
     rotate_left
     ·
      show Act.put _ (some 30) _ = _
      simp only [Act.put, List.setIfInBounds_toArray, List.set_cons_zero, List.set_cons_succ, i64_w, i32_w]
      rfl
     refine ow_ 13 (some 31) (fun K hK => ?_)
     refine Kd.R_append_step k53 (w0 := w) w.heap.size (by rfl) (.tmp 28) (.tmp 30) 22 53 (.agg #[(.int .i64 0), (.string ⟨#[]⟩), (.int .i64 0), (.int .i64 0)]) 40 rfl Tryz.underlying22 info53 rfl (by decide) (by omega) (.slice A730_0 ((rd_T112 x4_1 (ji19)).f0).length c730_0) ((rd_T112 x4_1 (ji19)).f0) (⟨(rd_T53 l0 x11_1).f0, (rd_T53 l0 x11_1).f1, (rd_T53 l0 x11_1).f2, (rd_T53 l0 x11_1).f3⟩ : S53) [.int .i64 ((rd_T53 l0 x11_1).f0), .string ((rd_T53 l0 x11_1).f1), .int .i64 ((rd_T53 l0 x11_1).f2), .int .i64 ((rd_T53 l0 x11_1).f3)] (fun k_ => oki29 k_ ∨ ((fun k_ => k_ ≠ gb726)) k_ ∧ w10.heap.size ≤ k_) (fun _ => False) rfl rfl ?aP (fun _ hk => hk.elim) ?aF ?aO ?aB ?aS ?aL ?_
     (case aP => exact k53_mkM _ _ _ (⟨(rd_T53 l0 x11_1).f0, (rd_T53 l0 x11_1).f1, (rd_T53 l0 x11_1).f2, (rd_T53 l0 x11_1).f3⟩ : S53))
     (case aB => exact bl_)
     (case aF => exact (fun k_ hk => .inr ⟨Kd.freshB (g := gb726) (o := .cells #[.int .i64 ((rd_T53 l0 x11_1).f0), .string ((rd_T53 l0 x11_1).f1), .int .i64 ((rd_T53 l0 x11_1).f2), .int .i64 ((rd_T53 l0 x11_1).f3)] 53 (0, 0)) (bk_ BK726.out) k_ hk, hk⟩))
     (case aO => exact (kr_ (Kd.R_mono UU29.out (fun _ hk => .inl hk))))
     (case aS => exact (below_size bl_))
     (case aL => have := LMc22.out; omega)
     intro v732 w11 ho hb hg hat
     (first | have HS4_ := cell_grown hg (hHeld.2.2.2.2.1) (by first | (rw [add_block]; exact (fun e_ => ((HL730_0.out.1 _ e_.symm).2) rfl)) | (show some (Addr.add _ _).block ≠ _; rw [add_block]; exact (fun e_ => ((HL730_0.out.1 _ e_.symm).2) rfl)) | exact (fun e_ => ((HL730_0.out.1 _ e_.symm).2) rfl)) | have HS4_ := cell_grown hg (cell_unalloc (hHeld.2.2.2.2.1) (by first | (rw [add_block]; exact Kd.S_lt HO_4.out _ rfl) | (show (Addr.add _ _).block < _; rw [add_block]; exact Kd.S_lt HO_4.out _ rfl) | exact Kd.S_lt HO_4.out _ rfl)) (by first | (rw [add_block]; exact (fun e_ => ((HL730_0.out.1 _ e_.symm).2) rfl)) | (show some (Addr.add _ _).block ≠ _; rw [add_block]; exact (fun e_ => ((HL730_0.out.1 _ e_.symm).2) rfl)) | exact (fun e_ => ((HL730_0.out.1 _ e_.symm).2) rfl)))
     (first | have HS5_ := cell_grown hg (hHeld.2.2.2.2.2) (by first | (rw [add_block]; exact (fun e_ => ((HL730_0.out.1 _ e_.symm).2) rfl)) | (show some (Addr.add _ _).block ≠ _; rw [add_block]; exact (fun e_ => ((HL730_0.out.1 _ e_.symm).2) rfl)) | exact (fun e_ => ((HL730_0.out.1 _ e_.symm).2) rfl)) | have HS5_ := cell_grown hg (cell_unalloc (hHeld.2.2.2.2.2) (by first | (rw [add_block]; exact Kd.S_lt HO_4.out _ rfl) | (show (Addr.add _ _).block < _; rw [add_block]; exact Kd.S_lt HO_4.out _ rfl) | exact Kd.S_lt HO_4.out _ rfl)) (by first | (rw [add_block]; exact (fun e_ => ((HL730_0.out.1 _ e_.symm).2) rfl)) | (show some (Addr.add _ _).block ≠ _; rw [add_block]; exact (fun e_ => ((HL730_0.out.1 _ e_.symm).2) rfl)) | exact (fun e_ => ((HL730_0.out.1 _ e_.symm).2) rfl)))
     rw [← Ny731.out] at ho
     have HO733 := am_ (ho)
     replace BK726 := am_ (blk_grown (g := gb726) (o := .cells #[.int .i64 ((rd_T53 l0 x11_1).f0), .string ((rd_T53 l0 x11_1).f1), .int .i64 ((rd_T53 l0 x11_1).f2), .int .i64 ((rd_T53 l0 x11_1).f3)] 53 (0, 0)) (bk_ BK726.out) hg (Kd.R_away HL730_0.out (fun _ hk => hk.1)))
     replace HH29 := am_ (Kd.H_grown (Kd.H_widen (by repeat (first | exact HH29.out | refine Kd.H_alloc ?_ _ | refine Kd.H_drewN ?_ _ | refine Kd.H_drew ?_))) hg (fun k_ e_ => .inl (UU29.out.1 k_ e_)))
     replace HB := am_ (hb)
     clear HO_4 UU29 HL730_0
     clear ho hb hg hat
     have p23 : 0 ≤ ((ji19) : Int) := da_
     have q23 : ((ji19) : Int) < ((x4_1.length : Int) : Int) := da_
     replace p23 := eq_true p23
     replace q23 := eq_true q23
     obtain ⟨Ao12, co12, eo12⟩ := Kd.R_slice HO733.out
     (first | subst eo12 | (injection eo12 with f1_ f2_ f3_; have f4_ := f1_.symm; have f5_ := f3_.symm; clear f1_ f2_ f3_; subst f4_; subst f5_))
     obtain ⟨_, _, hraw31, _, _, hcc31, _⟩ := Kd.H_raw HH29.out (da_) (by have h_ : ((ji19) : Int) < ((x4_1.length : Int) : Int) := da_; first | exact h_ | (have e_ := (HN29.out); omega) | simpa using h_)
     obtain ⟨_, hfr31⟩ := Kd.H_at HH29.out (da_) (by have h_ : ((ji19) : Int) < ((x4_1.length : Int) : Int) := da_; first | exact h_ | (have e_ := (HN29.out); omega) | simpa using h_)
     have hx31_0 := hcc31 0 _ rfl
     have hf31_0 := hfr31 0
     (try simp only [Nat.add_zero] at hx31_0 hf31_0)
     (try rw [show (k112).sz = 2 from rfl] at hx31_0)
     (try rw [show (k112).sz = 2 from rfl] at hf31_0)
     have HP31 := Kd.S_seg0 HH29.out (da_) (by have h_ : ((ji19) : Int) < ((x4_1.length : Int) : Int) := da_; first | exact h_ | (have e_ := (HN29.out); omega) | simpa using h_) (seg := [.slice Ao12 y731.length co12]) (j := 0) (show 1 ≤ 2 from by decide) (x' := (⟨y731, (rd_T112 x4_1 (ji19)).f1⟩ : S112)) (k112_mkM _ _ _ (⟨y731, (rd_T112 x4_1 (ji19)).f1⟩ : S112) HO733.out) (fun _ hk => hk)
     clear hcc31 hfr31
     have HNB726_go29 := am_ (show gb726 ≠ go29 from by have h_ := Kd.R_ne hraw31 BK726.out (by decide); intro e_; exact h_ (by rw [e_]; rfl))
     have HS31 := HP31.1
     rw [← Ny734.out] at HS31
     have HQ31 := am_ HS31
     obtain ⟨_, hgg31⟩ := Kd.R_typed hraw31 go29 rfl
     have GG31_ := am_ hgg31
     clear HP31 HS31 hgg31
     refine hK.out _ _ ⟨(blk_cell BK726.out 0).trans rfl, (blk_cell BK726.out 1).trans rfl, (blk_cell BK726.out 2).trans rfl, (blk_cell BK726.out 3).trans rfl, HS4_, HS5_⟩ (fun hHeld => ?_)
     clear hK K
     refine norm_ (a' := ?_) ?_ ?_
     rotate_left
     ·
      show Act.put _ (some 31) _ = _
      simp only [Act.put, List.setIfInBounds_toArray, List.set_cons_zero, List.set_cons_succ, i64_w, i32_w]
      rfl
     refine pw_ 14 (some 32) ?_
     refine pw_ 15 (some 33) ?_
     refine last_ (i := 16) (N := none) #[true, true, true, true, true, true, true, true, true, true, true, true, true, true, true, true, true] rfl rfl (one_of HT_.out (by kernel_rfl)) (by decide) (fun K hK => ?_)
     refine skip_ (w1 := ?_) (by rfl) rfl ?_ ?_
     rotate_left
     ·
      go_simp
      rfl
     refine hK.out _ _ ?_
     clear hK K
     refine done_ (done_of HT_.out (by kernel_rfl)) ?_
     try go_wp2
     go_roundg k1
     case measure => have := HK1.out; omega
     case rel => exact ⟨(y734), (wrap64 (x11_1 + 1)), sr_, H', ⟨by have := HK1.out; omega⟩, ⟨ks_ (Kd.S_mono HQ31.out (fun _ hk => trivial))⟩, ⟨by repeat (first | (with_reducible first | exact HB.out | apply below_alloc | apply pw_below_drewN | apply below_drew1 | refine below_set ?_ GB29.out | refine below_set ?_ GE726.out) | exact HB.out)⟩⟩))
  | (
   go_wp2
   go_ret2
   exact ⟨_, er_, ks_ HO_4.out, bl_⟩)) : p := h
set_option maxHeartbeats 8000000 in
set_option maxRecDepth 100000 in
theorem parse_parts.calls (k : Nat) (A0 : Option Addr) (c0 : Nat) (l0 : List (S53)) (r1 : List (S112)) (r2 : Int) (w : World) (hr0 : Kd.C k53 w A0 l0.length l0) (hc0 : l0.length ≤ c0) (h : parse_parts.f k l0 = some (r1, r2)) :
 Calls Tryz.prog 45 #[.slice A0 l0.length c0] w fun e w' => ∃ v0_ : Value, e = .returned (.tuple #[v0_, .int .i64 r2]) ∧ Kd.S k112 112 w' w.heap.size (fun _ => True) v0_ r1 ∧ Below w.heap.size w w' := by
 have hu112 := Tryz.underlying112
 have hu53 := Tryz.underlying53
 have HR0 := am_ hr0
 have HC0 := am_ hc0
 clear hr0 hc0
 have HB := am_ (Below.refl w.heap.size w)
 have H : (parse_parts.l0 k (([(⟨([] : List (S53)), 0⟩ : S112)] : List (S112))) l0 (l0.length : Int) 0) = some (r1, r2) := h
 clear h
 obtain ⟨y722, hy722⟩ : ∃ y_ : List (S112), y_ = (([(⟨([] : List (S53)), 0⟩ : S112)] : List (S112))) := ⟨_, rfl⟩
 replace H : (parse_parts.l0 k y722 l0 (l0.length : Int) 0) = some (r1, r2) := by first | (rw [hy722]; with_reducible exact H) | (have H2_ := (Option.bind_some _ _).symm.trans H; rw [hy722]; with_reducible exact H2_) | (have H2_ := (Option.bind_some _ _).symm.trans H; with_reducible exact H2_) | with_reducible exact H | (rw [hy722]; exact H) | exact H
 have Ny722 := am_ hy722
 clear hy722
 have H' := am_ H
 clear H
 go_enter Tryz.func45, Tryz.ntmps45
 go_wp2_with (first | ((with_reducible refine gate_dst (N := 8) rfl ?_); refine Kd.S_lit k112 _ 112 ?hg (N := 8) ?hd (xs := ([(⟨([] : List (S53)), 0⟩ : S112)] : List (S112))) (inner := [.slice none 0 0, .int .i64 0]) (ok := fun _ => True) (okp := fun _ => True) ?hr ?hp (fun _ hk => hk) trivial (Below.refl _ _) (Nat.le_refl _) (by simp) ?_; (case hd => rfl); (case hg => rfl); (case hr => first | (go_simp; done) | (go_simp; rfl)); (case hp => exact (Reps.c2 (show Kd.M k112 _ _ _ (⟨([] : List (S53)), 0⟩ : S112) [.slice none 0 0, .int .i64 0] from (k112_mkM _ _ _ (⟨([] : List (S53)), 0⟩ : S112) (Kd.R_nil _ _ _ _ _))) (Reps.none _ _))); intro v723 w2 ho3 hb hg_ hnew_; clear hg_ hnew_; (first | rw [← Ny722.out] at ho3 | (simp only [Int.reduceToNat] at ho3; rw [← Ny722.out] at ho3)); have HO724 := am_ (Kd.S_lower ho3 (below_size bl_)); replace HB := sb_ hb; clear hb ho3))
 go_loopg [4, 11] k (fun kq v4 v11 w' => ∃ (x4_1 : List (S112)) (x11_1 : Int), v11 = .int .i64 x11_1 ∧ Aside0 (parse_parts.l0 kq x4_1 l0 (l0.length : Int) x11_1 = some (r1, r2)) ∧ Aside0 (kq ≤ k) ∧ Aside0 (Kd.S k112 112 w' w.heap.size (fun _ => True) v4 x4_1) ∧ Aside0 (Below w.heap.size w w'))
 case atStart => exact ⟨(y722), (0), sr_, H', ⟨Nat.le_refl _⟩, ⟨ks_ HO724.out⟩, ⟨bl_⟩⟩
 case round =>
  clear H'
  try clear c2
  try clear p2
  obtain ⟨x4_1, x11_1, rfl, HA, HK1, HO_4, HB⟩ := hrel
  cases gk with
  | zero => exact absurd HA.out (by simp [parse_parts.l0])
  | succ k1 =>
   have H := HA.out
   clear HA
   simp only [parse_parts.l0] at H
   replace H := il_ H
   rcases H with ⟨-, c4b0, H⟩ | ⟨-, c4b0, H⟩
   ·
    replace H := ixl_ H
    obtain ⟨-, c5b0, H⟩ := H
    replace H := ixl_ H
    obtain ⟨-, c6b0, H⟩ := H
    replace H := ie_ H
    rcases H with ⟨-, c7b0, c7b1, H⟩ | ⟨c7, c7b0, c7b1, H⟩
    ·
     replace H := ie_ H
     rcases H with ⟨-, c8b0, c8b1, H⟩ | ⟨c8, c8b0, c8b1, H⟩
     ·
      exact parse_parts.k1
     ·
      replace H := ixl_ H
      obtain ⟨c14, -, H⟩ := H
      have LMc14 := am_ c14
      clear c14
      obtain ⟨y727, hy727⟩ : ∃ y_ : List (S112), y_ = (x4_1 ++ [(⟨([] : List (S53)), wrap64 (((rd_T53 l0 x11_1).f3) + 1)⟩ : S112)]) := ⟨_, rfl⟩
      replace H : (parse_parts.l0 k1 y727 l0 (l0.length : Int) (wrap64 (x11_1 + 1))) = some (r1, r2) := by first | (rw [hy727]; with_reducible exact H) | (have H2_ := (Option.bind_some _ _).symm.trans H; rw [hy727]; with_reducible exact H2_) | (have H2_ := (Option.bind_some _ _).symm.trans H; with_reducible exact H2_) | with_reducible exact H | (rw [hy727]; exact H) | exact H
      have Ny727 := am_ hy727
      clear hy727
      exact parse_parts.k1
    ·
     obtain ⟨ji19, hji19⟩ : ∃ j_ : Int, (wrap64 ((x4_1.length : Int) - 1)) = j_ := ⟨_, rfl⟩
     replace H : (if 0 ≤ (ji19) then (if (ji19) < (x4_1.length : Int) then (if ((rd_T112 x4_1 (ji19)).f0).length < 3518437208883 then (parse_parts.l0 k1 (x4_1.set ((ji19) : Int).toNat (⟨(((rd_T112 x4_1 (ji19)).f0) ++ [(⟨(rd_T53 l0 x11_1).f0, (rd_T53 l0 x11_1).f1, (rd_T53 l0 x11_1).f2, (rd_T53 l0 x11_1).f3⟩ : S53)]), (rd_T112 x4_1 (ji19)).f1⟩ : S112)) l0 (l0.length : Int) (wrap64 (x11_1 + 1))) else (none)) else (none)) else (none)) = some (r1, r2) := by first | (rw [hji19] at H; exact H) | (simp only [hji19] at H ⊢; exact H)
     have hji19w : (IntKind.i64.wrap ((x4_1.length : Int) - 1)) = ji19 := (i64_w _).trans hji19
     replace H := ixl_ H
     obtain ⟨-, c20b0, H⟩ := H
     replace H := ixl_ H
     obtain ⟨-, c21b0, H⟩ := H
     replace H := ixl_ H
     obtain ⟨c22, -, H⟩ := H
     have LMc22 := am_ c22
     clear c22
     obtain ⟨y731, hy731⟩ : ∃ y_ : List (S53), y_ = (((rd_T112 x4_1 (ji19)).f0) ++ [(⟨(rd_T53 l0 x11_1).f0, (rd_T53 l0 x11_1).f1, (rd_T53 l0 x11_1).f2, (rd_T53 l0 x11_1).f3⟩ : S53)]) := ⟨_, rfl⟩
     replace H : (parse_parts.l0 k1 (x4_1.set ((ji19) : Int).toNat (⟨y731, (rd_T112 x4_1 (ji19)).f1⟩ : S112)) l0 (l0.length : Int) (wrap64 (x11_1 + 1))) = some (r1, r2) := by first | (rw [hy731]; with_reducible exact H) | (have H2_ := (Option.bind_some _ _).symm.trans H; rw [hy731]; with_reducible exact H2_) | (have H2_ := (Option.bind_some _ _).symm.trans H; with_reducible exact H2_) | with_reducible exact H | (rw [hy731]; exact H) | exact H
     have Ny731 := am_ hy731
     clear hy731
     obtain ⟨y734, hy734⟩ : ∃ y_ : List (S112), y_ = (x4_1.set ((ji19) : Int).toNat (⟨y731, (rd_T112 x4_1 (ji19)).f1⟩ : S112)) := ⟨_, rfl⟩
     replace H : (parse_parts.l0 k1 y734 l0 (l0.length : Int) (wrap64 (x11_1 + 1))) = some (r1, r2) := by first | (rw [hy734]; with_reducible exact H) | (have H2_ := (Option.bind_some _ _).symm.trans H; rw [hy734]; with_reducible exact H2_) | (have H2_ := (Option.bind_some _ _).symm.trans H; with_reducible exact H2_) | with_reducible exact H | (rw [hy734]; exact H) | exact H
     have Ny734 := am_ hy734
     clear hy734
     exact parse_parts.k1
   ·
    exact parse_parts.k1


def item_Sort_92.l0 : Nat → List Int → Int → Int → Int → Option (Int)
 | 0, _, _, _, _ => none
 | k + 1, x0, x1, x7, x8 => if x8 < x7 then (if 0 ≤ x8 then (if x8 < (x0.length : Int) then (if x1 = (rd x0 x8) then (some x8) else (item_Sort_92.l0 k x0 x1 x7 (wrap64 (x8 + 1)))) else (none)) else (none)) else (some (-1))
def item_Sort_92.f (k : Nat) (l0 : List Int) (a1 : Int) : Option (Int) := item_Sort_92.l0 k l0 a1 (l0.length : Int) 0
theorem item_Sort_92.mono_l : ∀ k, (∀ y0 y1 y2 y3, LeO (item_Sort_92.l0 k y0 y1 y2 y3) (item_Sort_92.l0 (k + 1) y0 y1 y2 y3))
 | 0 => fun _ _ _ _ r h => by simp [item_Sort_92.l0] at h
 | k + 1 => by
  have ih0 := item_Sort_92.mono_l k
  ·
   intro y0 y1 y2 y3
   unfold item_Sort_92.l0
   repeat' first
   | (with_reducible exact ih0 _ _ _ _)
   | (with_reducible exact LeO.refl _)
   | (with_reducible exact LeO.none _)
   | (with_reducible refine LeO.ite ?_ ?_)
   | (with_reducible refine LeO.bind ?_ (fun _ => ?_))
   | exact ih0 _ _ _ _
   | exact LeO.none _
   | refine LeO.ite ?_ ?_
   | refine LeO.bind ?_ (fun _ => ?_)
theorem item_Sort_92.mono : ∀ a0 a1 k, LeO (item_Sort_92.f k a0 a1) (item_Sort_92.f (k + 1) a0 a1) := by
 intro a0 a1 k
 have ih0 := item_Sort_92.mono_l k
 unfold item_Sort_92.f
 repeat' first | with_reducible first | exact ih0 _ _ _ _ | exact LeO.refl _ | exact LeO.none _ | refine LeO.ite ?_ ?_ | refine LeO.bind ?_ (fun _ => ?_)
set_option maxRecDepth 1000000 in
theorem item_Sort_92.k1 {p : Prop} (h : p := by
 first | (obtain rfl := Option.some.inj H) | (have H' := am_ H; clear H)
 first
  | (
   have p735 : 0 ≤ (x8_1 : Int) := da_
   have q735 : x8_1 < (l0.length : Int) := da_
   obtain ⟨ad735, e735, hx735_0⟩ := Kd.at_int HR0.out x8_1 p735 q735
   cases e735
   replace p735 := eq_true p735
   replace q735 := eq_true q735
   go_wp2
   first
    | (
     go_ret
     exact ⟨by first | rfl | (simp; done) | (simp [*]; done), by repeat (first | exact Drawn0.refl _ | apply Drawn0.step)⟩)
    | (
     go_roundg k1
     case measure => have := HK1.out; omega
     case rel => exact ⟨(wrap64 (x8_1 + 1)), sr_, H', ⟨by have := HK1.out; omega⟩, by repeat (first | exact Drawn0.refl _ | apply Drawn0.step)⟩))
  | (
   go_wp2
   go_ret
   exact ⟨by first | rfl | (simp; done) | (simp [*]; done), by repeat (first | exact Drawn0.refl _ | apply Drawn0.step)⟩)) : p := h
set_option maxHeartbeats 8000000 in
set_option maxRecDepth 100000 in
theorem item_Sort_92.calls (k : Nat) (A0 : Option Addr) (c0 : Nat) (l0 : List Int) (a1 : Int) (r : Int) (w : World) (hr0 : Kd.C (Kd.int .i64) w A0 l0.length l0) (hc0 : l0.length ≤ c0) (h : item_Sort_92.f k l0 a1 = some r) :
 Calls Tryz.prog 92 #[.slice A0 l0.length c0, .int .i64 a1] w fun e w' => e = .returned (.int .i64 r) ∧ Drawn0 w w' := by
 have HR0 := am_ hr0
 have HC0 := am_ hc0
 clear hr0 hc0
 have H : (item_Sort_92.l0 k l0 a1 (l0.length : Int) 0) = some r := h
 clear h
 have H' := am_ H
 clear H
 go_enter Tryz.func92, Tryz.ntmps92
 go_wp2
 go_loopg [8] k (fun kq v8 w' => ∃ (x8_1 : Int), v8 = .int .i64 x8_1 ∧ Aside0 (item_Sort_92.l0 kq l0 a1 (l0.length : Int) x8_1 = some r) ∧ Aside0 (kq ≤ k) ∧ Drawn0 w w')
 case atStart => exact ⟨(0), sr_, H', ⟨Nat.le_refl _⟩, by repeat (first | exact Drawn0.refl _ | apply Drawn0.step)⟩
 case round =>
  clear H'
  try clear p2
  obtain ⟨x8_1, rfl, HA, HK1, ⟨m1, rfl⟩⟩ := hrel
  cases gk with
  | zero => exact absurd HA.out (by simp [item_Sort_92.l0])
  | succ k1 =>
   have H := HA.out
   clear HA
   simp only [item_Sort_92.l0] at H
   replace H := il_ H
   rcases H with ⟨-, c3b0, H⟩ | ⟨-, c3b0, H⟩
   ·
    replace H := ixl_ H
    obtain ⟨-, c4b0, H⟩ := H
    replace H := ixl_ H
    obtain ⟨-, c5b0, H⟩ := H
    replace H := ie_ H
    rcases H with ⟨-, c6b0, c6b1, H⟩ | ⟨c6, c6b0, c6b1, H⟩
    ·
     exact item_Sort_92.k1
    ·
     exact item_Sort_92.k1
   ·
    exact item_Sort_92.k1


def item_Sort_67.f (k : Nat) (l0 : List Int) (a1 : Int) : Option (Bool) := (item_Sort_92.f k l0 a1).bind fun t736 => (some (decide (t736 ≥ 0)))
theorem item_Sort_67.mono : ∀ a0 a1 k, LeO (item_Sort_67.f k a0 a1) (item_Sort_67.f (k + 1) a0 a1) := by
 intro a0 a1 k
 unfold item_Sort_67.f
 repeat' first | with_reducible first | exact item_Sort_92.mono _ _ _ | exact LeO.refl _ | exact LeO.none _ | refine LeO.ite ?_ ?_ | refine LeO.bind ?_ (fun _ => ?_)
set_option maxHeartbeats 8000000 in
set_option maxRecDepth 100000 in
theorem item_Sort_67.calls (k : Nat) (A0 : Option Addr) (c0 : Nat) (l0 : List Int) (a1 : Int) (r : Bool) (w : World) (hr0 : Kd.C (Kd.int .i64) w A0 l0.length l0) (hc0 : l0.length ≤ c0) (h : item_Sort_67.f k l0 a1 = some r) :
 Calls Tryz.prog 67 #[.slice A0 l0.length c0, .int .i64 a1] w fun e w' => e = .returned (.bool r) ∧ Drawn0 w w' := by
 have HR0 := am_ hr0
 have HC0 := am_ hc0
 clear hr0 hc0
 have H : ((item_Sort_92.f k l0 a1).bind fun t736 => (some (decide (t736 ≥ 0)))) = some r := h
 clear h
 replace H := bd_ H
 obtain ⟨t736, A3, H⟩ := H
 obtain rfl := Option.some.inj H
 go_enter Tryz.func67, Tryz.ntmps67
 go_wp2_with (first | ((with_reducible refine gate_callee (f := 92) rfl ?_); refine gc_ (some 7) rfl rfl Tryz.func92 rfl #[.slice A0 l0.length c0, .int .i64 a1] rfl ?_; (with_reducible refine (item_Sort_92.calls _ _ _ _ _ _ _ ?side1 ?side2 A3.out).mono ?_); (case side1 => exact kc_ HR0.out); (case side2 => exact HC0.out); rintro e w' ⟨rfl, ⟨nd, rfl⟩⟩; refine ⟨_, rfl, ?_⟩))
 go_ret
 exact ⟨by first | rfl | (simp; done) | (simp [*]; done), by repeat (first | exact Drawn0.refl _ | apply Drawn0.step)⟩


def parse_may.f (k : Nat) (a0_0 : Int) (a0_1 : Int) (a0_2 : Int) (a0_3 : Bool) (a0_4 : ByteArray) (a0_5 : ByteArray) (l0_6 : List (S55)) (a1 : Int) : Option (Bool) := if a1 ≥ 2 then (if a0_2 = 0 then (if a1 < 3 then (some true) else ((item_Sort_67.f k (([1, 6, 7] : List Int)) a0_0).bind fun t741 => (some t741))) else (some false)) else (if a1 < 3 then (some true) else ((item_Sort_67.f k (([1, 6, 7] : List Int)) a0_0).bind fun t745 => (some t745)))
theorem parse_may.mono : ∀ a0 a1 a2 a3 a4 a5 a6 a7 k, LeO (parse_may.f k a0 a1 a2 a3 a4 a5 a6 a7) (parse_may.f (k + 1) a0 a1 a2 a3 a4 a5 a6 a7) := by
 intro a0 a1 a2 a3 a4 a5 a6 a7 k
 unfold parse_may.f
 repeat' first | with_reducible first | exact item_Sort_67.mono _ _ _ | exact LeO.refl _ | exact LeO.none _ | refine LeO.ite ?_ ?_ | refine LeO.bind ?_ (fun _ => ?_)
set_option maxRecDepth 1000000 in
theorem parse_may.k1 {p : Prop} (h : p := by
 first | (obtain rfl := Option.some.inj H) | (have H' := am_ H; clear H)
 go_enter Tryz.func46, Tryz.ntmps46
 try go_wp2_with (first | ((with_reducible refine gate_dst (N := 2) rfl ?_); (try (refine gate_guard (by rfl) ?_; dsimp only)); refine bx_ (N := 2) (cs := #[.int .i64 a0_0, .int .i64 a0_1, .int .i64 a0_2, .bool a0_3, .string a0_4, .string a0_5, .slice A0_6 l0_6.length c0_6]) (t := 33) ?_; intro gb737 hg w1 hbox hb; have BK737 := am_ hbox; have GW737 := am_ (bg_ hg : w.heap.size ≤ gb737); replace HB := sb_ hb; clear hb hbox hg; (try (obtain ⟨hcz2_0, hcz2_1, hcz2_2, hcz2_3, hcz2_4, hcz2_5, hcz2_6, hfz2_0, hfz2_1, hfz2_2, hfz2_3, hfz2_4, hfz2_5, hfz2_6⟩ := cz7_ BK737.out))) | ((with_reducible refine gate_dst (N := 16) rfl ?_); (try (refine gate_guard (by rfl) ?_; dsimp only)); refine Kd.R_lit (Kd.int .i64) _ 27 ?hg (N := 16) ?hd (xs := ([1, 6, 7] : List Int)) (inner := [.int .i64 1, .int .i64 6, .int .i64 7]) (ok := fun _ => True) (okp := fun _ => True) ?hr ?hp (fun _ hk => hk) trivial (Below.refl _ _) (Nat.le_refl _) (by simp) ?_; (case hd => rfl); (case hg => rfl); (case hr => first | (go_simp; done) | (go_simp; rfl)); (case hp => exact (Reps.one (show Kd.M (Kd.int .i64) _ _ _ 1 [.int .i64 1] from rfl) (Reps.one (show Kd.M (Kd.int .i64) _ _ _ 6 [.int .i64 6] from rfl) (Reps.one (show Kd.M (Kd.int .i64) _ _ _ 7 [.int .i64 7] from rfl) (Reps.none _ _))))); (try (have g_ := A8; clear g_; intro v739 w3 ho12 hb hg_ hnew_; clear hg_ hnew_; (first | rw [← Ny738.out] at ho12 | (simp only [Int.reduceToNat] at ho12; rw [← Ny738.out] at ho12)); have HO740 := am_ (Kd.R_lower ho12 (below_size bl_)); replace BK737 := bb_ BK737 hb; replace HB := sb_ hb; clear hb ho12; obtain ⟨hcz2_0, hcz2_1, hcz2_2, hcz2_3, hcz2_4, hcz2_5, hcz2_6, hfz2_0, hfz2_1, hfz2_2, hfz2_3, hfz2_4, hfz2_5, hfz2_6⟩ := cz7_ BK737.out; obtain ⟨Ao4, co4, eo4⟩ := Kd.R_slice HO740.out; subst eo4)); (try (have g_ := A19; clear g_; intro v743 w5 ho22 hb hg_ hnew_; clear hg_ hnew_; (first | rw [← Ny742.out] at ho22 | (simp only [Int.reduceToNat] at ho22; rw [← Ny742.out] at ho22)); have HO744 := am_ (Kd.R_lower ho22 (below_size bl_)); replace BK737 := bb_ BK737 hb; replace HB := sb_ hb; clear hb ho22; obtain ⟨hcz2_0, hcz2_1, hcz2_2, hcz2_3, hcz2_4, hcz2_5, hcz2_6, hfz2_0, hfz2_1, hfz2_2, hfz2_3, hfz2_4, hfz2_5, hfz2_6⟩ := cz7_ BK737.out; obtain ⟨Ao6, co6, eo6⟩ := Kd.R_slice HO744.out; subst eo6))) | (go_at_call 67; (try ((with_reducible refine (item_Sort_67.calls _ _ _ _ _ _ _ ?side1 ?side2 A19.out).mono ?_); (case side1 => exact kc_ (Kd.R_reads' HO744.out).2.2); (case side2 => exact (Kd.R_reads' HO744.out).2.1); rintro e w' ⟨rfl, ⟨nd, rfl⟩⟩)); (try ((with_reducible refine (item_Sort_67.calls _ _ _ _ _ _ _ ?side1 ?side2 A8.out).mono ?_); (case side1 => exact kc_ (Kd.R_reads' HO740.out).2.2); (case side2 => exact (Kd.R_reads' HO740.out).2.1); rintro e w' ⟨rfl, ⟨nd, rfl⟩⟩))))
 go_ret
 exact ⟨er_, bl_⟩) : p := h
set_option maxHeartbeats 8000000 in
set_option maxRecDepth 100000 in
theorem parse_may.calls (k : Nat) (a0_0 : Int) (a0_1 : Int) (a0_2 : Int) (a0_3 : Bool) (a0_4 : ByteArray) (a0_5 : ByteArray) (A0_6 : Option Addr) (c0_6 : Nat) (l0_6 : List (S55)) (a1 : Int) (r : Bool) (w : World) (hr0_6 : Kd.C k55 w A0_6 l0_6.length l0_6) (hc0_6 : l0_6.length ≤ c0_6) (h : parse_may.f k a0_0 a0_1 a0_2 a0_3 a0_4 a0_5 l0_6 a1 = some r) :
 Calls Tryz.prog 46 #[.agg #[.int .i64 a0_0, .int .i64 a0_1, .int .i64 a0_2, .bool a0_3, .string a0_4, .string a0_5, .slice A0_6 l0_6.length c0_6], .int .i64 a1] w fun e w' => e = .returned (.bool r) ∧ Below w.heap.size w w' := by
 have hu33 := Tryz.underlying33
 have HR0_6 := am_ hr0_6
 have HC0_6 := am_ hc0_6
 clear hr0_6 hc0_6
 have HB := am_ (Below.refl w.heap.size w)
 have H : (if a1 ≥ 2 then (if a0_2 = 0 then (if a1 < 3 then (some true) else ((item_Sort_67.f k (([1, 6, 7] : List Int)) a0_0).bind fun t741 => (some t741))) else (some false)) else (if a1 < 3 then (some true) else ((item_Sort_67.f k (([1, 6, 7] : List Int)) a0_0).bind fun t745 => (some t745)))) = some r := h
 clear h
 replace H := il_ H
 rcases H with ⟨-, c3b0, H⟩ | ⟨-, c3b0, H⟩
 ·
  replace H := ie_ H
  rcases H with ⟨-, c4b0, c4b1, H⟩ | ⟨c4, c4b0, c4b1, H⟩
  ·
   replace H := il_ H
   rcases H with ⟨-, c5b0, H⟩ | ⟨-, c5b0, H⟩
   ·
    exact parse_may.k1
   ·
    obtain ⟨y738, hy738⟩ : ∃ y_ : List Int, y_ = (([1, 6, 7] : List Int)) := ⟨_, rfl⟩
    replace H : ((item_Sort_67.f k y738 a0_0).bind fun t741 => (some t741)) = some r := by first | (rw [hy738]; with_reducible exact H) | (have H2_ := (Option.bind_some _ _).symm.trans H; rw [hy738]; with_reducible exact H2_) | (have H2_ := (Option.bind_some _ _).symm.trans H; with_reducible exact H2_) | with_reducible exact H | (rw [hy738]; exact H) | exact H
    have Ny738 := am_ hy738
    clear hy738
    replace H := bd_ H
    obtain ⟨t741, A8, H⟩ := H
    exact parse_may.k1
  ·
   exact parse_may.k1
 ·
  replace H := il_ H
  rcases H with ⟨-, c17b0, H⟩ | ⟨-, c17b0, H⟩
  ·
   exact parse_may.k1
  ·
   obtain ⟨y742, hy742⟩ : ∃ y_ : List Int, y_ = (([1, 6, 7] : List Int)) := ⟨_, rfl⟩
   replace H : ((item_Sort_67.f k y742 a0_0).bind fun t745 => (some t745)) = some r := by first | (rw [hy742]; with_reducible exact H) | (have H2_ := (Option.bind_some _ _).symm.trans H; rw [hy742]; with_reducible exact H2_) | (have H2_ := (Option.bind_some _ _).symm.trans H; with_reducible exact H2_) | with_reducible exact H | (rw [hy742]; exact H) | exact H
   have Ny742 := am_ hy742
   clear hy742
   replace H := bd_ H
   obtain ⟨t745, A19, H⟩ := H
   exact parse_may.k1

end Go.Proofs.YtiidpicgdjjikaaGreatDoor.P
