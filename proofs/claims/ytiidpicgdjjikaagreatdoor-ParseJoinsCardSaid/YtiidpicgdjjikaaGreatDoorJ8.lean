import Derived.Test.YtiidpicgdjjikaaGreatDoorJ4
import Derived.Test.YtiidpicgdjjikaaGreatDoorJ6
import Derived.Test.YtiidpicgdjjikaaGreatDoorJ7
namespace Go.Proofs.YtiidpicgdjjikaaGreatDoor.P
open Go.RowKit Go.Proofs.YtiidpicgdjjikaaGreatDoor.G Go.Proofs.YtiidpicgdjjikaaGreatDoorW.PrintWords Go.Proofs.YtiidpicgdjjikaaGreatDoorW.PrintLast Go.Proofs.YtiidpicgdjjikaaGreatDoorW.PrintMore
attribute [local go_sem] isSome_setCell_eq max2_int min2_int max_two min_two max_three min_three max_four min_four
set_option linter.unusedVariables false
set_option linter.unusedSimpArgs false

def token_word.f (a0 : ByteArray) (a1 : ByteArray) : Option (Bool) := if (a0.size : Int) ≥ (a1.size : Int) then (if 0 ≤ (a1.size : Int) then (if (a1.size : Int) ≤ (a0.size : Int) then ((strings_EqualFold.f (a0.extract 0 (a1.size)) a1).bind fun t672 => (some t672)) else (none)) else (none)) else (some false)
set_option maxRecDepth 1000000 in
theorem token_word.k1 {p : Prop} (h : p := by
 first | (obtain rfl := Option.some.inj H) | (have H' := am_ H; clear H)
 go_enter Tryz.func114, Tryz.ntmps114
 first
  | (
   try go_wp2_with (first | (go_at_call 130; (with_reducible refine (strings_EqualFold.calls _ _ _ _ A6.out ?side1).mono ?_); (case side1 => exact LW.below HLW.out bl_); rintro e w1 ⟨rfl, hb⟩; replace HB := sb_ hb; clear hb))
   go_ret
   exact ⟨er_, bl_⟩)
  | (
   go_wp2
   go_ret
   exact ⟨er_, bl_⟩)) : p := h
set_option maxHeartbeats 8000000 in
set_option maxRecDepth 100000 in
theorem token_word.calls (a0 : ByteArray) (a1 : ByteArray) (r : Bool) (w : World) (h : token_word.f a0 a1 = some r) (HLW_ : LW w) :
 Calls Tryz.prog 114 #[.string a0, .string a1] w fun e w' => e = .returned (.bool r) ∧ Below w.heap.size w w' := by
 have HLW := am_ HLW_
 clear HLW_
 have HB := am_ (Below.refl w.heap.size w)
 have H : (if (a0.size : Int) ≥ (a1.size : Int) then (if 0 ≤ (a1.size : Int) then (if (a1.size : Int) ≤ (a0.size : Int) then ((strings_EqualFold.f (a0.extract 0 (a1.size)) a1).bind fun t672 => (some t672)) else (none)) else (none)) else (some false)) = some r := h
 clear h
 replace H := il_ H
 rcases H with ⟨c3, c3b0, H⟩ | ⟨c3, c3b0, H⟩
 ·
  have c3b1 : decide (a1.size ≤ a0.size) = true := decide_eq_true (Int.ofNat_le.mp c3)
  clear c3
  replace H := ixl_ H
  obtain ⟨c4, -, H⟩ := H
  have c4b0 := eq_true c4
  have c4b1 : decide (0 ≤ (a1.size : Int)) = true := decide_eq_true c4
  clear c4
  replace H := ixl_ H
  obtain ⟨c5, -, H⟩ := H
  have c5b0 := eq_true c5
  have c5b1 : decide ((a1.size : Int) ≤ (a0.size : Int)) = true := decide_eq_true c5
  clear c5
  replace H := bd_ H
  obtain ⟨t672, A6, H⟩ := H
  exact token_word.k1
 ·
  have c3b1 : decide (a1.size ≤ a0.size) = false := decide_eq_false (fun h => c3 (Int.ofNat_le.mpr h))
  clear c3
  exact token_word.k1


def token_small.f (a0 : Int) : Option (Int) := if a0 ≥ 65 then (if a0 ≤ 90 then (some ((a0 + 32) % 256)) else (some a0)) else (some a0)
set_option maxRecDepth 1000000 in
theorem token_small.k1 {p : Prop} (h : p := by
 first | (obtain rfl := Option.some.inj H) | (have H' := am_ H; clear H)
 go_enter Tryz.func115, Tryz.ntmps115
 go_wp2
 go_ret
 exact ⟨by first | rfl | (simp; done) | (simp [*]; done), by repeat (first | exact Drawn0.refl _ | apply Drawn0.step)⟩) : p := h
set_option maxHeartbeats 8000000 in
set_option maxRecDepth 100000 in
theorem token_small.calls (a0 : Int) (r : Int) (w : World) (h : token_small.f a0 = some r) :
 Calls Tryz.prog 115 #[.int .u8 a0] w fun e w' => e = .returned (.int .u8 r) ∧ Drawn0 w w' := by
 have H : (if a0 ≥ 65 then (if a0 ≤ 90 then (some ((a0 + 32) % 256)) else (some a0)) else (some a0)) = some r := h
 clear h
 replace H := il_ H
 rcases H with ⟨-, c2b0, H⟩ | ⟨-, c2b0, H⟩
 ·
  replace H := il_ H
  rcases H with ⟨-, c3b0, H⟩ | ⟨-, c3b0, H⟩
  ·
   exact token_small.k1
  ·
   exact token_small.k1
 ·
  exact token_small.k1


mutual
def token_lettered.l0 : Nat → ByteArray → List ByteArray → Int → Int → Option (Int × ByteArray × Int × Int × Int)
 | 0, _, _, _, _ => none
 | k + 1, x0, x8, x9, x10 => if x10 < x9 then (if 0 ≤ x10 then (if x10 < (x8.length : Int) then ((token_word.f x0 (rdOf ByteArray.empty x8 x10)).bind fun t678 => (if t678 = true then (some (15, rdOf ByteArray.empty x8 x10, 1, 0, ((rdOf ByteArray.empty x8 x10).size : Int))) else (token_lettered.l0 k x0 x8 x9 (wrap64 (x10 + 1))))) else (none)) else (none)) else ((token_word.f x0 (⟨#[71, 101, 110, 101, 114, 97, 108]⟩ : ByteArray)).bind fun t679 => (if t679 = true then (some (16, (⟨#[71, 101, 110, 101, 114, 97, 108]⟩ : ByteArray), 1, 0, 7)) else (if 0 < (x0.size : Int) then ((token_small.f (bt x0 0)).bind fun t680 => (if t680 = 101 then (if (x0.size : Int) > 1 then (if 1 < (x0.size : Int) then (if (bt x0 1) = 43 then (token_lettered.j1 k x0 t680 true) else (token_lettered.j1 k x0 t680 ((bt x0 1) == 45))) else (none)) else (token_lettered.j1 k x0 t680 false)) else (token_lettered.j1 k x0 t680 false))) else (none))))
def token_lettered.j1 : Nat → ByteArray → Int → Bool → Option (Int × ByteArray × Int × Int × Int)
 | 0, _, _, _ => none
 | k + 1, x0, x6, x44 => if x44 = true then (if 1 ≤ 2 then (if 2 ≤ (x0.size : Int) then (some (13, x0.extract 1 2, 1, 0, 2)) else (none)) else (none)) else ((strings_IndexByte.f (⟨#[121, 109, 100, 104, 115]⟩ : ByteArray) x6).bind fun t681 => (if t681 < 0 then (some (0, (⟨#[]⟩ : ByteArray), 0, 0, 0)) else (token_lettered.l1 k x0 x6 1)))
def token_lettered.l1 : Nat → ByteArray → Int → Int → Option (Int × ByteArray × Int × Int × Int)
 | 0, _, _, _ => none
 | k + 1, x0, x6, x7 => if x7 < (x0.size : Int) then (if 0 ≤ x7 then ((token_small.f (bt x0 x7)).bind fun t682 => (if t682 = x6 then (token_lettered.l1 k x0 x6 (wrap64 (x7 + 1))) else (some (14, strOfNums (([x6] : List Int)), x7, 0, x7)))) else (none)) else (some (14, strOfNums (([x6] : List Int)), x7, 0, x7))
end
def token_lettered.f (k : Nat) (a0 : ByteArray) : Option (Int × ByteArray × Int × Int × Int) := (some (([(⟨#[65, 77, 47, 80, 77]⟩ : ByteArray), (⟨#[65, 47, 80]⟩ : ByteArray)] : List ByteArray) : List ByteArray)).bind fun y674 => (token_lettered.l0 k a0 y674 (y674.length : Int) 0)
theorem token_lettered.mono_l : ∀ k, (∀ y0 y1 y2 y3, LeO (token_lettered.l0 k y0 y1 y2 y3) (token_lettered.l0 (k + 1) y0 y1 y2 y3)) ∧ (∀ y0 y1 y2, LeO (token_lettered.j1 k y0 y1 y2) (token_lettered.j1 (k + 1) y0 y1 y2)) ∧ (∀ y0 y1 y2, LeO (token_lettered.l1 k y0 y1 y2) (token_lettered.l1 (k + 1) y0 y1 y2))
 | 0 => ⟨fun _ _ _ _ r h => by simp [token_lettered.l0] at h, fun _ _ _ r h => by simp [token_lettered.j1] at h, fun _ _ _ r h => by simp [token_lettered.l1] at h⟩
 | k + 1 => by
  obtain ⟨ih0, ih1, ih2⟩ := token_lettered.mono_l k
  refine ⟨?_, ?_, ?_⟩
  ·
   intro y0 y1 y2 y3
   unfold token_lettered.l0
   repeat' first
   | (with_reducible exact ih0 _ _ _ _)
   | (with_reducible exact ih1 _ _ _)
   | (with_reducible exact ih2 _ _ _)
   | (with_reducible exact LeO.refl _)
   | (with_reducible exact LeO.none _)
   | (with_reducible refine LeO.ite ?_ ?_)
   | (with_reducible refine LeO.bind ?_ (fun _ => ?_))
   | exact ih0 _ _ _ _
   | exact ih1 _ _ _
   | exact ih2 _ _ _
   | exact LeO.none _
   | refine LeO.ite ?_ ?_
   | refine LeO.bind ?_ (fun _ => ?_)
  ·
   intro y0 y1 y2
   unfold token_lettered.j1
   repeat' first
   | (with_reducible exact ih0 _ _ _ _)
   | (with_reducible exact ih1 _ _ _)
   | (with_reducible exact ih2 _ _ _)
   | (with_reducible exact LeO.refl _)
   | (with_reducible exact LeO.none _)
   | (with_reducible refine LeO.ite ?_ ?_)
   | (with_reducible refine LeO.bind ?_ (fun _ => ?_))
   | exact ih0 _ _ _ _
   | exact ih1 _ _ _
   | exact ih2 _ _ _
   | exact LeO.none _
   | refine LeO.ite ?_ ?_
   | refine LeO.bind ?_ (fun _ => ?_)
  ·
   intro y0 y1 y2
   unfold token_lettered.l1
   repeat' first
   | (with_reducible exact ih0 _ _ _ _)
   | (with_reducible exact ih1 _ _ _)
   | (with_reducible exact ih2 _ _ _)
   | (with_reducible exact LeO.refl _)
   | (with_reducible exact LeO.none _)
   | (with_reducible refine LeO.ite ?_ ?_)
   | (with_reducible refine LeO.bind ?_ (fun _ => ?_))
   | exact ih0 _ _ _ _
   | exact ih1 _ _ _
   | exact ih2 _ _ _
   | exact LeO.none _
   | refine LeO.ite ?_ ?_
   | refine LeO.bind ?_ (fun _ => ?_)
theorem token_lettered.mono : ∀ a0 k, LeO (token_lettered.f k a0) (token_lettered.f (k + 1) a0) := by
 intro a0 k
 obtain ⟨ih0, ih1, ih2⟩ := token_lettered.mono_l k
 unfold token_lettered.f
 repeat' first | with_reducible first | exact ih0 _ _ _ _ | exact ih1 _ _ _ | exact ih2 _ _ _ | exact LeO.refl _ | exact LeO.none _ | refine LeO.ite ?_ ?_ | refine LeO.bind ?_ (fun _ => ?_)
set_option maxRecDepth 1000000 in
theorem token_lettered.k1 {p : Prop} (h : p := by
 first | (simp only [Option.some.injEq, Prod.mk.injEq] at H; obtain ⟨rfl, rfl, rfl, rfl, rfl⟩ := H) | (have H' := am_ H; clear H)
 first
  | (
   have p677 : 0 ≤ (x10_1 : Int) := da_
   have q677 : x10_1 < (y674.length : Int) := da_
   obtain ⟨ad677, e677, hx677_0⟩ := Kd.at_string (Kd.R_reads' HO_8.out).2.2 x10_1 p677 q677
   cases e677
   replace p677 := eq_true p677
   replace q677 := eq_true q677
   try go_wp2_with (first | ((with_reducible refine gate_callee (f := 114) rfl ?_); refine gc_ (some 16) rfl rfl Tryz.func114 rfl #[.string a0, .string (rdOf ByteArray.empty y674 x10_1)] rfl ?_; (with_reducible refine (token_word.calls _ _ _ _ A9.out ?side1).mono ?_); (case side1 => exact LW.below HLW.out bl_); rintro e w1 ⟨rfl, hb⟩; refine ⟨_, rfl, ?_⟩; replace HO_8 := rb_ HO_8 hb; replace BK673 := bb_ BK673 hb; replace HB := sb_ hb; clear hb; (try (obtain ⟨hcz12_0, hcz12_1, hcz12_2, hcz12_3, hfz12_0, hfz12_1, hfz12_2, hfz12_3⟩ := cz4_ BK673.out))))
   first
    | (
     refine bodyPost_ret (results_ct rfl _ _ gb673 53 _ (0, 0) _ rfl (bp_ BK673.out) Tryz.underlying53 rfl (by kernel_rfl)) rfl ?_
     exact ⟨er_, bl_⟩)
    | (
     go_roundg k1
     case measure => have := HK1.out; omega
     case rel => exact ⟨(wrap64 (x10_1 + 1)), (x674000_1), (x674001_1), (x674002_1), (x674003_1), sr_, H', ⟨by have := HK1.out; omega⟩, ⟨kr_ HO_8.out⟩, ⟨bk_ BK673.out⟩, ⟨bl_⟩⟩))
  | (
   try go_wp2_with (first | ((with_reducible refine gate_callee (f := 114) rfl ?_); refine gc_ (some 23) rfl rfl Tryz.func114 rfl #[.string a0, .string (⟨#[71, 101, 110, 101, 114, 97, 108]⟩ : ByteArray)] rfl ?_; (with_reducible refine (token_word.calls _ _ _ _ A14.out ?side1).mono ?_); (case side1 => exact LW.below HLW.out bl_); rintro e w1 ⟨rfl, hb⟩; refine ⟨_, rfl, ?_⟩; replace HO_8 := rb_ HO_8 hb; replace BK673 := bb_ BK673 hb; replace HB := sb_ hb; clear hb; obtain ⟨hcz17_0, hcz17_1, hcz17_2, hcz17_3, hfz17_0, hfz17_1, hfz17_2, hfz17_3⟩ := cz4_ BK673.out) | ((with_reducible refine gate_callee (f := 91) rfl ?_); refine gc_ (some 49) rfl rfl Tryz.func91 rfl #[.string (⟨#[121, 109, 100, 104, 115]⟩ : ByteArray), .int .u8 t680] rfl ?_; (with_reducible refine (strings_IndexByte.calls _ _ _ _ A33.out).mono ?_); rintro e w' ⟨rfl, ⟨nd, rfl⟩⟩; refine ⟨_, rfl, ?_⟩; (try (rw [drewN_self wc]; generalize hq_ : World.drewN wc _ = wc; have n0_ : Aside0 (wc.heap[gb673]? = some (.cells #[.int .i64 x674000_1, .string x674001_1, .int .i64 x674002_1, .int .i64 x674003_1] 53 (0, 0))) := ⟨by rw [← hq_]; exact (bk_ BK673.out)⟩; have n1_ : Aside0 (Below w.heap.size w wc) := ⟨by rw [← hq_]; exact bl_⟩; clear BK673 HB hq_; have BK673 := n0_; have HB := n1_; clear n0_ n1_)); obtain ⟨hcz35_0, hcz35_1, hcz35_2, hcz35_3, hfz35_0, hfz35_1, hfz35_2, hfz35_3⟩ := cz4_ BK673.out) | ((with_reducible refine gate_dst (N := 67) rfl ?_); (try (refine gate_guard (by rfl) ?_; dsimp only)); refine Kd.R_lit (Kd.int .u8) _ 5 ?hg (N := 67) ?hd (xs := ([t680] : List Int)) (inner := [.int .u8 t680]) (ok := fun _ => True) (okp := fun _ => True) ?hr ?hp (fun _ hk => hk) trivial (Below.refl _ _) (Nat.le_refl _) (by simp) ?_; (case hd => rfl); (case hg => rfl); (case hr => first | (go_simp; done) | (go_simp; rfl)); (case hp => exact (Reps.one (show Kd.M (Kd.int .u8) _ _ _ t680 [.int .u8 t680] from rfl) (Reps.none _ _))); intro v687 w8 ho46 hb hg_ hnew_; clear hg_ hnew_; (first | rw [← Ny686.out] at ho46 | (simp only [Int.reduceToNat] at ho46; rw [← Ny686.out] at ho46)); have HO688 := am_ (Kd.R_lower ho46 (below_size bl_)); replace BK673 := bb_ BK673 hb; replace HB := sb_ hb; clear hb ho46; have hcv9 := own_string (P := Tryz.prog) Tryz.underlying50 Tryz.underlying5 Tryz.underlying9 (Kd.own_of_R HO688.out); obtain ⟨hcz7_0, hcz7_1, hcz7_2, hcz7_3, hfz7_0, hfz7_1, hfz7_2, hfz7_3⟩ := cz4_ BK673.out))
   refine bodyPost_ret (results_ct rfl _ _ gb673 53 _ (0, 0) _ rfl (bp_ BK673.out) Tryz.underlying53 rfl (by kernel_rfl)) rfl ?_
   exact ⟨er_, bl_⟩)
  | (
   have p26 : 0 ≤ (1 : Int) := (by omega)
   have q26 : 1 < a0.size := (by have : (1 : Int) < (a0.size : Int) := da_; omega)
   have hx26 : ∀ h : 1 < a0.size, ((a0[1]'h).toNat : Int) = bt a0 1 := bt_at a0 1
   clear p26
   have qi26 : (1 < (a0.size : Int)) = True := eq_true (da_)
   replace q26 := eq_true q26
   first
    | (
     go_wp2
     go_meet
     case rel => exact ⟨_, (true), sr_, H', ⟨by have := HK1.out; first | omega | exact Nat.le_refl _⟩, ⟨bk_ BK673.out⟩, ⟨bl_⟩⟩)
    | (
     have p28 : 0 ≤ (1 : Int) := (by omega)
     have q28 : 1 < a0.size := (by have : (1 : Int) < (a0.size : Int) := da_; omega)
     have hx28 : ∀ h : 1 < a0.size, ((a0[1]'h).toNat : Int) = bt a0 1 := bt_at a0 1
     clear p28
     have qi28 : (1 < (a0.size : Int)) = True := eq_true (da_)
     replace q28 := eq_true q28
     go_wp2
     go_meet
     case rel => exact ⟨_, (((bt a0 1) == 45)), sr_, H', ⟨by have := HK1.out; first | omega | exact Nat.le_refl _⟩, ⟨bk_ BK673.out⟩, ⟨bl_⟩⟩))
  | (
   go_wp2
   go_meet
   case rel => exact ⟨_, (false), sr_, H', ⟨by have := HK1.out; first | omega | exact Nat.le_refl _⟩, ⟨bk_ BK673.out⟩, ⟨bl_⟩⟩)
  | (
   obtain ⟨hcz32_0, hcz32_1, hcz32_2, hcz32_3, hfz32_0, hfz32_1, hfz32_2, hfz32_3⟩ := cz4_ BK673.out
   go_wp2
   refine bodyPost_ret (results_ct rfl _ _ gb673 53 _ (0, 0) _ rfl (bp_ BK673.out) Tryz.underlying53 rfl (by kernel_rfl)) rfl ?_
   exact ⟨er_, bl_⟩)
  | (
   have p38 : 0 ≤ (x7_3 : Int) := da_
   have q38 : x7_3 < (a0.size : Int) := da_
   have hx38 := bt_at a0 x7_3
   replace p38 := eq_true p38
   replace q38 := eq_true q38
   try go_wp2_with (first | (go_at_call 115; (with_reducible refine (token_small.calls _ _ _ A39.out).mono ?_); rintro e w' ⟨rfl, ⟨nd, rfl⟩⟩; (try ((try (rw [drewN_self wr]; generalize hq_ : World.drewN wr _ = wr; have n0_ : Aside0 (wr.heap[gb673]? = some (.cells #[.int .i64 x674000_1, .string x674001_1, .int .i64 x674002_1, .int .i64 x674003_1] 53 (0, 0))) := ⟨by rw [← hq_]; exact (bk_ BK673.out)⟩; have n1_ : Aside0 (Below w.heap.size w wr) := ⟨by rw [← hq_]; exact bl_⟩; clear BK673 HB hq_; have BK673 := n0_; have HB := n1_; clear n0_ n1_))))) | ((with_reducible refine gate_dst (N := 67) rfl ?_); (try (refine gate_guard (by rfl) ?_; dsimp only)); refine Kd.R_lit (Kd.int .u8) _ 5 ?hg (N := 67) ?hd (xs := ([t680] : List Int)) (inner := [.int .u8 t680]) (ok := fun _ => True) (okp := fun _ => True) ?hr ?hp (fun _ hk => hk) trivial (Below.refl _ _) (Nat.le_refl _) (by simp) ?_; (case hd => rfl); (case hg => rfl); (case hr => first | (go_simp; done) | (go_simp; rfl)); (case hp => exact (Reps.one (show Kd.M (Kd.int .u8) _ _ _ t680 [.int .u8 t680] from rfl) (Reps.none _ _))); intro v684 w4 ho42 hb hg_ hnew_; clear hg_ hnew_; (first | rw [← Ny683.out] at ho42 | (simp only [Int.reduceToNat] at ho42; rw [← Ny683.out] at ho42)); have HO685 := am_ (Kd.R_lower ho42 (below_size bl_)); replace BK673 := bb_ BK673 hb; replace HB := sb_ hb; clear hb ho42; have hcv6 := own_string (P := Tryz.prog) Tryz.underlying50 Tryz.underlying5 Tryz.underlying9 (Kd.own_of_R HO685.out); obtain ⟨hcz7_0, hcz7_1, hcz7_2, hcz7_3, hfz7_0, hfz7_1, hfz7_2, hfz7_3⟩ := cz4_ BK673.out))
   first
    | (
     go_roundg k3
     case measure => have := HK1.out; have := HJ20.out; have := HK3.out; omega
     case rel => exact ⟨(wrap64 (x7_3 + 1)), sr_, H', ⟨by have := HK1.out; have := HJ20.out; have := HK3.out; omega⟩, ⟨bk_ BK673.out⟩, ⟨bl_⟩⟩)
    | (
     refine bodyPost_ret (results_ct rfl _ _ gb673 53 _ (0, 0) _ rfl (bp_ BK673.out) Tryz.underlying53 rfl (by kernel_rfl)) rfl ?_
     exact ⟨er_, bl_⟩))) : p := h
set_option maxHeartbeats 8000000 in
set_option maxRecDepth 100000 in
theorem token_lettered.calls (k : Nat) (a0 : ByteArray) (r1 : Int) (r2 : ByteArray) (r3 : Int) (r4 : Int) (r5 : Int) (w : World) (h : token_lettered.f k a0 = some (r1, r2, r3, r4, r5)) (HLW_ : LW w) :
 Calls Tryz.prog 89 #[.string a0] w fun e w' => e = .returned (.tuple #[.agg #[.int .i64 r1, .string r2, .int .i64 r3, .int .i64 r4], .int .i64 r5]) ∧ Below w.heap.size w w' := by
 have HLW := am_ HLW_
 clear HLW_
 have hu53 := Tryz.underlying53
 have HB := am_ (Below.refl w.heap.size w)
 have H : ((some (([(⟨#[65, 77, 47, 80, 77]⟩ : ByteArray), (⟨#[65, 47, 80]⟩ : ByteArray)] : List ByteArray) : List ByteArray)).bind fun y674 => (token_lettered.l0 k a0 y674 (y674.length : Int) 0)) = some (r1, r2, r3, r4, r5) := h
 clear h
 obtain ⟨y674, hy674⟩ : ∃ y_ : List ByteArray, y_ = (([(⟨#[65, 77, 47, 80, 77]⟩ : ByteArray), (⟨#[65, 47, 80]⟩ : ByteArray)] : List ByteArray)) := ⟨_, rfl⟩
 replace H : (token_lettered.l0 k a0 y674 (y674.length : Int) 0) = some (r1, r2, r3, r4, r5) := by first | (rw [hy674]; with_reducible exact H) | (have H2_ := (Option.bind_some _ _).symm.trans H; rw [hy674]; with_reducible exact H2_) | (have H2_ := (Option.bind_some _ _).symm.trans H; with_reducible exact H2_) | with_reducible exact H | (rw [hy674]; exact H) | exact H
 have Ny674 := am_ hy674
 clear hy674
 have H' := am_ H
 clear H
 go_enter Tryz.func89, Tryz.ntmps89
 go_wp2_with (first | ((with_reducible refine gate_dst (N := 2) rfl ?_); (try (refine gate_guard (by rfl) ?_; dsimp only)); refine bx_ (N := 2) (cs := #[.int .i64 0, .string (⟨#[]⟩ : ByteArray), .int .i64 0, .int .i64 0]) (t := 53) ?_; intro gb673 hg w2 hbox hb; have BK673 := am_ hbox; have GW673 := am_ (bg_ hg : w.heap.size ≤ gb673); replace HB := sb_ hb; clear hb hbox hg) | ((with_reducible refine gate_dst (N := 8) rfl ?_); (try (refine gate_guard (by rfl) ?_; dsimp only)); refine Kd.R_lit Kd.string _ 9 ?hg (N := 8) ?hd (xs := ([(⟨#[65, 77, 47, 80, 77]⟩ : ByteArray), (⟨#[65, 47, 80]⟩ : ByteArray)] : List ByteArray)) (inner := [.string (⟨#[65, 77, 47, 80, 77]⟩ : ByteArray), .string (⟨#[65, 47, 80]⟩ : ByteArray)]) (ok := fun _ => True) (okp := fun _ => True) ?hr ?hp (fun _ hk => hk) trivial (Below.refl _ _) (Nat.le_refl _) (by simp) ?_; (case hd => rfl); (case hg => rfl); (case hr => first | (go_simp; done) | (go_simp; rfl)); (case hp => exact (Reps.one (show Kd.M Kd.string _ _ _ (⟨#[65, 77, 47, 80, 77]⟩ : ByteArray) [.string (⟨#[65, 77, 47, 80, 77]⟩ : ByteArray)] from rfl) (Reps.one (show Kd.M Kd.string _ _ _ (⟨#[65, 47, 80]⟩ : ByteArray) [.string (⟨#[65, 47, 80]⟩ : ByteArray)] from rfl) (Reps.none _ _)))); intro v675 w3 ho4 hb hg_ hnew_; clear hg_ hnew_; (first | rw [← Ny674.out] at ho4 | (simp only [Int.reduceToNat] at ho4; rw [← Ny674.out] at ho4)); have HO676 := am_ (Kd.R_lower ho4 (below_size bl_)); replace BK673 := bb_ BK673 hb; replace HB := sb_ hb; clear hb ho4; obtain ⟨Ao5, co5, eo5⟩ := Kd.R_slice HO676.out; subst eo5))
 go_loopg [10] k (fun kq v10 w' => ∃ (x10_1 : Int) (x674000_1 : Int) (x674001_1 : ByteArray) (x674002_1 : Int) (x674003_1 : Int), v10 = .int .i64 x10_1 ∧ Aside0 (token_lettered.l0 kq a0 y674 (y674.length : Int) x10_1 = some (r1, r2, r3, r4, r5)) ∧ Aside0 (kq ≤ k) ∧ Aside0 (Kd.R Kd.string 9 w' w.heap.size (fun _ => True) (.slice Ao5 y674.length co5) y674) ∧ Aside0 (w'.heap[gb673]? = some (.cells #[.int .i64 x674000_1, .string x674001_1, .int .i64 x674002_1, .int .i64 x674003_1] 53 (0, 0))) ∧ Aside0 (Below w.heap.size w w'))
 case atStart => exact ⟨(0), (0), ((⟨#[]⟩ : ByteArray)), (0), (0), sr_, H', ⟨Nat.le_refl _⟩, ⟨kr_ HO676.out⟩, ⟨bk_ BK673.out⟩, ⟨bl_⟩⟩
 case round =>
  clear H'
  try clear p2
  obtain ⟨x10_1, x674000_1, x674001_1, x674002_1, x674003_1, rfl, HA, HK1, HO_8, BK673, HB⟩ := hrel
  cases gk with
  | zero => exact absurd HA.out (by simp [token_lettered.l0])
  | succ k1 =>
   have H := HA.out
   clear HA
   simp only [token_lettered.l0] at H
   replace H := il_ H
   rcases H with ⟨-, c6b0, H⟩ | ⟨-, c6b0, H⟩
   ·
    replace H := ixl_ H
    obtain ⟨-, c7b0, H⟩ := H
    replace H := ixl_ H
    obtain ⟨-, c8b0, H⟩ := H
    replace H := bd_ H
    obtain ⟨t678, A9, H⟩ := H
    replace H := ib_ H
    rcases H with ⟨rfl, H⟩ | ⟨rfl, H⟩
    ·
     exact token_lettered.k1
    ·
     exact token_lettered.k1
   ·
    replace H := bd_ H
    obtain ⟨t679, A14, H⟩ := H
    replace H := ib_ H
    rcases H with ⟨rfl, H⟩ | ⟨rfl, H⟩
    ·
     exact token_lettered.k1
    ·
     replace H := ixl_ H
     obtain ⟨c18, c18b0, H⟩ := H
     have c18b1 : decide (0 < a0.size) = true := decide_eq_true (by omega)
     clear c18
     replace H := bd_ H
     obtain ⟨t680, A20, H⟩ := H
     have HC21 := am_ H
     clear H
     go_upto_region 10 with (first | ((with_reducible refine gate_callee (f := 114) rfl ?_); refine gc_ (some 23) rfl rfl Tryz.func114 rfl #[.string a0, .string (⟨#[71, 101, 110, 101, 114, 97, 108]⟩ : ByteArray)] rfl ?_; (with_reducible refine (token_word.calls _ _ _ _ A14.out ?side1).mono ?_); (case side1 => exact LW.below HLW.out bl_); rintro e w22 ⟨rfl, hb⟩; refine ⟨_, rfl, ?_⟩; replace HO_8 := rb_ HO_8 hb; replace BK673 := bb_ BK673 hb; replace HB := sb_ hb; clear hb; have p19 : 0 ≤ (0 : Int) := (by omega); have q19 : 0 < a0.size := (by have : (0 : Int) < (a0.size : Int) := da_; omega); have hx19 : ∀ h : 0 < a0.size, ((a0[0]'h).toNat : Int) = bt a0 0 := bt_at a0 0; clear p19; have qi19 : (0 < (a0.size : Int)) = True := eq_true (da_); replace q19 := eq_true q19) | ((with_reducible refine gate_callee (f := 115) rfl ?_); refine gc_ (some 27) rfl rfl Tryz.func115 rfl #[.int .u8 (bt a0 0)] rfl ?_; (with_reducible refine (token_small.calls _ _ _ A20.out).mono ?_); rintro e w' ⟨rfl, ⟨nd, rfl⟩⟩; refine ⟨_, rfl, ?_⟩))
     (try simp only [Act.put, List.setIfInBounds_toArray, List.set_cons_zero, List.set_cons_succ])
     go_cut [44] (fun v44 wc => ∃ (kq : Nat) (x44_20 : Bool), v44 = .bool x44_20 ∧ Aside0 (token_lettered.j1 kq a0 t680 x44_20 = some (r1, r2, r3, r4, r5)) ∧ Aside0 (kq ≤ k1) ∧ Aside0 (wc.heap[gb673]? = some (.cells #[.int .i64 x674000_1, .string x674001_1, .int .i64 x674002_1, .int .i64 x674003_1] 53 (0, 0))) ∧ Aside0 (Below w.heap.size w wc))
     case first =>
      have H := HC21.out
      clear HC21
      replace H := ie_ H
      rcases H with ⟨-, c23b0, c23b1, H⟩ | ⟨c23, c23b0, c23b1, H⟩
      ·
       (first | rw [c23b0] | (simp only [i64_w, i32_w]; rw [c23b0]) | skip)
       replace H := il_ H
       rcases H with ⟨c24, c24b0, H⟩ | ⟨c24, c24b0, H⟩
       ·
        have c24b1 : decide (1 < a0.size) = true := decide_eq_true (by omega)
        clear c24
        replace H := ixl_ H
        obtain ⟨c25, c25b0, H⟩ := H
        have c25b1 : decide (1 < a0.size) = true := decide_eq_true (by omega)
        clear c25
        replace H := ie_ H
        rcases H with ⟨-, c27b0, c27b1, H⟩ | ⟨c27, c27b0, c27b1, H⟩
        ·
         exact token_lettered.k1
        ·
         exact token_lettered.k1
       ·
        have c24b1 : decide (1 < a0.size) = false := decide_eq_false (by omega)
        clear c24
        exact token_lettered.k1
      ·
       (first | rw [c23b0] | (simp only [i64_w, i32_w]; rw [c23b0]) | skip)
       exact token_lettered.k1
     case rest =>
      clear HC21
      try clear c1
      try clear p1
      try clear q1
      try clear hx1
      try clear qi1
      try clear c2
      try clear p2
      try clear q2
      try clear hx2
      try clear qi2
      try clear c6
      try clear c6b0
      try clear p6
      try clear q6
      try clear hx6
      try clear c7
      try clear c7b0
      try clear c8
      try clear c8b0
      try clear c10
      try clear c11
      try clear c15
      try clear c18
      try clear c18b0
      try clear c18b1
      try clear p19
      try clear q19
      try clear hx19
      try clear qi19
      try clear c23
      try clear c23b0
      try clear c23b1
      try clear c24
      try clear c24b0
      try clear c24b1
      try clear c25
      try clear c25b0
      try clear c25b1
      try clear p26
      try clear q26
      try clear hx26
      try clear qi26
      try clear c27
      try clear c27b0
      try clear c27b1
      try clear p28
      try clear q28
      try clear hx28
      try clear qi28
      try clear hcz12_0
      try clear hcz12_1
      try clear hcz12_2
      try clear hcz12_3
      try clear hcz17_0
      try clear hcz17_1
      try clear hcz17_2
      try clear hcz17_3
      try clear hfz12_0
      try clear hfz12_1
      try clear hfz12_2
      try clear hfz12_3
      try clear hfz17_0
      try clear hfz17_1
      try clear hfz17_2
      try clear hfz17_3
      try clear hx677_0
      try clear p19
      try clear p2
      try clear p26
      try clear p28
      try clear p677
      try clear q19
      try clear q26
      try clear q28
      try clear q677
      obtain ⟨kq, x44_20, rfl, HA, HJ20, BK673, HB⟩ := hcut
      cases kq with
      | zero => exact absurd HA.out (by simp [token_lettered.j1])
      | succ kj20 =>
       have H := HA.out
       clear HA
       simp only [token_lettered.j1] at H
       replace H := ib_ H
       rcases H with ⟨rfl, H⟩ | ⟨rfl, H⟩
       ·
        have c30 : 1 ≤ 2 := by decide
        rw [if_pos c30] at H
        have c30b0 := eq_true c30
        have c30b1 : decide (1 ≤ 2) = true := decide_eq_true c30
        clear c30
        replace H := ixl_ H
        obtain ⟨c31, -, H⟩ := H
        have c31b0 := eq_true c31
        have c31b1 : decide (2 ≤ (a0.size : Int)) = true := decide_eq_true c31
        clear c31
        exact token_lettered.k1
       ·
        replace H := bd_ H
        obtain ⟨t681, A33, H⟩ := H
        replace H := il_ H
        rcases H with ⟨-, c34b0, H⟩ | ⟨-, c34b0, H⟩
        ·
         exact token_lettered.k1
        ·
         have H' := am_ H
         clear H
         go_wp2_with (first | ((with_reducible refine gate_callee (f := 91) rfl ?_); refine gc_ (some 49) rfl rfl Tryz.func91 rfl #[.string (⟨#[121, 109, 100, 104, 115]⟩ : ByteArray), .int .u8 t680] rfl ?_; (with_reducible refine (strings_IndexByte.calls _ _ _ _ A33.out).mono ?_); rintro e w' ⟨rfl, ⟨nd, rfl⟩⟩; refine ⟨_, rfl, ?_⟩))
         go_loopg [7] kj20 (fun kq v7 w' => ∃ (x7_3 : Int), v7 = .int .i64 x7_3 ∧ Aside0 (token_lettered.l1 kq a0 t680 x7_3 = some (r1, r2, r3, r4, r5)) ∧ Aside0 (kq ≤ kj20) ∧ Aside0 (w'.heap[gb673]? = some (.cells #[.int .i64 x674000_1, .string x674001_1, .int .i64 x674002_1, .int .i64 x674003_1] 53 (0, 0))) ∧ Aside0 (Below w.heap.size w w'))
         case atStart => exact ⟨(1), sr_, H', ⟨Nat.le_refl _⟩, ⟨bk_ BK673.out⟩, ⟨bl_⟩⟩
         case round =>
          clear H'
          try clear c1
          try clear p1
          try clear q1
          try clear hx1
          try clear qi1
          try clear c2
          try clear p2
          try clear q2
          try clear hx2
          try clear qi2
          try clear c3
          try clear c6
          try clear c6b0
          try clear p6
          try clear q6
          try clear hx6
          try clear c7
          try clear c7b0
          try clear c8
          try clear c8b0
          try clear c9
          try clear c10
          try clear c11
          try clear c15
          try clear c18
          try clear c18b0
          try clear c18b1
          try clear p19
          try clear q19
          try clear hx19
          try clear qi19
          try clear c23
          try clear c23b0
          try clear c23b1
          try clear c24
          try clear c24b0
          try clear c24b1
          try clear c25
          try clear c25b0
          try clear c25b1
          try clear p26
          try clear q26
          try clear hx26
          try clear qi26
          try clear c27
          try clear c27b0
          try clear c27b1
          try clear p28
          try clear q28
          try clear hx28
          try clear qi28
          try clear c29
          try clear c30
          try clear c30b0
          try clear c30b1
          try clear c31
          try clear c31b0
          try clear c31b1
          try clear c34
          try clear c34b0
          try clear hcz12_0
          try clear hcz12_1
          try clear hcz12_2
          try clear hcz12_3
          try clear hcz17_0
          try clear hcz17_1
          try clear hcz17_2
          try clear hcz17_3
          try clear hcz32_0
          try clear hcz32_1
          try clear hcz32_2
          try clear hcz32_3
          try clear hcz35_0
          try clear hcz35_1
          try clear hcz35_2
          try clear hcz35_3
          try clear hfz12_0
          try clear hfz12_1
          try clear hfz12_2
          try clear hfz12_3
          try clear hfz17_0
          try clear hfz17_1
          try clear hfz17_2
          try clear hfz17_3
          try clear hfz32_0
          try clear hfz32_1
          try clear hfz32_2
          try clear hfz32_3
          try clear hfz35_0
          try clear hfz35_1
          try clear hfz35_2
          try clear hfz35_3
          try clear hx677_0
          try clear p1
          try clear p19
          try clear p2
          try clear p26
          try clear p28
          try clear p6
          try clear p677
          try clear q1
          try clear q19
          try clear q2
          try clear q26
          try clear q28
          try clear q6
          try clear q677
          obtain ⟨x7_3, rfl, HA, HK3, BK673, HB⟩ := hrel
          cases gk with
          | zero => exact absurd HA.out (by simp [token_lettered.l1])
          | succ k3 =>
           have H := HA.out
           clear HA
           simp only [token_lettered.l1] at H
           replace H := il_ H
           rcases H with ⟨-, c36b0, H⟩ | ⟨-, c36b0, H⟩
           ·
            replace H := ixl_ H
            obtain ⟨-, c37b0, H⟩ := H
            replace H := bd_ H
            obtain ⟨t682, A39, H⟩ := H
            replace H := ie_ H
            rcases H with ⟨-, c40b0, c40b1, H⟩ | ⟨c40, c40b0, c40b1, H⟩
            ·
             exact token_lettered.k1
            ·
             obtain ⟨y683, hy683⟩ : ∃ y_ : List Int, y_ = (([t680] : List Int)) := ⟨_, rfl⟩
             replace H : (some (14, strOfNums y683, x7_3, 0, x7_3)) = some (r1, r2, r3, r4, r5) := by first | (rw [hy683]; with_reducible exact H) | (have H2_ := (Option.bind_some _ _).symm.trans H; rw [hy683]; with_reducible exact H2_) | (have H2_ := (Option.bind_some _ _).symm.trans H; with_reducible exact H2_) | with_reducible exact H | (rw [hy683]; exact H) | exact H
             have Ny683 := am_ hy683
             clear hy683
             exact token_lettered.k1
           ·
            obtain ⟨y686, hy686⟩ : ∃ y_ : List Int, y_ = (([t680] : List Int)) := ⟨_, rfl⟩
            replace H : (some (14, strOfNums y686, x7_3, 0, x7_3)) = some (r1, r2, r3, r4, r5) := by first | (rw [hy686]; with_reducible exact H) | (have H2_ := (Option.bind_some _ _).symm.trans H; rw [hy686]; with_reducible exact H2_) | (have H2_ := (Option.bind_some _ _).symm.trans H; with_reducible exact H2_) | with_reducible exact H | (rw [hy686]; exact H) | exact H
            have Ny686 := am_ hy686
            clear hy686
            exact token_lettered.k1

end Go.Proofs.YtiidpicgdjjikaaGreatDoor.P
