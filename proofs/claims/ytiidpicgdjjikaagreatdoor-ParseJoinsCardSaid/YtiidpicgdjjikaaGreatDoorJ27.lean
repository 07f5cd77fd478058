import Derived.Test.YtiidpicgdjjikaaGreatDoorJ4
import Derived.Test.YtiidpicgdjjikaaGreatDoorJ6
import Derived.Test.YtiidpicgdjjikaaGreatDoorJ18
import Derived.Test.YtiidpicgdjjikaaGreatDoorJ25
import Derived.Test.YtiidpicgdjjikaaGreatDoorJ26
namespace Go.Proofs.YtiidpicgdjjikaaGreatDoor.P
open Go.RowKit Go.Proofs.YtiidpicgdjjikaaGreatDoor.G Go.Proofs.YtiidpicgdjjikaaGreatDoorW.PrintWords Go.Proofs.YtiidpicgdjjikaaGreatDoorW.PrintLast Go.Proofs.YtiidpicgdjjikaaGreatDoorW.PrintMore
attribute [local go_sem] isSome_setCell_eq max2_int min2_int max_two min_two max_three min_three max_four min_four
set_option linter.unusedVariables false
set_option linter.unusedSimpArgs false

def cond_Parse.j0 : Nat → Int → Bool → ByteArray → ByteArray → Bool → Option (Int × Bool × ByteArray × ByteArray × Bool)
 | 0, _, _, _, _, _ => none
 | k + 1, x4, x7, x8, x9, x43 => if x43 = true then (some (0, false, (⟨#[]⟩ : ByteArray), (⟨#[]⟩ : ByteArray), false)) else ((strings_TrimLeft.f x8 (⟨#[48]⟩ : ByteArray)).bind fun t325 => ((digits_Trim.f x9).bind fun t326 => (if x7 = true then (if t325.size + t326.size ≤ 9223372036854775807 then (some (x4, ((t325 ++ t326).toList != ([] : List UInt8)), t325, t326, true)) else (none)) else (some (x4, false, t325, t326, true)))))
def cond_Parse.f (k : Nat) (a0 : ByteArray) : Option (Int × Bool × ByteArray × ByteArray × Bool) := (cond_op.f a0).bind fun bt315 => ((strings_CutPrefix.f bt315.2.1 (⟨#[45]⟩ : ByteArray)).bind fun bt318 => ((strings_Cut.f bt318.1 (⟨#[46]⟩ : ByteArray)).bind fun bt320 => (if bt315.2.2 = true then ((cond_run.f k bt320.1).bind fun t323 => (if t323 = true then (if bt320.2.2 = true then ((cond_run.f k bt320.2.1).bind fun t324 => (cond_Parse.j0 k bt315.1 bt318.2 bt320.1 bt320.2.1 (!t324))) else (cond_Parse.j0 k bt315.1 bt318.2 bt320.1 bt320.2.1 false)) else (cond_Parse.j0 k bt315.1 bt318.2 bt320.1 bt320.2.1 true))) else (cond_Parse.j0 k bt315.1 bt318.2 bt320.1 bt320.2.1 true))))
theorem cond_Parse.mono_l : ∀ k, (∀ y0 y1 y2 y3 y4, LeO (cond_Parse.j0 k y0 y1 y2 y3 y4) (cond_Parse.j0 (k + 1) y0 y1 y2 y3 y4))
 | 0 => fun _ _ _ _ _ r h => by simp [cond_Parse.j0] at h
 | k + 1 => by
  have ih0 := cond_Parse.mono_l k
  ·
   intro y0 y1 y2 y3 y4
   unfold cond_Parse.j0
   repeat' first
   | (with_reducible exact ih0 _ _ _ _ _)
   | (with_reducible exact cond_run.mono _ _)
   | (with_reducible exact LeO.refl _)
   | (with_reducible exact LeO.none _)
   | (with_reducible refine LeO.ite ?_ ?_)
   | (with_reducible refine LeO.bind ?_ (fun _ => ?_))
   | exact ih0 _ _ _ _ _
   | exact cond_run.mono _ _
   | exact LeO.none _
   | refine LeO.ite ?_ ?_
   | refine LeO.bind ?_ (fun _ => ?_)
theorem cond_Parse.mono : ∀ a0 k, LeO (cond_Parse.f k a0) (cond_Parse.f (k + 1) a0) := by
 intro a0 k
 have ih0 := cond_Parse.mono_l k
 unfold cond_Parse.f
 repeat' first | with_reducible first | exact ih0 _ _ _ _ _ | exact cond_run.mono _ _ | exact LeO.refl _ | exact LeO.none _ | refine LeO.ite ?_ ?_ | refine LeO.bind ?_ (fun _ => ?_)
set_option maxRecDepth 1000000 in
theorem cond_Parse.k1 {p : Prop} (h : p := by
 first | (simp only [Option.some.injEq, Prod.mk.injEq] at H; obtain ⟨rfl, rfl, rfl, rfl, rfl⟩ := H) | (have H' := am_ H; clear H)
 first
  | (
   try go_wp2_with (first | (go_at_call 135; (try ((with_reducible refine (cond_run.calls _ _ _ _ A12.out ?side1).mono ?_); (case side1 => exact LW.below HLW.out bl_); rintro e w1 ⟨rfl, hb⟩; replace BK314 := bb_ BK314 hb; replace HB := sb_ hb; clear hb)); (try ((with_reducible refine (cond_run.calls _ _ _ _ A9.out ?side1).mono ?_); (case side1 => exact LW.below HLW.out bl_); rintro e w1 ⟨rfl, hb⟩; replace BK314 := bb_ BK314 hb; replace HB := sb_ hb; clear hb))) | ((with_reducible refine gate_callee (f := 136) rfl ?_); refine gc_ (some 47) rfl rfl Tryz.func136 rfl #[.string t320, .string (⟨#[48]⟩ : ByteArray)] rfl ?_; (with_reducible refine (strings_TrimLeft.calls _ _ _ _ A19.out ?side1).mono ?_); (case side1 => exact LW.below HLW.out bl_); rintro e w' ⟨rfl, ⟨nd, rfl⟩⟩; refine ⟨_, rfl, ?_⟩; (try (rw [drewN_self wc]; generalize hq_ : World.drewN wc _ = wc; have n0_ : Aside0 (wc.heap[gb314]? = some (.cells #[.int .i64 0, .bool false, .string (⟨#[]⟩ : ByteArray), .string (⟨#[]⟩ : ByteArray)] 30 (0, 0))) := ⟨by rw [← hq_]; exact (bk_ BK314.out)⟩; have n1_ : Aside0 (Below w.heap.size w wc) := ⟨by rw [← hq_]; exact bl_⟩; clear BK314 HB hq_; have BK314 := n0_; have HB := n1_; clear n0_ n1_))) | ((with_reducible refine gate_callee (f := 137) rfl ?_); refine gc_ (some 49) rfl rfl Tryz.func137 rfl #[.string t321] rfl ?_; (with_reducible refine (digits_Trim.calls _ _ _ A20.out ?side1).mono ?_); (case side1 => exact LW.below HLW.out bl_); rintro e w' ⟨rfl, ⟨nd, rfl⟩⟩; refine ⟨_, rfl, ?_⟩; (try (rw [drewN_self wc]; generalize hq_ : World.drewN wc _ = wc; have n0_ : Aside0 (wc.heap[gb314]? = some (.cells #[.int .i64 0, .bool false, .string (⟨#[]⟩ : ByteArray), .string (⟨#[]⟩ : ByteArray)] 30 (0, 0))) := ⟨by rw [← hq_]; exact (bk_ BK314.out)⟩; have n1_ : Aside0 (Below w.heap.size w wc) := ⟨by rw [← hq_]; exact bl_⟩; clear BK314 HB hq_; have BK314 := n0_; have HB := n1_; clear n0_ n1_))) | ((with_reducible refine gate_dst (N := 11) rfl ?_); refine bx_ (N := 11) (cs := #[.int .i64 0, .bool false, .string (⟨#[]⟩ : ByteArray), .string (⟨#[]⟩ : ByteArray)]) (t := 30) ?_; intro gb327 hg w3 hbox hb; have BK327 := am_ hbox; have GW327 := am_ (bg_ hg : w.heap.size ≤ gb327); obtain ⟨NB314_327, NB327_314⟩ := nb_ hg BK314; replace BK314 := bb_ BK314 hb; replace HB := sb_ hb; clear hb hbox hg; have hnb4 := NB327_314.out; have hnc4 := NB314_327.out; obtain ⟨hcz5_0, hcz5_1, hcz5_2, hcz5_3, hfz5_0, hfz5_1, hfz5_2, hfz5_3⟩ := cz4_ BK327.out; obtain ⟨hcz2_0, hcz2_1, hcz2_2, hcz2_3, hfz2_0, hfz2_1, hfz2_2, hfz2_3⟩ := cz4_ BK314.out))
   first
    | (
     go_meet
     first
      | (
       case rel => exact ⟨_, (!t324), sr_, H', ⟨by first | omega | exact Nat.le_refl _⟩, ⟨bk_ BK314.out⟩, ⟨bl_⟩⟩)
      | (
       case rel => exact ⟨_, (false), sr_, H', ⟨by first | omega | exact Nat.le_refl _⟩, ⟨bk_ BK314.out⟩, ⟨bl_⟩⟩)
      | (
       case rel => exact ⟨_, (true), sr_, H', ⟨by first | omega | exact Nat.le_refl _⟩, ⟨bk_ BK314.out⟩, ⟨bl_⟩⟩))
    | (
     refine bodyPost_ret (results_ct rfl _ _ gb314 30 #[.int .i64 t315, .bool ((t325 ++ t326).toList != ([] : List UInt8)), .string t325, .string t326] (0, 0) _ rfl (by refine bk_ ?_; refine blk_put (cs := #[.int .i64 t315, .bool ((t325 ++ t326).toList != ([] : List UInt8)), .string t325, .string (⟨#[]⟩ : ByteArray)]) ?_ 3 _ (by first | rfl | (simp only [isEmpty_ne, Bool.not_not]; rfl)); refine bk_ ?_; refine blk_put (cs := #[.int .i64 t315, .bool ((t325 ++ t326).toList != ([] : List UInt8)), .string (⟨#[]⟩ : ByteArray), .string (⟨#[]⟩ : ByteArray)]) ?_ 2 _ (by first | rfl | (simp only [isEmpty_ne, Bool.not_not]; rfl)); refine bk_ ?_; refine blk_put (cs := #[.int .i64 t315, .bool false, .string (⟨#[]⟩ : ByteArray), .string (⟨#[]⟩ : ByteArray)]) ?_ 1 _ (by first | rfl | (simp only [isEmpty_ne, Bool.not_not]; rfl)); refine bk_ ?_; refine blk_put (cs := #[.int .i64 0, .bool false, .string (⟨#[]⟩ : ByteArray), .string (⟨#[]⟩ : ByteArray)]) ?_ 0 _ (by first | rfl | (simp only [isEmpty_ne, Bool.not_not]; rfl)); refine bk_ ?_; exact BK314.out) Tryz.underlying30 rfl (by kernel_rfl)) rfl ?_
     exact ⟨er_, bl_⟩)
    | (
     refine bodyPost_ret (results_ct rfl _ _ gb314 30 _ (0, 0) _ rfl (bp_ BK314.out) Tryz.underlying30 rfl (by kernel_rfl)) rfl ?_
     exact ⟨er_, bl_⟩))
  | (
   go_wp2
   go_meet
   case rel => exact ⟨_, (true), sr_, H', ⟨by first | omega | exact Nat.le_refl _⟩, ⟨bk_ BK314.out⟩, ⟨bl_⟩⟩)
  | (
   obtain ⟨hcz2_0, hcz2_1, hcz2_2, hcz2_3, hfz2_0, hfz2_1, hfz2_2, hfz2_3⟩ := cz4_ BK314.out
   go_wp2
   refine bodyPost_ret (results_ct rfl _ _ gb314 30 _ (0, 0) _ rfl (bp_ BK314.out) Tryz.underlying30 rfl (by kernel_rfl)) rfl ?_
   exact ⟨er_, bl_⟩)) : p := h
set_option maxHeartbeats 8000000 in
set_option maxRecDepth 100000 in
theorem cond_Parse.calls (k : Nat) (a0 : ByteArray) (r1 : Int) (r2 : Bool) (r3 : ByteArray) (r4 : ByteArray) (r5 : Bool) (w : World) (h : cond_Parse.f k a0 = some (r1, r2, r3, r4, r5)) (HLW_ : LW w) :
 Calls Tryz.prog 109 #[.string a0] w fun e w' => e = .returned (.tuple #[.agg #[.int .i64 r1, .bool r2, .string r3, .string r4], .bool r5]) ∧ Below w.heap.size w w' := by
 have HLW := am_ HLW_
 clear HLW_
 have hu30 := Tryz.underlying30
 have HB := am_ (Below.refl w.heap.size w)
 have H : ((cond_op.f a0).bind fun bt315 => ((strings_CutPrefix.f bt315.2.1 (⟨#[45]⟩ : ByteArray)).bind fun bt318 => ((strings_Cut.f bt318.1 (⟨#[46]⟩ : ByteArray)).bind fun bt320 => (if bt315.2.2 = true then ((cond_run.f k bt320.1).bind fun t323 => (if t323 = true then (if bt320.2.2 = true then ((cond_run.f k bt320.2.1).bind fun t324 => (cond_Parse.j0 k bt315.1 bt318.2 bt320.1 bt320.2.1 (!t324))) else (cond_Parse.j0 k bt315.1 bt318.2 bt320.1 bt320.2.1 false)) else (cond_Parse.j0 k bt315.1 bt318.2 bt320.1 bt320.2.1 true))) else (cond_Parse.j0 k bt315.1 bt318.2 bt320.1 bt320.2.1 true))))) = some (r1, r2, r3, r4, r5) := h
 clear h
 replace H := bd_ H
 obtain ⟨⟨t315, t316, t317⟩, A2, H⟩ := H
 try dsimp only at H
 replace H := bd_ H
 obtain ⟨⟨t318, t319⟩, A3, H⟩ := H
 try dsimp only at H
 replace H := bd_ H
 obtain ⟨⟨t320, t321, t322⟩, A4, H⟩ := H
 try dsimp only at H
 have HC5 := am_ H
 clear H
 go_enter Tryz.func109, Tryz.ntmps109
 go_upto_region 4 with (first | ((with_reducible refine gate_dst (N := 2) rfl ?_); refine bx_ (N := 2) (cs := #[.int .i64 0, .bool false, .string (⟨#[]⟩ : ByteArray), .string (⟨#[]⟩ : ByteArray)]) (t := 30) ?_; intro gb314 hg w6 hbox hb; have BK314 := am_ hbox; have GW314 := am_ (bg_ hg : w.heap.size ≤ gb314); replace HB := sb_ hb; clear hb hbox hg) | ((with_reducible refine gate_callee (f := 132) rfl ?_); refine gc_ (some 14) rfl rfl Tryz.func132 rfl #[.string a0] rfl ?_; (with_reducible refine (cond_op.calls _ _ _ _ _ A2.out).mono ?_); rintro e w7 ⟨rfl, hb⟩; refine ⟨_, rfl, ?_⟩; replace BK314 := bb_ BK314 hb; replace HB := sb_ hb; clear hb) | ((with_reducible refine gate_callee (f := 133) rfl ?_); refine gc_ (some 20) rfl rfl Tryz.func133 rfl #[.string t316, .string (⟨#[45]⟩ : ByteArray)] rfl ?_; (with_reducible refine (strings_CutPrefix.calls _ _ _ _ _ A3.out).mono ?_); rintro e w' ⟨rfl, ⟨nd, rfl⟩⟩; refine ⟨_, rfl, ?_⟩) | ((with_reducible refine gate_callee (f := 134) rfl ?_); refine gc_ (some 25) rfl rfl Tryz.func134 rfl #[.string t318, .string (⟨#[46]⟩ : ByteArray)] rfl ?_; (with_reducible refine (strings_Cut.calls _ _ _ _ _ _ A4.out ?side1).mono ?_); (case side1 => exact LW.below HLW.out bl_); rintro e w' ⟨rfl, ⟨nd, rfl⟩⟩; refine ⟨_, rfl, ?_⟩))
 (try simp only [Act.put, List.setIfInBounds_toArray, List.set_cons_zero, List.set_cons_succ])
 go_cut [43] (fun v43 wc => ∃ (kq : Nat) (x43_4 : Bool), v43 = .bool x43_4 ∧ Aside0 (cond_Parse.j0 kq t315 t319 t320 t321 x43_4 = some (r1, r2, r3, r4, r5)) ∧ Aside0 (kq ≤ k) ∧ Aside0 (wc.heap[gb314]? = some (.cells #[.int .i64 0, .bool false, .string (⟨#[]⟩ : ByteArray), .string (⟨#[]⟩ : ByteArray)] 30 (0, 0))) ∧ Aside0 (Below w.heap.size w wc))
 case first =>
  have H := HC5.out
  clear HC5
  replace H := ib_ H
  rcases H with ⟨rfl, H⟩ | ⟨rfl, H⟩
  ·
   replace H := bd_ H
   obtain ⟨t323, A9, H⟩ := H
   replace H := ib_ H
   rcases H with ⟨rfl, H⟩ | ⟨rfl, H⟩
   ·
    replace H := ib_ H
    rcases H with ⟨rfl, H⟩ | ⟨rfl, H⟩
    ·
     replace H := bd_ H
     obtain ⟨t324, A12, H⟩ := H
     exact cond_Parse.k1
    ·
     exact cond_Parse.k1
   ·
    exact cond_Parse.k1
  ·
   exact cond_Parse.k1
 case rest =>
  clear HC5
  try clear c1
  try clear p2
  try clear c8
  try clear c10
  try clear c11
  try clear c13
  obtain ⟨kq, x43_4, rfl, HA, HJ4, BK314, HB⟩ := hcut
  cases kq with
  | zero => exact absurd HA.out (by simp [cond_Parse.j0])
  | succ kj4 =>
   have H := HA.out
   clear HA
   simp only [cond_Parse.j0] at H
   replace H := ib_ H
   rcases H with ⟨rfl, H⟩ | ⟨rfl, H⟩
   ·
    exact cond_Parse.k1
   ·
    replace H := bd_ H
    obtain ⟨t325, A19, H⟩ := H
    replace H := bd_ H
    obtain ⟨t326, A20, H⟩ := H
    replace H := ib_ H
    rcases H with ⟨rfl, H⟩ | ⟨rfl, H⟩
    ·
     replace H := ixl_ H
     obtain ⟨c22, -, H⟩ := H
     have c22b0 := eq_true c22
     have c22b1 : decide (t325.size + t326.size ≤ 9223372036854775807) = true := decide_eq_true c22
     try have c22b2 : (9223372036854775807 < t325.size + t326.size) = False := eq_false (Nat.not_lt.2 c22)
     exact cond_Parse.k1
    ·
     exact cond_Parse.k1


def colour_Elapsed.f (a0 : ByteArray) : Option (ByteArray × Int × Bool) := (strings_ToLower.f a0).bind fun t204 => (if t204.toList = ([] : List UInt8) then (some ((⟨#[]⟩ : ByteArray), 0, false)) else (if (t204.size : Int) > 9 then (some ((⟨#[]⟩ : ByteArray), 0, false)) else ((colour_plain.f a0).bind fun t205 => (if t205 = true then (if 0 ≤ 1 then (if 1 ≤ (t204.size : Int) then ((strings_Contains.f (⟨#[104, 109, 115]⟩ : ByteArray) (t204.extract 0 1)).bind fun t206 => (if t206 = true then ((colour_cutLeft.f t204 (t204.extract 0 1)).bind fun t207 => ((colour_cutRight.f t207 (t204.extract 0 1)).bind fun t208 => (if t208.toList = ([] : List UInt8) then (some (t204.extract 0 1, (t204.size : Int), true)) else (some ((⟨#[]⟩ : ByteArray), 0, false))))) else (some ((⟨#[]⟩ : ByteArray), 0, false)))) else (none)) else (none)) else (some ((⟨#[]⟩ : ByteArray), 0, false))))))
def colour_Elapsed.T2 : Bool × List (List Nat × List Nat) := (true, [([], []), ([0], [0]), ([1], [1]), ([2], [2]), ([3, 2], [2, 3]), ([4, 2], [2, 4]), ([2, 5], [2, 5]), ([6, 2], [6]), ([7], [7]), ([8, 7, 7], [7, 8]), ([9, 7], [7, 9]), ([7, 10], [7, 10]), ([11, 9], [11]), ([12], [12]), ([13, 12], [12, 13]), ([14, 12, 12], [12, 14]), ([15, 12], [12, 15]), ([12, 16], [12, 16]), ([17, 15], [17]), ([18], [18]), ([18], [18]), ([20, 18], [18, 20]), ([19, 21, 18, 18], [18, 19, 21]), ([18], [18]), ([23, 18], [18, 23]), ([22, 24, 22, 18], [18, 22, 24]), ([25, 18], [18, 25]), ([18, 26], [18, 26])])
def colour_Elapsed.B2 : List Nat := [0, 1, 3, 7, 15, 31, 63, 127, 255, 511, 1023, 2047, 4095, 8191, 16383, 32767, 65535, 131071, 262143, 524287, 524287, 1572863, 4194303, 524287, 8912895, 33554431, 67108863, 134217727]
theorem colour_Elapsed.tab2 : rtab .any (opsOf Tryz.f81 2) = colour_Elapsed.T2 := by kernel_rfl
theorem colour_Elapsed.bits2 : waitsOk colour_Elapsed.T2.2 colour_Elapsed.B2 = true := by kernel_rfl
set_option maxRecDepth 1000000 in
theorem colour_Elapsed.k1 {p : Prop} (h : p := by
 first | (simp only [Option.some.injEq, Prod.mk.injEq] at H; obtain ⟨rfl, rfl, rfl⟩ := H) | (have H' := am_ H; clear H)
 go_enter Tryz.func81, Tryz.ntmps81
 try go_wp2_with (first | ((with_reducible refine gate_callee (f := 104) rfl ?_); refine gc_ (some 7) rfl rfl Tryz.func104 rfl #[.string a0] rfl ?_; (with_reducible refine (strings_ToLower.calls _ _ _ A2.out ?side1).mono ?_); (case side1 => exact LW.below HLW.out bl_); rintro e w1 ⟨rfl, hb⟩; refine ⟨_, rfl, ?_⟩; replace HB := sb_ hb; clear hb))
 refine gz_ 28 ?_
 replace HB := am_ (below_drew1 HB.out)
 refine sw_ (n := 28) (S := fun w' => True) (ds := []) trivial (fun hHeld => ?_); refine with_tabW colour_Elapsed.tab2 colour_Elapsed.bits2 (fun HT_ HW_ => ?_)
 generalize w1.drew = w2 at HB hHeld ⊢
 refine pw_ 0 (some 8) ?_
 refine pw_ 1 (some 9) ?_
 refine pw_ 2 (some 10) ?_
 first
  | (
   refine pu_ 3 (some 11) ?_
   refine pu_ 4 (some 12) ?_
   refine pu_ 5 (some 13) ?_
   refine pw_ 6 (some 14) ?_
   refine pw_ 7 (some 15) ?_
   refine pu_ 8 (some 16) ?_
   refine pu_ 9 (some 17) ?_
   refine pu_ 10 (some 18) ?_
   refine pw_ 11 (some 19) ?_
   refine pw_ 12 (some 20) ?_
   refine pu_ 13 (some 21) ?_
   refine pu_ 14 (some 22) ?_
   refine pu_ 15 (some 23) ?_
   refine pu_ 16 (some 24) ?_
   refine pw_ 17 (some 25) ?_
   refine pw_ 18 (some 26) ?_
   refine pu_ 19 (some 27) ?_
   refine pu_ 20 (some 28) ?_
   refine pu_ 21 (some 29) ?_
   refine pu_ 22 (some 30) ?_
   refine pu_ 23 (some 31) ?_
   refine pu_ 24 (some 32) ?_
   refine pu_ 25 (some 33) ?_
   refine pu_ 26 (some 34) ?_
   refine pw_ 27 (some 35) ?_
   refine done_ (done_of HT_.out (by kernel_rfl)) ?_
   try go_wp2
   go_ret3
   exact ⟨er_, bl_⟩)
  | (
   refine pw_ 3 (some 11) ?_
   refine pw_ 4 (some 12) ?_
   refine pw_ 5 (some 13) ?_
   refine pw_ 6 (some 14) ?_
   refine pw_ 7 (some 15) ?_
   first
    | (
     refine pu_ 8 (some 16) ?_
     refine pu_ 9 (some 17) ?_
     refine pu_ 10 (some 18) ?_
     refine pw_ 11 (some 19) ?_
     refine pw_ 12 (some 20) ?_
     refine pu_ 13 (some 21) ?_
     refine pu_ 14 (some 22) ?_
     refine pu_ 15 (some 23) ?_
     refine pu_ 16 (some 24) ?_
     refine pw_ 17 (some 25) ?_
     refine pw_ 18 (some 26) ?_
     refine pu_ 19 (some 27) ?_
     refine pu_ 20 (some 28) ?_
     refine pu_ 21 (some 29) ?_
     refine pu_ 22 (some 30) ?_
     refine pu_ 23 (some 31) ?_
     refine pu_ 24 (some 32) ?_
     refine pu_ 25 (some 33) ?_
     refine pu_ 26 (some 34) ?_
     refine pw_ 27 (some 35) ?_
     refine done_ (done_of HT_.out (by kernel_rfl)) ?_
     try go_wp2
     go_ret3
     exact ⟨er_, bl_⟩)
    | (
     refine pw_ 8 (some 16) ?_
     refine ow_ 9 (some 17) (fun K hK => ?_)
     refine goes_ Tryz.func105 (by kernel_rfl) rfl #[.string a0] (by rfl) rfl rfl (by (try simp only [List.map_toArray, List.map_cons, List.map_nil]); first | done | rfl | (simp only [List.length_drop, List.length_take]; rfl)) ?_
     with_reducible refine (colour_plain.calls _ _ _ A9.out ?side1).mono ?_
     (case side1 => exact LW.below HLW.out bl_)
     rintro e w1 ⟨rfl, hb⟩
     refine ⟨_, rfl, ?_⟩
     replace HB := am_ (below_step bl_ hb)
     (try clear hb)
     (try clear hb2)
     (try clear hk)
     (try clear hi)
     refine hK.out _ _ trivial (fun hHeld => ?_)
     clear hK K
     refine norm_ (a' := ?_) ?_ ?_
     rotate_left
     ·
      show Act.put _ (some 17) _ = _
      simp only [Act.put, List.setIfInBounds_toArray, List.set_cons_zero, List.set_cons_succ, i64_w, i32_w]
      rfl
     refine pw_ 10 (some 18) ?_
     refine pw_ 11 (some 19) ?_
     refine pw_ 12 (some 20) ?_
     first
      | (
       refine pw_ 13 (some 21) ?_
       refine pw_ 14 (some 22) ?_
       refine ow_ 15 (some 23) (fun K hK => ?_)
       refine goes_ Tryz.func24 (by kernel_rfl) rfl #[.string (⟨#[104, 109, 115]⟩ : ByteArray), .string (t204.extract 0 1)] (by rfl) rfl rfl (by (try simp only [List.map_toArray, List.map_cons, List.map_nil]); first | done | rfl | (simp only [List.length_drop, List.length_take]; rfl)) ?_
       with_reducible refine (strings_Contains.calls _ _ _ _ A13.out ?side1).mono ?_
       (case side1 => exact LW.below HLW.out bl_)
       rintro e w' ⟨rfl, ⟨nd, rfl⟩⟩
       refine ⟨_, rfl, ?_⟩
       refine hK.out _ _ trivial (fun hHeld => ?_)
       clear hK K
       refine norm_ (a' := ?_) ?_ ?_
       rotate_left
       ·
        show Act.put _ (some 23) _ = _
        simp only [Act.put, List.setIfInBounds_toArray, List.set_cons_zero, List.set_cons_succ, i64_w, i32_w]
        rfl
       refine pw_ 16 (some 24) ?_
       refine pw_ 17 (some 25) ?_
       refine pw_ 18 (some 26) ?_
       first
        | (
         refine pw_ 19 (some 27) ?_
         refine pw_ 20 (some 28) ?_
         refine pw_ 21 (some 29) ?_
         refine pw_ 23 (some 31) ?_
         refine pw_ 24 (some 32) ?_
         refine ow_ 22 (some 30) (fun K hK => ?_)
         refine goes_ Tryz.func107 (by kernel_rfl) rfl #[.string t204, .string (t204.extract 0 1)] (by rfl) rfl rfl (by (try simp only [List.map_toArray, List.map_cons, List.map_nil]); first | done | rfl | (simp only [List.length_drop, List.length_take]; rfl)) ?_
         with_reducible refine (colour_cutLeft.calls _ _ _ _ A17.out ?side1).mono ?_
         (case side1 => exact LW.below HLW.out bl_)
         rintro e w1 ⟨rfl, hb⟩
         refine ⟨_, rfl, ?_⟩
         replace HB := am_ (below_step bl_ hb)
         (try clear hb)
         (try clear hb2)
         (try clear hk)
         (try clear hi)
         refine hK.out _ _ trivial (fun hHeld => ?_)
         clear hK K
         refine norm_ (a' := ?_) ?_ ?_
         rotate_left
         ·
          show Act.put _ (some 30) _ = _
          simp only [Act.put, List.setIfInBounds_toArray, List.set_cons_zero, List.set_cons_succ, i64_w, i32_w]
          rfl
         refine ow_ 25 (some 33) (fun K hK => ?_)
         refine goes_ Tryz.func106 (by kernel_rfl) rfl #[.string t207, .string (t204.extract 0 1)] (by rfl) rfl rfl (by (try simp only [List.map_toArray, List.map_cons, List.map_nil]); first | done | rfl | (simp only [List.length_drop, List.length_take]; rfl)) ?_
         with_reducible refine (colour_cutRight.calls _ _ _ _ A20.out ?side1).mono ?_
         (case side1 => exact LW.below HLW.out bl_)
         rintro e w1 ⟨rfl, hb⟩
         refine ⟨_, rfl, ?_⟩
         replace HB := am_ (below_step bl_ hb)
         (try clear hb)
         (try clear hb2)
         (try clear hk)
         (try clear hi)
         refine hK.out _ _ trivial (fun hHeld => ?_)
         clear hK K
         refine norm_ (a' := ?_) ?_ ?_
         rotate_left
         ·
          show Act.put _ (some 33) _ = _
          simp only [Act.put, List.setIfInBounds_toArray, List.set_cons_zero, List.set_cons_succ, i64_w, i32_w]
          rfl
         refine pw_ 26 (some 34) ?_
         refine pw_ 27 (some 35) ?_
         refine done_ (done_of HT_.out (by kernel_rfl)) ?_
         try go_wp2
         go_ret3
         exact ⟨er_, bl_⟩)
        | (
         refine pu_ 19 (some 27) ?_
         refine pu_ 20 (some 28) ?_
         refine pu_ 21 (some 29) ?_
         refine pu_ 22 (some 30) ?_
         refine pu_ 23 (some 31) ?_
         refine pu_ 24 (some 32) ?_
         refine pu_ 25 (some 33) ?_
         refine pu_ 26 (some 34) ?_
         refine pw_ 27 (some 35) ?_
         refine done_ (done_of HT_.out (by kernel_rfl)) ?_
         try go_wp2
         go_ret3
         exact ⟨er_, bl_⟩))
      | (
       refine pu_ 13 (some 21) ?_
       refine pu_ 14 (some 22) ?_
       refine pu_ 15 (some 23) ?_
       refine pu_ 16 (some 24) ?_
       refine pw_ 17 (some 25) ?_
       refine pw_ 18 (some 26) ?_
       refine pu_ 19 (some 27) ?_
       refine pu_ 20 (some 28) ?_
       refine pu_ 21 (some 29) ?_
       refine pu_ 22 (some 30) ?_
       refine pu_ 23 (some 31) ?_
       refine pu_ 24 (some 32) ?_
       refine pu_ 25 (some 33) ?_
       refine pu_ 26 (some 34) ?_
       refine pw_ 27 (some 35) ?_
       refine done_ (done_of HT_.out (by kernel_rfl)) ?_
       try go_wp2
       go_ret3
       exact ⟨er_, bl_⟩)))) : p := h
set_option maxHeartbeats 8000000 in
set_option maxRecDepth 100000 in
theorem colour_Elapsed.calls (a0 : ByteArray) (r1 : ByteArray) (r2 : Int) (r3 : Bool) (w : World) (h : colour_Elapsed.f a0 = some (r1, r2, r3)) (HLW_ : LW w) :
 Calls Tryz.prog 81 #[.string a0] w fun e w' => e = .returned (.tuple #[.string r1, .int .i64 r2, .bool r3]) ∧ Below w.heap.size w w' := by
 have HLW := am_ HLW_
 clear HLW_
 have HB := am_ (Below.refl w.heap.size w)
 have H : ((strings_ToLower.f a0).bind fun t204 => (if t204.toList = ([] : List UInt8) then (some ((⟨#[]⟩ : ByteArray), 0, false)) else (if (t204.size : Int) > 9 then (some ((⟨#[]⟩ : ByteArray), 0, false)) else ((colour_plain.f a0).bind fun t205 => (if t205 = true then (if 0 ≤ 1 then (if 1 ≤ (t204.size : Int) then ((strings_Contains.f (⟨#[104, 109, 115]⟩ : ByteArray) (t204.extract 0 1)).bind fun t206 => (if t206 = true then ((colour_cutLeft.f t204 (t204.extract 0 1)).bind fun t207 => ((colour_cutRight.f t207 (t204.extract 0 1)).bind fun t208 => (if t208.toList = ([] : List UInt8) then (some (t204.extract 0 1, (t204.size : Int), true)) else (some ((⟨#[]⟩ : ByteArray), 0, false))))) else (some ((⟨#[]⟩ : ByteArray), 0, false)))) else (none)) else (none)) else (some ((⟨#[]⟩ : ByteArray), 0, false))))))) = some (r1, r2, r3) := h
 clear h
 replace H := bd_ H
 obtain ⟨t204, A2, H⟩ := H
 replace H := ie_ H
 rcases H with ⟨-, c3b0, c3b1, H⟩ | ⟨c3, c3b0, c3b1, H⟩
 ·
  exact colour_Elapsed.k1
 ·
  replace H := il_ H
  rcases H with ⟨c6, c6b0, H⟩ | ⟨c6, c6b0, H⟩
  ·
   have c6b1 : decide (9 < t204.size) = true := decide_eq_true (by omega)
   clear c6
   exact colour_Elapsed.k1
  ·
   have c6b1 : decide (9 < t204.size) = false := decide_eq_false (by omega)
   clear c6
   replace H := bd_ H
   obtain ⟨t205, A9, H⟩ := H
   replace H := ib_ H
   rcases H with ⟨rfl, H⟩ | ⟨rfl, H⟩
   ·
    have c11 : 0 ≤ 1 := by decide
    rw [if_pos c11] at H
    have c11b0 := eq_true c11
    have c11b1 : decide (0 ≤ 1) = true := decide_eq_true c11
    clear c11
    replace H := ixl_ H
    obtain ⟨c12, -, H⟩ := H
    have c12b0 := eq_true c12
    have c12b1 : decide (1 ≤ (t204.size : Int)) = true := decide_eq_true c12
    clear c12
    replace H := bd_ H
    obtain ⟨t206, A13, H⟩ := H
    replace H := ib_ H
    rcases H with ⟨rfl, H⟩ | ⟨rfl, H⟩
    ·
     have c15b0 := eq_true (da_ : 0 ≤ 1)
     have c16b0 := eq_true (da_ : 1 ≤ (t204.size : Int))
     replace H := bd_ H
     obtain ⟨t207, A17, H⟩ := H
     have c18b0 := eq_true (da_ : 0 ≤ 1)
     have c19b0 := eq_true (da_ : 1 ≤ (t204.size : Int))
     replace H := bd_ H
     obtain ⟨t208, A20, H⟩ := H
     replace H := ie_ H
     rcases H with ⟨-, c21b0, c21b1, H⟩ | ⟨c21, c21b0, c21b1, H⟩
     ·
      have c22b0 := eq_true (da_ : 0 ≤ 1)
      have c23b0 := eq_true (da_ : 1 ≤ (t204.size : Int))
      exact colour_Elapsed.k1
     ·
      exact colour_Elapsed.k1
    ·
     exact colour_Elapsed.k1
   ·
    exact colour_Elapsed.k1

end Go.Proofs.YtiidpicgdjjikaaGreatDoor.P
