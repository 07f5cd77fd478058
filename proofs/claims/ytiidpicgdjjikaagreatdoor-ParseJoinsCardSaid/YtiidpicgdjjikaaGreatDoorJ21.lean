import Derived.Test.YtiidpicgdjjikaaGreatDoorJ6
import Derived.Test.YtiidpicgdjjikaaGreatDoorJ19
import Derived.Test.YtiidpicgdjjikaaGreatDoorJ20
namespace Go.Proofs.YtiidpicgdjjikaaGreatDoor.P
open Go.RowKit Go.Proofs.YtiidpicgdjjikaaGreatDoor.G Go.Proofs.YtiidpicgdjjikaaGreatDoorW.PrintWords Go.Proofs.YtiidpicgdjjikaaGreatDoorW.PrintLast Go.Proofs.YtiidpicgdjjikaaGreatDoorW.PrintMore
attribute [local go_sem] isSome_setCell_eq max2_int min2_int max_two min_two max_three min_three max_four min_four
set_option linter.unusedVariables false
set_option linter.unusedSimpArgs false

def nat_Made.l0 : Nat → List Int → Int → Option (List Int)
 | 0, _, _ => none
 | k + 1, x0, x3 => if x3 > 0 then (if 0 ≤ (wrap64 (x3 - 1)) then (if (wrap64 (x3 - 1)) < (x0.length : Int) then (if (rd x0 (wrap64 (x3 - 1))) = 0 then (nat_Made.l0 k x0 (wrap64 (x3 - 1))) else (if 0 ≤ x3 then (if x3 ≤ (x0.length : Int) then ((slices_CloneU32.f (x0.take (x3 : Int).toNat)).bind fun t228 => (some t228)) else (none)) else (none))) else (none)) else (none)) else (if 0 ≤ x3 then (if x3 ≤ (x0.length : Int) then ((slices_CloneU32.f (x0.take (x3 : Int).toNat)).bind fun t232 => (some t232)) else (none)) else (none))
def nat_Made.f (k : Nat) (l0 : List Int) : Option (List Int) := nat_Made.l0 k l0 (l0.length : Int)
theorem nat_Made.mono_l : ∀ k, (∀ y0 y1, LeO (nat_Made.l0 k y0 y1) (nat_Made.l0 (k + 1) y0 y1))
 | 0 => fun _ _ r h => by simp [nat_Made.l0] at h
 | k + 1 => by
  have ih0 := nat_Made.mono_l k
  ·
   intro y0 y1
   unfold nat_Made.l0
   repeat' first
   | (with_reducible exact ih0 _ _)
   | (with_reducible exact LeO.refl _)
   | (with_reducible exact LeO.none _)
   | (with_reducible refine LeO.ite ?_ ?_)
   | (with_reducible refine LeO.bind ?_ (fun _ => ?_))
   | exact ih0 _ _
   | exact LeO.none _
   | refine LeO.ite ?_ ?_
   | refine LeO.bind ?_ (fun _ => ?_)
theorem nat_Made.mono : ∀ a0 k, LeO (nat_Made.f k a0) (nat_Made.f (k + 1) a0) := by
 intro a0 k
 have ih0 := nat_Made.mono_l k
 unfold nat_Made.f
 repeat' first | with_reducible first | exact ih0 _ _ | exact LeO.refl _ | exact LeO.none _ | refine LeO.ite ?_ ?_ | refine LeO.bind ?_ (fun _ => ?_)
set_option maxRecDepth 1000000 in
theorem nat_Made.k1 {p : Prop} (h : p := by
 first | (obtain rfl := Option.some.inj H) | (have H' := am_ H; clear H)
 first
  | (
   have p226 : 0 ≤ ((ji4) : Int) := da_
   have q226 : (ji4) < (l0.length : Int) := da_
   obtain ⟨ad226, e226, hx226_0⟩ := Kd.at_int HR0.out (ji4) p226 q226
   cases e226
   replace hx226_0 := (HB.out.cell (World.block_lt_of_cell? w _ hx226_0)).trans hx226_0
   replace p226 := eq_true p226
   replace q226 := eq_true q226
   first
    | (
     go_wp2
     go_roundg k1
     case measure => have := HK1.out; omega
     case rel => exact ⟨(ji4), (by first | rfl | (simp; done) | (simp only [← hji4] <;> (first | rfl | simp)) | (simp [*]; done)), H', ⟨by have := HK1.out; omega⟩, ⟨bk_ BK225.out⟩, ⟨bl_⟩⟩)
    | (
     obtain ⟨i011, hi011, _, hsz11, _⟩ := info_parts info96
     obtain ⟨hcut11, hA11, hC11⟩ := print_take_of (P := Tryz.prog) (Value.int .u32) 0 215 96 .i64 Tryz.underlying215 hi011 hsz11 (some ad226) c0 l0 x3_1 (da_) (da_) HC0.out
     have HR227 := am_ (Kd.C_of_reads (h1 := fun _ => rfl) (hA11 _ (Kd.reads_of_C HR0.out)))
     have HC227 := am_ hC11
     clear hA11 hC11 hi011 hsz11
     try go_wp2_with (first | ((with_reducible refine gate_callee (f := 199) rfl ?_); refine goesL_ (some 21) rfl rfl Tryz.func199 (by kernel_rfl) rfl #[.slice (some ad226) (l0.take (x3_1 : Int).toNat).length c0] rfl (by (try simp only [List.map_toArray, List.map_cons, List.map_nil]); first | done | (rw [show (l0.take (x3_1 : Int).toNat).length = x3_1.toNat from (by rw [List.length_take]; have h_ : (x3_1 : Int) ≤ (l0.length : Int) := da_; omega)] <;> rfl) | rfl | (simp only [List.length_drop, List.length_take]; rfl)) ?_; (with_reducible refine (slices_CloneU32.calls _ _ _ _ _ ?side1 ?side2 A10.out).mono ?_); (case side1 => exact kc_ (Kd.C_below HR227.out HB.out)); (case side2 => exact HC227.out); rintro e w1 ⟨v229, rfl, ho0, hb⟩; refine ⟨_, rfl, ?_⟩; have HO230 := am_ (Kd.R_lower ho0 (below_size bl_)); replace BK225 := bb_ BK225 hb; replace HB := sb_ hb; clear hb ho0; obtain ⟨Ao3, co3, eo3⟩ := Kd.R_slice HO230.out; subst eo3; obtain ⟨hcz4_0, hfz4_0⟩ := cz1_ BK225.out))
     refine bodyPost_ret (results_cell_row rfl _ _ gb225 217 _ (0, 0) _ rfl (bp_ BK225.out) Tryz.underlying217 rfl (by kernel_rfl)) rfl ?_
     exact ⟨_, by first | rfl | (simp [errW_none, errW_some] <;> rfl) | (simp only [← hji4]; first | rfl | (simp [errW_none, errW_some] <;> rfl)) | (simp [*, errW_none, errW_some] <;> rfl), Kd.R_mono (rf_ gb225 (Kd.R_types HO230.out BK225.out (by decide)) (fun _ hk => hk.2)) (fun _ hk => trivial), bl_⟩))
  | (
   obtain ⟨i018, hi018, _, hsz18, _⟩ := info_parts info96
   obtain ⟨hcut18, hA18, hC18⟩ := print_take_of (P := Tryz.prog) (Value.int .u32) 0 215 96 .i64 Tryz.underlying215 hi018 hsz18 A0 c0 l0 x3_1 (da_) (da_) HC0.out
   have HR231 := am_ (Kd.C_of_reads (h1 := fun _ => rfl) (hA18 _ (Kd.reads_of_C HR0.out)))
   have HC231 := am_ hC18
   clear hA18 hC18 hi018 hsz18
   try go_wp2_with (first | ((with_reducible refine gate_callee (f := 199) rfl ?_); refine goesL_ (some 21) rfl rfl Tryz.func199 (by kernel_rfl) rfl #[.slice A0 (l0.take (x3_1 : Int).toNat).length c0] rfl (by (try simp only [List.map_toArray, List.map_cons, List.map_nil]); first | done | (rw [show (l0.take (x3_1 : Int).toNat).length = x3_1.toNat from (by rw [List.length_take]; have h_ : (x3_1 : Int) ≤ (l0.length : Int) := da_; omega)] <;> rfl) | rfl | (simp only [List.length_drop, List.length_take]; rfl)) ?_; (with_reducible refine (slices_CloneU32.calls _ _ _ _ _ ?side1 ?side2 A17.out).mono ?_); (case side1 => exact kc_ (Kd.C_below HR231.out HB.out)); (case side2 => exact HC231.out); rintro e w5 ⟨v233, rfl, ho0, hb⟩; refine ⟨_, rfl, ?_⟩; have HO234 := am_ (Kd.R_lower ho0 (below_size bl_)); replace BK225 := bb_ BK225 hb; replace HB := sb_ hb; clear hb ho0; obtain ⟨Ao6, co6, eo6⟩ := Kd.R_slice HO234.out; subst eo6; obtain ⟨hcz4_0, hfz4_0⟩ := cz1_ BK225.out))
   refine bodyPost_ret (results_cell_row rfl _ _ gb225 217 _ (0, 0) _ rfl (bp_ BK225.out) Tryz.underlying217 rfl (by kernel_rfl)) rfl ?_
   exact ⟨_, er_, Kd.R_mono (rf_ gb225 (Kd.R_types HO234.out BK225.out (by decide)) (fun _ hk => hk.2)) (fun _ hk => trivial), bl_⟩)) : p := h
set_option maxHeartbeats 8000000 in
set_option maxRecDepth 100000 in
theorem nat_Made.calls (k : Nat) (A0 : Option Addr) (c0 : Nat) (l0 : List Int) (r : List Int) (w : World) (hr0 : Kd.C (Kd.int .u32) w A0 l0.length l0) (hc0 : l0.length ≤ c0) (h : nat_Made.f k l0 = some r) :
 Calls Tryz.prog 189 #[.slice A0 l0.length c0] w fun e w' => ∃ v0_ : Value, e = .returned (.agg #[v0_]) ∧ Kd.R (Kd.int .u32) 96 w' w.heap.size (fun _ => True) v0_ r ∧ Below w.heap.size w w' := by
 have hu217 := Tryz.underlying217
 have HR0 := am_ hr0
 have HC0 := am_ hc0
 clear hr0 hc0
 have HB := am_ (Below.refl w.heap.size w)
 have H : (nat_Made.l0 k l0 (l0.length : Int)) = some r := h
 clear h
 have H' := am_ H
 clear H
 go_enter Tryz.func189, Tryz.ntmps189
 go_wp2_with (first | ((with_reducible refine gate_dst (N := 2) rfl ?_); refine bx_ (N := 2) (cs := #[.slice none 0 0]) (t := 217) ?_; intro gb225 hg w2 hbox hb; have BK225 := am_ hbox; have GW225 := am_ (bg_ hg : w.heap.size ≤ gb225); replace HB := sb_ hb; clear hb hbox hg))
 go_loopg [3] k (fun kq v3 w' => ∃ (x3_1 : Int), v3 = .int .i64 x3_1 ∧ Aside0 (nat_Made.l0 kq l0 x3_1 = some r) ∧ Aside0 (kq ≤ k) ∧ Aside0 (w'.heap[gb225]? = some (.cells #[(.slice none 0 0)] 217 (0, 0))) ∧ Aside0 (Below w.heap.size w w'))
 case atStart => exact ⟨((l0.length : Int)), sr_, H', ⟨Nat.le_refl _⟩, ⟨bk_ BK225.out⟩, ⟨bl_⟩⟩
 case round =>
  clear H'
  try clear c1
  try clear p2
  obtain ⟨x3_1, rfl, HA, HK1, BK225, HB⟩ := hrel
  cases gk with
  | zero => exact absurd HA.out (by simp [nat_Made.l0])
  | succ k1 =>
   have H := HA.out
   clear HA
   simp only [nat_Made.l0] at H
   replace H := il_ H
   rcases H with ⟨-, c3b0, H⟩ | ⟨-, c3b0, H⟩
   ·
    obtain ⟨ji4, hji4⟩ : ∃ j_ : Int, (wrap64 (x3_1 - 1)) = j_ := ⟨_, rfl⟩
    replace H : (if 0 ≤ (ji4) then (if (ji4) < (l0.length : Int) then (if (rd l0 (ji4)) = 0 then (nat_Made.l0 k1 l0 ji4) else (if 0 ≤ x3_1 then (if x3_1 ≤ (l0.length : Int) then ((slices_CloneU32.f (l0.take (x3_1 : Int).toNat)).bind fun t228 => (some t228)) else (none)) else (none))) else (none)) else (none)) = some r := by first | (rw [hji4] at H; exact H) | (simp only [hji4] at H ⊢; exact H)
    have hji4w : (IntKind.i64.wrap (x3_1 - 1)) = ji4 := (i64_w _).trans hji4
    replace H := ixl_ H
    obtain ⟨-, c5b0, H⟩ := H
    replace H := ixl_ H
    obtain ⟨-, c6b0, H⟩ := H
    replace H := ie_ H
    rcases H with ⟨-, c7b0, c7b1, H⟩ | ⟨c7, c7b0, c7b1, H⟩
    ·
     exact nat_Made.k1
    ·
     replace H := ixl_ H
     obtain ⟨c8, -, H⟩ := H
     have c8b0 := eq_true c8
     have c8b1 : decide (0 ≤ x3_1) = true := decide_eq_true c8
     clear c8
     replace H := ixl_ H
     obtain ⟨c9, -, H⟩ := H
     have c9b0 := eq_true c9
     have c9b1 : decide (x3_1 ≤ (l0.length : Int)) = true := decide_eq_true c9
     clear c9
     replace H := bd_ H
     obtain ⟨t228, A10, H⟩ := H
     exact nat_Made.k1
   ·
    replace H := ixl_ H
    obtain ⟨c15, -, H⟩ := H
    have c15b0 := eq_true c15
    have c15b1 : decide (0 ≤ x3_1) = true := decide_eq_true c15
    clear c15
    replace H := ixl_ H
    obtain ⟨c16, -, H⟩ := H
    have c16b0 := eq_true c16
    have c16b1 : decide (x3_1 ≤ (l0.length : Int)) = true := decide_eq_true c16
    clear c16
    replace H := bd_ H
    obtain ⟨t232, A17, H⟩ := H
    exact nat_Made.k1


def nat_Add.l0 : Nat → List Int → Int → Int → Int → List Int → List Int → Option (List Int)
 | 0, _, _, _, _, _, _ => none
 | k + 1, x6, x7, x20, x21, x236000, x237000 => if x21 < x20 then ((nat_Nat_at.f x236000 x21).bind fun t241 => ((nat_Nat_at.f x237000 x21).bind fun t242 => ((bits_Add32.f t241 t242 x7).bind fun bt243 => (if 0 ≤ x21 then (if x21 < (x6.length : Int) then (nat_Add.l0 k (x6.set (x21 : Int).toNat bt243.1) bt243.2 x20 (wrap64 (x21 + 1)) x236000 x237000) else (none)) else (none))))) else ((nat_Made.f k x6).bind fun t246 => (some t246))
def nat_Add.f (k : Nat) (l0_0 : List Int) (l1_0 : List Int) : Option (List Int) := if 0 ≤ (wrap64 ((mx (l0_0.length : Int) (l1_0.length : Int)) + 1)) then (if (wrap64 ((mx (l0_0.length : Int) (l1_0.length : Int)) + 1) : Int).toNat ≤ 70368744177664 then ((some (List.replicate (wrap64 ((mx (l0_0.length : Int) (l1_0.length : Int)) + 1) : Int).toNat 0 : List Int)).bind fun y238 => (nat_Add.l0 k y238 0 (y238.length : Int) 0 l0_0 l1_0)) else (none)) else (none)
theorem nat_Add.mono_l : ∀ k, (∀ y0 y1 y2 y3 y4 y5, LeO (nat_Add.l0 k y0 y1 y2 y3 y4 y5) (nat_Add.l0 (k + 1) y0 y1 y2 y3 y4 y5))
 | 0 => fun _ _ _ _ _ _ r h => by simp [nat_Add.l0] at h
 | k + 1 => by
  have ih0 := nat_Add.mono_l k
  ·
   intro y0 y1 y2 y3 y4 y5
   unfold nat_Add.l0
   repeat' first
   | (with_reducible exact ih0 _ _ _ _ _ _)
   | (with_reducible exact nat_Made.mono _ _)
   | (with_reducible exact LeO.refl _)
   | (with_reducible exact LeO.none _)
   | (with_reducible refine LeO.ite ?_ ?_)
   | (with_reducible refine LeO.bind ?_ (fun _ => ?_))
   | exact ih0 _ _ _ _ _ _
   | exact nat_Made.mono _ _
   | exact LeO.none _
   | refine LeO.ite ?_ ?_
   | refine LeO.bind ?_ (fun _ => ?_)
theorem nat_Add.mono : ∀ a0 a1 k, LeO (nat_Add.f k a0 a1) (nat_Add.f (k + 1) a0 a1) := by
 intro a0 a1 k
 have ih0 := nat_Add.mono_l k
 unfold nat_Add.f
 repeat' first | with_reducible first | exact ih0 _ _ _ _ _ _ | exact nat_Made.mono _ _ | exact LeO.refl _ | exact LeO.none _ | refine LeO.ite ?_ ?_ | refine LeO.bind ?_ (fun _ => ?_)
def nat_Add.T7 : Bool × List (List Nat × List Nat) := (true, [([], []), ([], []), ([], []), ([], []), ([2, 3], [2, 3]), ([], []), ([], []), ([5, 6, 4], [5, 6]), ([], []), ([4, 7, 8, 7], [4, 7, 8]), ([9], [9]), ([10], [10]), ([10], [10]), ([0, 1, 0, 1, 2, 3, 4, 5, 6, 7, 8, 9, 10, 11], [0, 1]), ([13, 11, 9, 0, 1, 2, 3, 4, 5, 6, 7, 8, 9, 10, 11], [11, 13]), ([12, 14, 0, 1, 2, 3, 4, 5, 6, 7, 8, 9, 10, 11, 12, 13, 14], [8, 12])])
def nat_Add.B7 : List Nat := [0, 0, 0, 0, 12, 0, 0, 124, 0, 508, 1020, 2044, 2044, 4095, 12287, 32767]
theorem nat_Add.tab7 : rtab .any (opsOf Tryz.f168 7) = nat_Add.T7 := by kernel_rfl
theorem nat_Add.bits7 : waitsOk nat_Add.T7.2 nat_Add.B7 = true := by kernel_rfl
set_option maxRecDepth 1000000 in
theorem nat_Add.k1 {p : Prop} (h : p := by
 first | (obtain rfl := Option.some.inj H) | (have H' := am_ H; clear H)
 first
  | (
   try go_wp2
   refine gz_ 16 ?_
   replace HO_6 := am_ (Kd.R_drew HO_6.out)
   replace BK235 := am_ (blk_drew BK235.out)
   replace BK236 := am_ (blk_drew BK236.out)
   replace BK237 := am_ (blk_drew BK237.out)
   replace HB := am_ (below_drew1 HB.out)
   refine sw_ (n := 16) (S := fun w' => w'.cell? ⟨gb235, 0, none⟩ = some (.slice A0_0 l0_0.length c0_0) ∧ w'.cell? ⟨gb236, 0, none⟩ = some (.slice A1_0 l1_0.length c1_0)) (ds := [14]) ⟨(blk_cell BK235.out 0).trans rfl, (blk_cell BK236.out 0).trans rfl⟩ (fun hHeld => ?_); refine with_tabW nat_Add.tab7 nat_Add.bits7 (fun HT_ HW_ => ?_)
   generalize wr.drew = w1 at HO_6 BK235 BK236 BK237 HB hHeld ⊢
   refine pw_ 0 (some 25) ?_
   refine pw_ 1 (some 26) ?_
   refine pw_ 3 (some 28) ?_
   refine pw_ 6 (some 31) ?_
   refine pw_ 8 (some 33) ?_
   refine tw_ 2 (some 27) hHeld ?_
   refine tw_ 5 (some 30) hHeld ?_
   refine ow_ 4 (some 29) (fun K hK => ?_)
   refine goes_ Tryz.func188 (by kernel_rfl) rfl #[.agg #[.slice A0_0 l0_0.length c0_0], .int .i64 x21_1] (by rfl) rfl rfl (by (try simp only [List.map_toArray, List.map_cons, List.map_nil]); first | done | rfl | (simp only [List.length_drop, List.length_take]; rfl)) ?_
   with_reducible refine (nat_Nat_at.calls _ _ _ _ _ _ ?side1 ?side2 A19.out).mono ?_
   (case side1 => exact kc_ (Kd.C_below HR0_0.out HB.out))
   (case side2 => exact HC0_0.out)
   rintro e w2 ⟨rfl, hb⟩
   refine ⟨_, rfl, ?_⟩
   replace HO_6 := rb_ HO_6 hb
   replace BK235 := bb_ BK235 hb
   replace BK236 := bb_ BK236 hb
   replace BK237 := bb_ BK237 hb
   replace HB := am_ (below_step bl_ hb)
   (try clear hb)
   (try clear hb2)
   (try clear hk)
   (try clear hi)
   refine hK.out _ _ ⟨(blk_cell BK235.out 0).trans rfl, (blk_cell BK236.out 0).trans rfl⟩ (fun hHeld => ?_)
   clear hK K
   refine norm_ (a' := ?_) ?_ ?_
   rotate_left
   ·
    show Act.put _ (some 29) _ = _
    simp only [Act.put, List.setIfInBounds_toArray, List.set_cons_zero, List.set_cons_succ, i64_w, i32_w]
    rfl
   refine ow_ 7 (some 32) (fun K hK => ?_)
   refine goes_ Tryz.func188 (by kernel_rfl) rfl #[.agg #[.slice A1_0 l1_0.length c1_0], .int .i64 x21_1] (by rfl) rfl rfl (by (try simp only [List.map_toArray, List.map_cons, List.map_nil]); first | done | rfl | (simp only [List.length_drop, List.length_take]; rfl)) ?_
   with_reducible refine (nat_Nat_at.calls _ _ _ _ _ _ ?side1 ?side2 A20.out).mono ?_
   (case side1 => exact kc_ (Kd.C_below HR1_0.out HB.out))
   (case side2 => exact HC1_0.out)
   rintro e w2 ⟨rfl, hb⟩
   refine ⟨_, rfl, ?_⟩
   replace HO_6 := rb_ HO_6 hb
   replace BK235 := bb_ BK235 hb
   replace BK236 := bb_ BK236 hb
   replace BK237 := bb_ BK237 hb
   replace HB := am_ (below_step bl_ hb)
   (try clear hb)
   (try clear hb2)
   (try clear hk)
   (try clear hi)
   refine hK.out _ _ ⟨(blk_cell BK235.out 0).trans rfl, (blk_cell BK236.out 0).trans rfl⟩ (fun hHeld => ?_)
   clear hK K
   refine norm_ (a' := ?_) ?_ ?_
   rotate_left
   ·
    show Act.put _ (some 32) _ = _
    simp only [Act.put, List.setIfInBounds_toArray, List.set_cons_zero, List.set_cons_succ, i64_w, i32_w]
    rfl
   refine ow_ 9 (some 34) (fun K hK => ?_)
   refine goes_ Tryz.func187 (by kernel_rfl) rfl #[.int .u32 t241, .int .u32 t242, .int .u32 x7_1] (by rfl) rfl rfl (by (try simp only [List.map_toArray, List.map_cons, List.map_nil]); first | done | rfl | (simp only [List.length_drop, List.length_take]; rfl)) ?_
   with_reducible refine (bits_Add32.calls _ _ _ _ _ _ A21.out).mono ?_
   rintro e w' ⟨rfl, ⟨nd, rfl⟩⟩
   refine ⟨_, rfl, ?_⟩
   have p24 : 0 ≤ (x21_1 : Int) := da_
   have q24 : (x21_1 : Int) < ((x6_1.length : Int) : Int) := da_
   obtain ⟨go24, co3, eo3, gb24, gl24, cl24, HG24⟩ := Kd.R_form HO_6.out (by omega)
   (first | cases eo3 | (injection eo3 with ea_ en_ ec_; (first | subst ea_ | (injection ea_ with ea_; subst ea_)); subst ec_; clear en_))
   have GB24 := am_ gb24
   have GG24 := am_ HG24
   clear gb24 gl24 HG24
   obtain ⟨hx24_0, hf24_0⟩ := Kd.R_celln 0 HO_6.out (x21_1 : Int) p24 q24
   replace p24 := eq_true p24
   replace q24 := eq_true q24
   have HP28 := Kd.R_putn HO_6.out (x21_1 : Int) t243
   rw [← Ny245.out] at HP28
   have HQ28 := am_ HP28
   clear HP28
   refine hK.out _ _ ⟨(blk_cell BK235.out 0).trans rfl, (blk_cell BK236.out 0).trans rfl⟩ (fun hHeld => ?_)
   clear hK K
   refine norm_ (a' := ?_) ?_ ?_
   rotate_left
   ·
    show Act.put _ (some 34) _ = _
    simp only [Act.put, List.setIfInBounds_toArray, List.set_cons_zero, List.set_cons_succ, i64_w, i32_w]
    rfl
   refine pw_ 10 (some 24) ?_
   refine pw_ 11 (some 35) ?_
   refine pw_ 12 (some 36) ?_
   refine pw_ 13 (some 37) ?_
   refine last_ (i := 14) (N := none) #[true, true, true, true, true, true, true, true, true, true, true, true, true, true, true, false] rfl rfl (one_of HT_.out (by kernel_rfl)) (by decide) (fun K hK => ?_)
   refine skip_ (w1 := ?_) (by rfl) rfl ?_ ?_
   rotate_left
   ·
    go_simp
    rfl
   refine hK.out _ _ ?_
   clear hK K
   refine pw_ 15 (some 7) ?_
   refine done_ (done_of HT_.out (by kernel_rfl)) ?_
   try go_wp2
   (try simp only [← hl6_1])
   go_roundg k1
   case measure => have := HK1.out; omega
   case rel => exact ⟨(y245), (t244), (wrap64 (x21_1 + 1)), sr_, sr_, H', ⟨by have := HK1.out; omega⟩, ⟨by (try simp only [hl6_1]); (with_reducible repeat (first | apply Kd.R_alloc | apply Kd.R_drewN | apply Kd.R_drew)); exact HQ28.out⟩, ⟨by (try simp only [hl6_1]); refine bk_ ?_; refine blk_far ?_ (by have h_ := Kd.R_ne HO_6.out BK235.out (by decide); intro e_; exact h_ (by rw [e_]; rfl)) _; refine bk_ ?_; exact BK235.out⟩, ⟨by (try simp only [hl6_1]); refine bk_ ?_; refine blk_far ?_ (by have h_ := Kd.R_ne HO_6.out BK236.out (by decide); intro e_; exact h_ (by rw [e_]; rfl)) _; refine bk_ ?_; exact BK236.out⟩, ⟨by (try simp only [hl6_1]); refine bk_ ?_; refine blk_far ?_ (by have h_ := Kd.R_ne HO_6.out BK237.out (by decide); intro e_; exact h_ (by rw [e_]; rfl)) _; refine bk_ ?_; exact BK237.out⟩, ⟨by repeat (first | (with_reducible first | exact HB.out | apply below_alloc | apply pw_below_drewN | apply below_drew1 | refine below_set ?_ GB24.out | refine below_set ?_ GE235.out | refine below_set ?_ GE236.out | refine below_set ?_ GE237.out) | exact HB.out)⟩⟩)
  | (
   try go_wp2_with (first | ((with_reducible refine gate_callee (f := 189) rfl ?_); refine gc_ (some 40) rfl rfl Tryz.func189 rfl #[.slice Ao17 x6_1.length co17] rfl ?_; (with_reducible refine (nat_Made.calls _ _ _ _ _ _ ?side1 ?side2 A29.out).mono ?_); (case side1 => exact kc_ (Kd.R_reads' HO_6.out).2.2); (case side2 => exact (Kd.R_reads' HO_6.out).2.1); rintro e w4 ⟨v247, rfl, ho0, hb⟩; refine ⟨_, rfl, ?_⟩; have HO248 := am_ (Kd.R_lower (Kd.R_new' ho0 (Kd.R_lt (kr_ HO_6.out))) (below_size bl_)); replace HO_6 := am_ (Kd.R_elder' (kr_ HO_6.out) (Kd.R_base ho0) hb); replace BK235 := bb_ BK235 hb; replace BK236 := bb_ BK236 hb; replace BK237 := bb_ BK237 hb; replace HB := sb_ hb; clear hb ho0; obtain ⟨Ao5, co5, eo5⟩ := Kd.R_slice HO248.out; subst eo5; have hnb6 := NB237_235.out; have hnc6 := NB235_237.out; have hnb16 := NB237_236.out; have hnc16 := NB236_237.out; obtain ⟨hcz18_0, hfz18_0⟩ := cz1_ BK237.out))
   refine bodyPost_ret (results_cell_row rfl _ _ gb237 217 _ (0, 0) _ rfl (bp_ BK237.out) Tryz.underlying217 rfl (by kernel_rfl)) rfl ?_
   exact ⟨_, by first | rfl | (simp [errW_none, errW_some] <;> rfl) | (simp only [← hji3, ← hji4]; first | rfl | (simp [errW_none, errW_some] <;> rfl)) | (simp [*, errW_none, errW_some] <;> rfl), Kd.R_mono (rf_ gb237 (Kd.R_types HO248.out BK237.out (by decide)) (fun _ hk => hk.2)) (fun _ hk => trivial), bl_⟩)) : p := h
set_option maxHeartbeats 8000000 in
set_option maxRecDepth 100000 in
theorem nat_Add.calls (k : Nat) (A0_0 : Option Addr) (c0_0 : Nat) (l0_0 : List Int) (A1_0 : Option Addr) (c1_0 : Nat) (l1_0 : List Int) (r : List Int) (w : World) (hr0_0 : Kd.C (Kd.int .u32) w A0_0 l0_0.length l0_0) (hc0_0 : l0_0.length ≤ c0_0) (hr1_0 : Kd.C (Kd.int .u32) w A1_0 l1_0.length l1_0) (hc1_0 : l1_0.length ≤ c1_0) (h : nat_Add.f k l0_0 l1_0 = some r) :
 Calls Tryz.prog 168 #[.agg #[.slice A0_0 l0_0.length c0_0], .agg #[.slice A1_0 l1_0.length c1_0]] w fun e w' => ∃ v0_ : Value, e = .returned (.agg #[v0_]) ∧ Kd.R (Kd.int .u32) 96 w' w.heap.size (fun _ => True) v0_ r ∧ Below w.heap.size w w' := by
 have hu217 := Tryz.underlying217
 have HR0_0 := am_ hr0_0
 have HC0_0 := am_ hc0_0
 clear hr0_0 hc0_0
 have HR1_0 := am_ hr1_0
 have HC1_0 := am_ hc1_0
 clear hr1_0 hc1_0
 have HB := am_ (Below.refl w.heap.size w)
 have H : (if 0 ≤ (wrap64 ((mx (l0_0.length : Int) (l1_0.length : Int)) + 1)) then (if (wrap64 ((mx (l0_0.length : Int) (l1_0.length : Int)) + 1) : Int).toNat ≤ 70368744177664 then ((some (List.replicate (wrap64 ((mx (l0_0.length : Int) (l1_0.length : Int)) + 1) : Int).toNat 0 : List Int)).bind fun y238 => (nat_Add.l0 k y238 0 (y238.length : Int) 0 l0_0 l1_0)) else (none)) else (none)) = some r := h
 clear h
 obtain ⟨ji3, hji3⟩ : ∃ j_ : Int, (mx (l0_0.length : Int) (l1_0.length : Int)) = j_ := ⟨_, rfl⟩
 replace H : (if 0 ≤ (wrap64 ((ji3) + 1)) then (if (wrap64 ((ji3) + 1) : Int).toNat ≤ 70368744177664 then ((some (List.replicate (wrap64 ((ji3) + 1) : Int).toNat 0 : List Int)).bind fun y238 => (nat_Add.l0 k y238 0 (y238.length : Int) 0 l0_0 l1_0)) else (none)) else (none)) = some r := by first | (rw [hji3] at H; exact H) | (simp only [hji3] at H ⊢; exact H)
 (try (have hji3l : 0 ≤ ji3 := by (rw [← hji3]; unfold mx; (repeat' split) <;> omega)))
 (try (have hji3m : 0 ≤ ji3 := by omega))
 have hji3_ : (if (l0_0.length : Int) < (l1_0.length : Int) then (l1_0.length : Int) else (l0_0.length : Int)) = ji3 := hji3
 (try (have hji3n_ : (if l0_0.length < l1_0.length then (l1_0.length : Int) else (l0_0.length : Int)) = ji3 := by (rw [← hji3_]; (repeat' split) <;> first | rfl | omega)))
 obtain ⟨ji4, hji4⟩ : ∃ j_ : Int, (wrap64 ((ji3) + 1)) = j_ := ⟨_, rfl⟩
 replace H : (if 0 ≤ (ji4) then (if (ji4 : Int).toNat ≤ 70368744177664 then ((some (List.replicate (ji4 : Int).toNat 0 : List Int)).bind fun y238 => (nat_Add.l0 k y238 0 (y238.length : Int) 0 l0_0 l1_0)) else (none)) else (none)) = some r := by first | (rw [hji4] at H; exact H) | (simp only [hji4] at H ⊢; exact H)
 have hji4w : (IntKind.i64.wrap ((ji3) + 1)) = ji4 := (i64_w _).trans hji4
 replace H := ixl_ H
 obtain ⟨c5, -, H⟩ := H
 have c5b0 := eq_true c5
 have c5b1 : decide (0 ≤ (ji4)) = true := decide_eq_true c5
 clear c5
 replace H := ixl_ H
 obtain ⟨c6, -, H⟩ := H
 have c6b0 := eq_true c6
 have c6b1 : decide ((ji4 : Int).toNat ≤ 70368744177664) = true := decide_eq_true c6
 clear c6
 obtain ⟨y238, hy238⟩ : ∃ y_ : List Int, y_ = (List.replicate (ji4 : Int).toNat 0) := ⟨_, rfl⟩
 replace H : (nat_Add.l0 k y238 0 (y238.length : Int) 0 l0_0 l1_0) = some r := by first | (rw [hy238]; with_reducible exact H) | (have H2_ := (Option.bind_some _ _).symm.trans H; rw [hy238]; with_reducible exact H2_) | (have H2_ := (Option.bind_some _ _).symm.trans H; with_reducible exact H2_) | with_reducible exact H | (rw [hy238]; exact H) | exact H
 have Ny238 := am_ hy238
 clear hy238
 have H' := am_ H
 clear H
 go_enter Tryz.func168, Tryz.ntmps168
 go_wp2_with (first | ((with_reducible refine gate_dst (N := 2) rfl ?_); refine bx_ (N := 2) (cs := #[.slice A0_0 l0_0.length c0_0]) (t := 217) ?_; intro gb235 hg w7 hbox hb; have BK235 := am_ hbox; have GW235 := am_ (bg_ hg : w.heap.size ≤ gb235); have GE235 := GW235; replace HB := sb_ hb; clear hb hbox hg) | ((with_reducible refine gate_dst (N := 3) rfl ?_); refine bx_ (N := 3) (cs := #[.slice A1_0 l1_0.length c1_0]) (t := 217) ?_; intro gb236 hg w8 hbox hb; have BK236 := am_ hbox; have GW236 := am_ (bg_ hg : w.heap.size ≤ gb236); have GE236 := GW236; obtain ⟨NB235_236, NB236_235⟩ := nb_ hg BK235; replace BK235 := bb_ BK235 hb; replace HB := sb_ hb; clear hb hbox hg) | ((with_reducible refine gate_dst (N := 4) rfl ?_); refine bx_ (N := 4) (cs := #[.slice none 0 0]) (t := 217) ?_; intro gb237 hg w9 hbox hb; have BK237 := am_ hbox; have GW237 := am_ (bg_ hg : w.heap.size ≤ gb237); have GE237 := GW237; obtain ⟨NB235_237, NB237_235⟩ := nb_ hg BK235; obtain ⟨NB236_237, NB237_236⟩ := nb_ hg BK236; replace BK235 := bb_ BK235 hb; replace BK236 := bb_ BK236 hb; replace HB := sb_ hb; clear hb hbox hg; have hnb10 := NB235_236.out; have hnc10 := NB236_235.out; have hnb11 := NB235_237.out; have hnc11 := NB237_235.out; obtain ⟨hcz12_0, hfz12_0⟩ := cz1_ BK235.out; have hnb13 := NB236_237.out; have hnc13 := NB237_236.out; obtain ⟨hcz14_0, hfz14_0⟩ := cz1_ BK236.out) | ((with_reducible refine gate_dst (N := 18) rfl ?_); refine Kd.R_make (Kd.int .u32) _ 96 rfl (N := 18) rfl 215 _ _ rfl ji4 rfl rfl Tryz.underlying215 (.int .u32 0) 4 info96 rfl (by decide) (by omega) 0 (ok := fun _ => True) (okp := fun _ => True) rfl (fun _ hk => hk) trivial (da_) (Nat.le_trans (Nat.mul_le_mul_right _ (da_ : ji4.toNat ≤ 70368744177664)) (by omega)) (Below.refl _ _) (Nat.le_refl _) ?_; intro v239 w15 ho16 hb hg_ hnew_; clear hg_ hnew_; (first | rw [← Ny238.out] at ho16 | (simp only [Int.reduceToNat] at ho16; rw [← Ny238.out] at ho16)); have HO240 := am_ (Kd.R_lower ho16 (below_size bl_)); replace BK235 := bb_ BK235 hb; replace BK236 := bb_ BK236 hb; replace BK237 := bb_ BK237 hb; replace HB := sb_ hb; clear hb ho16; obtain ⟨Ao17, co17, eo17⟩ := Kd.R_slice HO240.out; subst eo17))
 go_loopg [7, 21] k (fun kq v7 v21 w' => ∃ (x6_1 : List Int) (x7_1 : Int) (x21_1 : Int), v7 = .int .u32 x7_1 ∧ v21 = .int .i64 x21_1 ∧ Aside0 (nat_Add.l0 kq x6_1 x7_1 (y238.length : Int) x21_1 l0_0 l1_0 = some r) ∧ Aside0 (kq ≤ k) ∧ Aside0 (Kd.R (Kd.int .u32) 96 w' w.heap.size (fun _ => True) (.slice Ao17 y238.length co17) x6_1) ∧ Aside0 (w'.heap[gb235]? = some (.cells #[(.slice A0_0 l0_0.length c0_0)] 217 (0, 0))) ∧ Aside0 (w'.heap[gb236]? = some (.cells #[(.slice A1_0 l1_0.length c1_0)] 217 (0, 0))) ∧ Aside0 (w'.heap[gb237]? = some (.cells #[(.slice none 0 0)] 217 (0, 0))) ∧ Aside0 (Below w.heap.size w w'))
 case atStart => exact ⟨(y238), (0), (0), sr_, sr_, H', ⟨Nat.le_refl _⟩, ⟨kr_ HO240.out⟩, ⟨bk_ BK235.out⟩, ⟨bk_ BK236.out⟩, ⟨bk_ BK237.out⟩, ⟨bl_⟩⟩
 case round =>
  clear H'
  try clear c1
  try clear p2
  try clear c5
  try clear c5b0
  try clear c5b1
  try clear c6
  try clear c6b0
  try clear c6b1
  try clear p6
  try clear c10
  try clear c11
  try clear c13
  try clear c16
  try clear hcz12_0
  try clear hcz14_0
  try clear hfz12_0
  try clear hfz14_0
  obtain ⟨x6_1, x7_1, x21_1, rfl, rfl, HA, HK1, HO_6, BK235, BK236, BK237, HB⟩ := hrel
  have hl6_1 := (Kd.R_reads' HO_6.out).1
  rw [hl6_1] at HO_6
  (try simp only [hl6_1])
  (try simp only [hl6_1] at BK235)
  (try simp only [hl6_1] at BK236)
  (try simp only [hl6_1] at BK237)
  cases gk with
  | zero => exact absurd HA.out (by simp [nat_Add.l0])
  | succ k1 =>
   have H := HA.out
   clear HA
   simp only [nat_Add.l0] at H
   replace H := il_ H
   rcases H with ⟨c18, c18b0, H⟩ | ⟨c18, c18b0, H⟩
   ·
    (try (have c18b0hl6_1_ := c18b0; rw [hl6_1] at c18b0hl6_1_))
    clear c18
    replace H := bd_ H
    obtain ⟨t241, A19, H⟩ := H
    replace H := bd_ H
    obtain ⟨t242, A20, H⟩ := H
    replace H := bd_ H
    obtain ⟨⟨t243, t244⟩, A21, H⟩ := H
    try dsimp only at H
    replace H := ixl_ H
    obtain ⟨-, c22b0, H⟩ := H
    replace H := ixl_ H
    obtain ⟨-, c23b0, H⟩ := H
    obtain ⟨y245, hy245⟩ : ∃ y_ : List Int, y_ = (x6_1.set (x21_1 : Int).toNat t243) := ⟨_, rfl⟩
    replace H : (nat_Add.l0 k1 y245 t244 (y238.length : Int) (wrap64 (x21_1 + 1)) l0_0 l1_0) = some r := by first | (rw [hy245]; with_reducible exact H) | (have H2_ := (Option.bind_some _ _).symm.trans H; rw [hy245]; with_reducible exact H2_) | (have H2_ := (Option.bind_some _ _).symm.trans H; with_reducible exact H2_) | with_reducible exact H | (rw [hy245]; exact H) | exact H
    have Ny245 := am_ hy245
    clear hy245
    exact nat_Add.k1
   ·
    (try (have c18b0hl6_1_ := c18b0; rw [hl6_1] at c18b0hl6_1_))
    clear c18
    replace H := bd_ H
    obtain ⟨t246, A29, H⟩ := H
    exact nat_Add.k1


def nat_Nat_Limbs.f (l0_0 : List Int) : Option (List Int) := (slices_CloneU32.f l0_0).bind fun t250 => (some t250)
set_option maxHeartbeats 8000000 in
set_option maxRecDepth 100000 in
theorem nat_Nat_Limbs.calls (A0_0 : Option Addr) (c0_0 : Nat) (l0_0 : List Int) (r : List Int) (w : World) (hr0_0 : Kd.C (Kd.int .u32) w A0_0 l0_0.length l0_0) (hc0_0 : l0_0.length ≤ c0_0) (h : nat_Nat_Limbs.f l0_0 = some r) :
 Calls Tryz.prog 190 #[.agg #[.slice A0_0 l0_0.length c0_0]] w fun e w' => ∃ v0_ : Value, e = .returned (v0_) ∧ Kd.R (Kd.int .u32) 96 w' w.heap.size (fun _ => True) v0_ r ∧ Below w.heap.size w w' := by
 have hu217 := Tryz.underlying217
 have HR0_0 := am_ hr0_0
 have HC0_0 := am_ hc0_0
 clear hr0_0 hc0_0
 have HB := am_ (Below.refl w.heap.size w)
 have H : ((slices_CloneU32.f l0_0).bind fun t250 => (some t250)) = some r := h
 clear h
 replace H := bd_ H
 obtain ⟨t250, A2, H⟩ := H
 obtain rfl := Option.some.inj H
 go_enter Tryz.func190, Tryz.ntmps190
 go_wp2_with (first | ((with_reducible refine gate_dst (N := 1) rfl ?_); refine bx_ (N := 1) (cs := #[.slice A0_0 l0_0.length c0_0]) (t := 217) ?_; intro gb249 hg w3 hbox hb; have BK249 := am_ hbox; have GW249 := am_ (bg_ hg : w.heap.size ≤ gb249); replace HB := sb_ hb; clear hb hbox hg; obtain ⟨hcz4_0, hfz4_0⟩ := cz1_ BK249.out) | ((with_reducible refine gate_callee (f := 199) rfl ?_); refine gc_ (some 5) rfl rfl Tryz.func199 rfl #[.slice A0_0 l0_0.length c0_0] rfl ?_; (with_reducible refine (slices_CloneU32.calls _ _ _ _ _ ?side1 ?side2 A2.out).mono ?_); (case side1 => exact kc_ (Kd.C_below HR0_0.out HB.out)); (case side2 => exact HC0_0.out); rintro e w5 ⟨v251, rfl, ho0, hb⟩; refine ⟨_, rfl, ?_⟩; have HO252 := am_ (Kd.R_lower ho0 (below_size bl_)); replace BK249 := bb_ BK249 hb; replace HB := sb_ hb; clear hb ho0))
 go_ret
 exact ⟨_, er_, kr_ HO252.out, bl_⟩


mutual
def times_Mul.l0 : Nat → List Int → List Int → List Int → Int → Int → Option (List Int)
 | 0, _, _, _, _, _ => none
 | k + 1, x6, x7, x23, x24, x25 => if x25 < x24 then (if 0 ≤ x25 then (if x25 < (x23.length : Int) then (times_Mul.l1 k x6 x7 x25 (rd x23 x25) 0 x23 x24 x25 x6 (x6.length : Int) 0) else (none)) else (none)) else ((nat_Made.f k x7).bind fun t265 => (some t265))
def times_Mul.l1 : Nat → List Int → List Int → Int → Int → Int → List Int → Int → Int → List Int → Int → Int → Option (List Int)
 | 0, _, _, _, _, _, _, _, _, _, _, _ => none
 | k + 1, x6, x7, x8, x9, x10, x23, x24, x25, x30, x31, x32 => if x32 < x31 then (if 0 ≤ x32 then (if x32 < (x30.length : Int) then (if 0 ≤ (wrap64 (x8 + x32)) then (if (wrap64 (x8 + x32)) < (x7.length : Int) then (times_Mul.l1 k x6 (x7.set ((wrap64 (x8 + x32)) : Int).toNat ((IntKind.u64.wrap (x10 + (IntKind.u64.wrap ((IntKind.u64.wrap ((IntKind.u64.wrap (x9)) * (IntKind.u64.wrap (rd x30 x32)))) + (IntKind.u64.wrap (rd x7 (wrap64 (x8 + x32)))))))) % 4294967296)) x8 x9 ((IntKind.u64.wrap (x10 + (IntKind.u64.wrap ((IntKind.u64.wrap ((IntKind.u64.wrap (x9)) * (IntKind.u64.wrap (rd x30 x32)))) + (IntKind.u64.wrap (rd x7 (wrap64 (x8 + x32)))))))) / 4294967296) x23 x24 x25 x30 x31 (wrap64 (x32 + 1))) else (none)) else (none)) else (none)) else (none)) else (if 0 ≤ (wrap64 (x8 + (x6.length : Int))) then (if (wrap64 (x8 + (x6.length : Int))) < (x7.length : Int) then (times_Mul.l0 k x6 (x7.set ((wrap64 (x8 + (x6.length : Int))) : Int).toNat ((x10) % 4294967296)) x23 x24 (wrap64 (x25 + 1))) else (none)) else (none))
end
def times_Mul.f (k : Nat) (l0_0 : List Int) (l1_0 : List Int) : Option (List Int) := (nat_Nat_Limbs.f l0_0).bind fun t256 => ((nat_Nat_Limbs.f l1_0).bind fun t259 => (if 0 ≤ (wrap64 ((t256.length : Int) + (t259.length : Int))) then (if (wrap64 ((t256.length : Int) + (t259.length : Int)) : Int).toNat ≤ 70368744177664 then (times_Mul.l0 k t259 (List.replicate (wrap64 ((t256.length : Int) + (t259.length : Int)) : Int).toNat 0) t256 (t256.length : Int) 0) else (none)) else (none)))
theorem times_Mul.mono_l : ∀ k, (∀ y0 y1 y2 y3 y4, LeO (times_Mul.l0 k y0 y1 y2 y3 y4) (times_Mul.l0 (k + 1) y0 y1 y2 y3 y4)) ∧ (∀ y0 y1 y2 y3 y4 y5 y6 y7 y8 y9 y10, LeO (times_Mul.l1 k y0 y1 y2 y3 y4 y5 y6 y7 y8 y9 y10) (times_Mul.l1 (k + 1) y0 y1 y2 y3 y4 y5 y6 y7 y8 y9 y10))
 | 0 => ⟨fun _ _ _ _ _ r h => by simp [times_Mul.l0] at h, fun _ _ _ _ _ _ _ _ _ _ _ r h => by simp [times_Mul.l1] at h⟩
 | k + 1 => by
  obtain ⟨ih0, ih1⟩ := times_Mul.mono_l k
  refine ⟨?_, ?_⟩
  ·
   intro y0 y1 y2 y3 y4
   unfold times_Mul.l0
   repeat' first
   | (with_reducible exact ih0 _ _ _ _ _)
   | (with_reducible exact ih1 _ _ _ _ _ _ _ _ _ _ _)
   | (with_reducible exact nat_Made.mono _ _)
   | (with_reducible exact LeO.refl _)
   | (with_reducible exact LeO.none _)
   | (with_reducible refine LeO.ite ?_ ?_)
   | (with_reducible refine LeO.bind ?_ (fun _ => ?_))
   | exact ih0 _ _ _ _ _
   | exact ih1 _ _ _ _ _ _ _ _ _ _ _
   | exact nat_Made.mono _ _
   | exact LeO.none _
   | refine LeO.ite ?_ ?_
   | refine LeO.bind ?_ (fun _ => ?_)
  ·
   intro y0 y1 y2 y3 y4 y5 y6 y7 y8 y9 y10
   unfold times_Mul.l1
   repeat' first
   | (with_reducible exact ih0 _ _ _ _ _)
   | (with_reducible exact ih1 _ _ _ _ _ _ _ _ _ _ _)
   | (with_reducible exact nat_Made.mono _ _)
   | (with_reducible exact LeO.refl _)
   | (with_reducible exact LeO.none _)
   | (with_reducible refine LeO.ite ?_ ?_)
   | (with_reducible refine LeO.bind ?_ (fun _ => ?_))
   | exact ih0 _ _ _ _ _
   | exact ih1 _ _ _ _ _ _ _ _ _ _ _
   | exact nat_Made.mono _ _
   | exact LeO.none _
   | refine LeO.ite ?_ ?_
   | refine LeO.bind ?_ (fun _ => ?_)
theorem times_Mul.mono : ∀ a0 a1 k, LeO (times_Mul.f k a0 a1) (times_Mul.f (k + 1) a0 a1) := by
 intro a0 a1 k
 obtain ⟨ih0, ih1⟩ := times_Mul.mono_l k
 unfold times_Mul.f
 repeat' first | with_reducible first | exact ih0 _ _ _ _ _ | exact ih1 _ _ _ _ _ _ _ _ _ _ _ | exact nat_Made.mono _ _ | exact LeO.refl _ | exact LeO.none _ | refine LeO.ite ?_ ?_ | refine LeO.bind ?_ (fun _ => ?_)
set_option maxRecDepth 1000000 in
theorem times_Mul.k1 {p : Prop} (h : p := by
 first | (obtain rfl := Option.some.inj H) | (have H' := am_ H; clear H)
 first
  | (
   have p269 : 0 ≤ (x32_2 : Int) := da_
   have q269 : x32_2 < (t259.length : Int) := da_
   obtain ⟨ad269, e269, hx269_0⟩ := Kd.at_int (Kd.R_reads' HO_30.out).2.2 x32_2 p269 q269
   cases e269
   replace p269 := eq_true p269
   replace q269 := eq_true q269
   obtain ⟨Ao2, co2, eo2⟩ := Kd.R_slice HO_7.out
   subst eo2
   have p270 : 0 ≤ ((ji24) : Int) := da_
   have q270 : (ji24) < (x7_2.length : Int) := da_
   obtain ⟨ad270, e270, hx270_0⟩ := Kd.at_int (Kd.R_reads' HO_7.out).2.2 (ji24) p270 q270
   cases e270
   replace p270 := eq_true p270
   replace q270 := eq_true q270
   have p27 : 0 ≤ ((ji24) : Int) := da_
   have q27 : ((ji24) : Int) < ((x7_2.length : Int) : Int) := da_
   obtain ⟨go27, co3, eo3, gb27, gl27, cl27, HG27⟩ := Kd.R_form HO_7.out (by omega)
   (first | cases eo3 | (injection eo3 with ea_ en_ ec_; (first | subst ea_ | (injection ea_ with ea_; subst ea_)); subst ec_; clear en_))
   have GB27 := am_ gb27
   have GG27 := am_ HG27
   clear gb27 gl27 HG27
   (first | simp only [add_plain] at hx270_0 | skip)
   obtain ⟨hx27_0, hf27_0⟩ := Kd.R_celln 0 HO_7.out ((ji24) : Int) p27 q27
   replace p27 := eq_true p27
   replace q27 := eq_true q27
   have HP29 := Kd.R_putg HO_7.out ((ji24) : Int) ((IntKind.u64.wrap (x10_2 + (IntKind.u64.wrap ((IntKind.u64.wrap ((IntKind.u64.wrap ((rd t256 x25_1))) * (IntKind.u64.wrap (rd t259 x32_2)))) + (IntKind.u64.wrap (rd x7_2 (ji24))))))) % 4294967296)
   try go_wp2_with (first | ((with_reducible refine gate_store (t := 96) (p := 58) rfl ?_); refine store_event (t := 96) (p := 58) (v := ?vo_w4) (w1 := (wr.setCell ⟨go27, ((ji24) : Int).toNat, none⟩ (.int .u32 ((IntKind.u64.wrap (x10_2 + (IntKind.u64.wrap ((IntKind.u64.wrap ((IntKind.u64.wrap ((rd t256 x25_1))) * (IntKind.u64.wrap (rd t259 x32_2)))) + (IntKind.u64.wrap (rd x7_2 (ji24))))))) % 4294967296)))) ?hg ?ho ?hn ?hr ?_; (case ho => rfl); (case hg => rfl); (case hn => rfl); (case hr => first | (go_simp; done) | (go_simp; rfl)); intro w4 hw; have hg : wr.grownBy w4 (some go27) := (by rw [hw]; exact HP29.2); have hp_ : Kd.R (Kd.int .u32) 96 w4 w.heap.size (fun k_ => some k_ ≠ (.slice (some ad269) t259.length co15 : Value).ownBlock ∧ some k_ ≠ (.slice (some ad268) t256.length co14 : Value).ownBlock ∧ some k_ ≠ (.slice (some ad269) t259.length co15 : Value).ownBlock) (.slice (some ⟨go27, 0, none⟩) x7_2.length co2) y271 := (by rw [hw, Ny271.out]; exact HP29.1); clear HP29; have n0_ := am_ (Kd.R_after (v := (.slice (some ⟨go27, 0, none⟩) x7_2.length co2)) (v1 := (.slice (some ⟨go27, 0, none⟩) x7_2.length co2)) (ok := (fun k_ => some k_ ≠ (.slice (some ad268) t256.length co14 : Value).ownBlock)) (kr_ (Kd.R_mono HO_6.out (fun _ hk => ⟨hk.2, hk.1⟩))) hg (.inl rfl)); have n1_ := am_ (hp_); have n2_ := am_ (Kd.R_after (v := (.slice (some ⟨go27, 0, none⟩) x7_2.length co2)) (v1 := (.slice (some ⟨go27, 0, none⟩) x7_2.length co2)) (ok := (fun k_ => some k_ ≠ (.slice (some ad269) t259.length co15 : Value).ownBlock ∧ some k_ ≠ (.slice (some ad269) t259.length co15 : Value).ownBlock)) (kr_ (Kd.R_mono HO_23.out (fun _ hk => ⟨⟨hk.1, hk.2.2⟩, hk.2.1⟩))) hg (.inl rfl)); have n3_ := am_ (Kd.R_after (v := (.slice (some ⟨go27, 0, none⟩) x7_2.length co2)) (v1 := (.slice (some ⟨go27, 0, none⟩) x7_2.length co2)) (ok := (fun k_ => some k_ ≠ (.slice (some ad268) t256.length co14 : Value).ownBlock)) (kr_ (Kd.R_mono HO_30.out (fun _ hk => ⟨hk.2, hk.1⟩))) hg (.inl rfl)); have n4_ := am_ (blk_grown (g := gb253) (o := .cells #[.slice A0_0 l0_0.length c0_0] 217 (0, 0)) (bk_ BK253.out) hg (Kd.R_ne HO_7.out BK253.out (by decide))); have n5_ := am_ (blk_grown (g := gb254) (o := .cells #[.slice A1_0 l1_0.length c1_0] 217 (0, 0)) (bk_ BK254.out) hg (Kd.R_ne HO_7.out BK254.out (by decide))); have n6_ := am_ (blk_grown (g := gb255) (o := .cells #[.slice none 0 0] 217 (0, 0)) (bk_ BK255.out) hg (Kd.R_ne HO_7.out BK255.out (by decide))); have n7_ := am_ ((by rw [hw]; exact below_set (HB.out) GB27.out : Below w.heap.size w w4)); clear HO_6; clear HO_7; clear HO_23; clear HO_30; clear BK253; clear BK254; clear BK255; clear HB; have HO_6 := n0_; have HO_7 := n1_; have HO_23 := n2_; have HO_30 := n3_; have BK253 := n4_; have BK254 := n5_; have BK255 := n6_; have HB := n7_; clear n0_ n1_ n2_ n3_ n4_ n5_ n6_ n7_; clear hg hw hp_))
   go_roundg k2
   case measure => have := HK1.out; have := HK2.out; omega
   case rel => exact ⟨(y271), ((IntKind.u64.wrap (x10_2 + (IntKind.u64.wrap ((IntKind.u64.wrap ((IntKind.u64.wrap ((rd t256 x25_1))) * (IntKind.u64.wrap (rd t259 x32_2)))) + (IntKind.u64.wrap (rd x7_2 (ji24))))))) / 4294967296), (wrap64 (x32_2 + 1)), (by first | rfl | (simp; done) | (simp only [← hji24] <;> (first | rfl | simp)) | (simp [*]; done)), sr_, H', ⟨by have := HK1.out; have := HK2.out; omega⟩, ⟨kr_ (Kd.R_mono HO_6.out (fun _ hk => ⟨hk.2, hk.1⟩))⟩, ⟨kr_ HO_7.out⟩, ⟨kr_ (Kd.R_mono HO_23.out (fun _ hk => ⟨hk.1.1, ⟨hk.2, hk.1.2⟩⟩))⟩, ⟨kr_ (Kd.R_mono HO_30.out (fun _ hk => ⟨hk.2, hk.1⟩))⟩, ⟨bk_ BK253.out⟩, ⟨bk_ BK254.out⟩, ⟨bk_ BK255.out⟩, ⟨bl_⟩⟩)
  | (
   have p34 : 0 ≤ ((ji31) : Int) := da_
   have q34 : ((ji31) : Int) < ((x7_2.length : Int) : Int) := da_
   obtain ⟨go34, co5, eo5, gb34, gl34, cl34, HG34⟩ := Kd.R_form HO_7.out (by omega)
   (first | cases eo5 | (injection eo5 with ea_ en_ ec_; (first | subst ea_ | (injection ea_ with ea_; subst ea_)); subst ec_; clear en_))
   have GB34 := am_ gb34
   have GG34 := am_ HG34
   clear gb34 gl34 HG34
   obtain ⟨hx34_0, hf34_0⟩ := Kd.R_celln 0 HO_7.out ((ji31) : Int) p34 q34
   replace p34 := eq_true p34
   replace q34 := eq_true q34
   have HP35 := Kd.R_putg HO_7.out ((ji31) : Int) ((x10_2) % 4294967296)
   try go_wp2_with (first | ((with_reducible refine gate_store (t := 96) (p := 69) rfl ?_); refine store_event (t := 96) (p := 69) (v := ?vo_w6) (w1 := (wr.setCell ⟨go34, ((ji31) : Int).toNat, none⟩ (.int .u32 ((x10_2) % 4294967296)))) ?hg ?ho ?hn ?hr ?_; (case ho => rfl); (case hg => rfl); (case hn => rfl); (case hr => first | (go_simp; done) | (go_simp; rfl)); intro w6 hw; have hg : wr.grownBy w6 (some go34) := (by rw [hw]; exact HP35.2); have hp_ : Kd.R (Kd.int .u32) 96 w6 w.heap.size (fun k_ => some k_ ≠ (.slice Ao15 t259.length co15 : Value).ownBlock ∧ some k_ ≠ (.slice (some ad268) t256.length co14 : Value).ownBlock ∧ some k_ ≠ (.slice Ao15 t259.length co15 : Value).ownBlock) (.slice (some ⟨go34, 0, none⟩) x7_2.length co5) y272 := (by rw [hw, Ny272.out]; exact HP35.1); clear HP35; have n0_ := am_ (Kd.R_after (v := (.slice (some ⟨go34, 0, none⟩) x7_2.length co5)) (v1 := (.slice (some ⟨go34, 0, none⟩) x7_2.length co5)) (ok := (fun k_ => some k_ ≠ (.slice (some ad268) t256.length co14 : Value).ownBlock)) (kr_ (Kd.R_mono HO_6.out (fun _ hk => ⟨hk.2, hk.1⟩))) hg (.inl rfl)); have n1_ := am_ (hp_); have n2_ := am_ (Kd.R_after (v := (.slice (some ⟨go34, 0, none⟩) x7_2.length co5)) (v1 := (.slice (some ⟨go34, 0, none⟩) x7_2.length co5)) (ok := (fun k_ => some k_ ≠ (.slice Ao15 t259.length co15 : Value).ownBlock ∧ some k_ ≠ (.slice Ao15 t259.length co15 : Value).ownBlock)) (kr_ (Kd.R_mono HO_23.out (fun _ hk => ⟨⟨hk.1, hk.2.2⟩, hk.2.1⟩))) hg (.inl rfl)); have n3_ := am_ (Kd.R_after (v := (.slice (some ⟨go34, 0, none⟩) x7_2.length co5)) (v1 := (.slice (some ⟨go34, 0, none⟩) x7_2.length co5)) (ok := (fun k_ => some k_ ≠ (.slice (some ad268) t256.length co14 : Value).ownBlock)) (kr_ (Kd.R_mono HO_30.out (fun _ hk => ⟨hk.2, hk.1⟩))) hg (.inl rfl)); have n4_ := am_ (blk_grown (g := gb253) (o := .cells #[.slice A0_0 l0_0.length c0_0] 217 (0, 0)) (bk_ BK253.out) hg (Kd.R_ne HO_7.out BK253.out (by decide))); have n5_ := am_ (blk_grown (g := gb254) (o := .cells #[.slice A1_0 l1_0.length c1_0] 217 (0, 0)) (bk_ BK254.out) hg (Kd.R_ne HO_7.out BK254.out (by decide))); have n6_ := am_ (blk_grown (g := gb255) (o := .cells #[.slice none 0 0] 217 (0, 0)) (bk_ BK255.out) hg (Kd.R_ne HO_7.out BK255.out (by decide))); have n7_ := am_ ((by rw [hw]; exact below_set (HB.out) GB34.out : Below w.heap.size w w6)); clear HO_6; clear HO_7; clear HO_23; clear HO_30; clear BK253; clear BK254; clear BK255; clear HB; have HO_6 := n0_; have HO_7 := n1_; have HO_23 := n2_; have HO_30 := n3_; have BK253 := n4_; have BK254 := n5_; have BK255 := n6_; have HB := n7_; clear n0_ n1_ n2_ n3_ n4_ n5_ n6_ n7_; clear hg hw hp_))
   go_roundg k2
   case measure => have := HK1.out; have := HK2.out; omega
   case rel => exact ⟨(y272), (wrap64 (x25_1 + 1)), sr_, H', ⟨by have := HK1.out; have := HK2.out; omega⟩, ⟨kr_ (Kd.R_mono HO_6.out (fun _ hk => ⟨hk.2, hk.1⟩))⟩, ⟨kr_ (Kd.R_mono HO_7.out (fun _ hk => ⟨hk.1, hk.2.1⟩))⟩, ⟨kr_ (Kd.R_mono HO_23.out (fun _ hk => ⟨hk.1.1, hk.2⟩))⟩, ⟨bk_ BK253.out⟩, ⟨bk_ BK254.out⟩, ⟨bk_ BK255.out⟩, ⟨bl_⟩⟩)
  | (
   obtain ⟨Ao2, co2, eo2⟩ := Kd.R_slice HO_7.out
   subst eo2
   try go_wp2_with (first | ((with_reducible refine gate_callee (f := 189) rfl ?_); refine gc_ (some 72) rfl rfl Tryz.func189 rfl #[.slice Ao2 x7_1.length co2] rfl ?_; (with_reducible refine (nat_Made.calls _ _ _ _ _ _ ?side1 ?side2 A37.out).mono ?_); (case side1 => exact kc_ (Kd.R_reads' HO_7.out).2.2); (case side2 => exact (Kd.R_reads' HO_7.out).2.1); rintro e w7 ⟨v266, rfl, ho0, hb⟩; refine ⟨_, rfl, ?_⟩; have HO267 := am_ (Kd.R_lower (Kd.R_new' (Kd.R_new' (Kd.R_new' ho0 (Kd.R_lt (kr_ HO_6.out))) (Kd.R_lt (kr_ HO_7.out))) (Kd.R_lt (kr_ HO_23.out))) (below_size bl_)); replace HO_6 := am_ (Kd.R_elder' (kr_ HO_6.out) (Kd.R_base ho0) hb); replace HO_7 := am_ (Kd.R_elder' (kr_ HO_7.out) (Kd.R_base ho0) hb); replace HO_23 := am_ (Kd.R_elder' (kr_ HO_23.out) (Kd.R_base ho0) hb); replace BK253 := bb_ BK253 hb; replace BK254 := bb_ BK254 hb; replace BK255 := bb_ BK255 hb; replace HB := sb_ hb; clear hb ho0; obtain ⟨Ao17, co17, eo17⟩ := Kd.R_slice HO267.out; subst eo17; have hnb18 := NB255_253.out; have hnc18 := NB253_255.out; have hnb19 := NB255_254.out; have hnc19 := NB254_255.out; obtain ⟨hcz20_0, hfz20_0⟩ := cz1_ BK255.out))
   refine bodyPost_ret (results_cell_row rfl _ _ gb255 217 _ (0, 0) _ rfl (bp_ BK255.out) Tryz.underlying217 rfl (by kernel_rfl)) rfl ?_
   exact ⟨_, by first | rfl | (simp [errW_none, errW_some] <;> rfl) | (simp only [← hji5]; first | rfl | (simp [errW_none, errW_some] <;> rfl)) | (simp [*, errW_none, errW_some] <;> rfl), Kd.R_mono (rf_ gb255 (Kd.R_types HO267.out BK255.out (by decide)) (fun _ hk => hk.2)) (fun _ hk => trivial), bl_⟩)) : p := h
set_option maxHeartbeats 8000000 in
set_option maxRecDepth 100000 in
theorem times_Mul.calls (k : Nat) (A0_0 : Option Addr) (c0_0 : Nat) (l0_0 : List Int) (A1_0 : Option Addr) (c1_0 : Nat) (l1_0 : List Int) (r : List Int) (w : World) (hr0_0 : Kd.C (Kd.int .u32) w A0_0 l0_0.length l0_0) (hc0_0 : l0_0.length ≤ c0_0) (hr1_0 : Kd.C (Kd.int .u32) w A1_0 l1_0.length l1_0) (hc1_0 : l1_0.length ≤ c1_0) (h : times_Mul.f k l0_0 l1_0 = some r) :
 Calls Tryz.prog 169 #[.agg #[.slice A0_0 l0_0.length c0_0], .agg #[.slice A1_0 l1_0.length c1_0]] w fun e w' => ∃ v0_ : Value, e = .returned (.agg #[v0_]) ∧ Kd.R (Kd.int .u32) 96 w' w.heap.size (fun _ => True) v0_ r ∧ Below w.heap.size w w' := by
 have hu217 := Tryz.underlying217
 have HR0_0 := am_ hr0_0
 have HC0_0 := am_ hc0_0
 clear hr0_0 hc0_0
 have HR1_0 := am_ hr1_0
 have HC1_0 := am_ hc1_0
 clear hr1_0 hc1_0
 have HB := am_ (Below.refl w.heap.size w)
 have H : ((nat_Nat_Limbs.f l0_0).bind fun t256 => ((nat_Nat_Limbs.f l1_0).bind fun t259 => (if 0 ≤ (wrap64 ((t256.length : Int) + (t259.length : Int))) then (if (wrap64 ((t256.length : Int) + (t259.length : Int)) : Int).toNat ≤ 70368744177664 then (times_Mul.l0 k t259 (List.replicate (wrap64 ((t256.length : Int) + (t259.length : Int)) : Int).toNat 0) t256 (t256.length : Int) 0) else (none)) else (none)))) = some r := h
 clear h
 replace H := bd_ H
 obtain ⟨t256, A3, H⟩ := H
 replace H := bd_ H
 obtain ⟨t259, A4, H⟩ := H
 obtain ⟨ji5, hji5⟩ : ∃ j_ : Int, (wrap64 ((t256.length : Int) + (t259.length : Int))) = j_ := ⟨_, rfl⟩
 replace H : (if 0 ≤ (ji5) then (if (ji5 : Int).toNat ≤ 70368744177664 then (times_Mul.l0 k t259 (List.replicate (ji5 : Int).toNat 0) t256 (t256.length : Int) 0) else (none)) else (none)) = some r := by first | (rw [hji5] at H; exact H) | (simp only [hji5] at H ⊢; exact H)
 (try rw [hji5] at A3)
 (try rw [hji5] at A4)
 have hji5w : (IntKind.i64.wrap ((t256.length : Int) + (t259.length : Int))) = ji5 := (i64_w _).trans hji5
 replace H := ixl_ H
 obtain ⟨c6, -, H⟩ := H
 have c6b0 := eq_true c6
 have c6b1 : decide (0 ≤ (ji5)) = true := decide_eq_true c6
 clear c6
 replace H := ixl_ H
 obtain ⟨c7, -, H⟩ := H
 have c7b0 := eq_true c7
 have c7b1 : decide ((ji5 : Int).toNat ≤ 70368744177664) = true := decide_eq_true c7
 clear c7
 obtain ⟨y262, hy262⟩ : ∃ y_ : List Int, y_ = (List.replicate (ji5 : Int).toNat 0) := ⟨_, rfl⟩
 replace H : (times_Mul.l0 k t259 y262 t256 (t256.length : Int) 0) = some r := by first | (rw [hy262]; with_reducible exact H) | (have H2_ := (Option.bind_some _ _).symm.trans H; rw [hy262]; with_reducible exact H2_) | (have H2_ := (Option.bind_some _ _).symm.trans H; with_reducible exact H2_) | with_reducible exact H | (rw [hy262]; exact H) | exact H
 have Ny262 := am_ hy262
 clear hy262
 have H' := am_ H
 clear H
 go_enter Tryz.func169, Tryz.ntmps169
 try go_wp2_with (first | ((with_reducible refine gate_dst (N := 2) rfl ?_); refine bx_ (N := 2) (cs := #[.slice A0_0 l0_0.length c0_0]) (t := 217) ?_; intro gb253 hg w8 hbox hb; have BK253 := am_ hbox; have GW253 := am_ (bg_ hg : w.heap.size ≤ gb253); replace HB := sb_ hb; clear hb hbox hg) | ((with_reducible refine gate_dst (N := 3) rfl ?_); refine bx_ (N := 3) (cs := #[.slice A1_0 l1_0.length c1_0]) (t := 217) ?_; intro gb254 hg w9 hbox hb; have BK254 := am_ hbox; have GW254 := am_ (bg_ hg : w.heap.size ≤ gb254); obtain ⟨NB253_254, NB254_253⟩ := nb_ hg BK253; replace BK253 := bb_ BK253 hb; replace HB := sb_ hb; clear hb hbox hg) | ((with_reducible refine gate_dst (N := 4) rfl ?_); refine bx_ (N := 4) (cs := #[.slice none 0 0]) (t := 217) ?_; intro gb255 hg w10 hbox hb; have BK255 := am_ hbox; have GW255 := am_ (bg_ hg : w.heap.size ≤ gb255); obtain ⟨NB253_255, NB255_253⟩ := nb_ hg BK253; obtain ⟨NB254_255, NB255_254⟩ := nb_ hg BK254; replace BK253 := bb_ BK253 hb; replace BK254 := bb_ BK254 hb; replace HB := sb_ hb; clear hb hbox hg))
 have n0_ := am_ (blk_drew BK253.out)
 have n1_ := am_ (blk_drew BK254.out)
 have n2_ := am_ (blk_drew BK255.out)
 have n3_ := am_ (below_drew1 HB.out)
 clear BK253
 clear BK254
 clear BK255
 clear HB
 have BK253 := n0_
 have BK254 := n1_
 have BK255 := n2_
 have HB := n3_
 clear n0_ n1_ n2_ n3_
 refine start_ (n := 6) (S := fun w' => w'.cell? ⟨gb253, 0, none⟩ = some (.slice A0_0 l0_0.length c0_0) ∧ w'.cell? ⟨gb254, 0, none⟩ = some (.slice A1_0 l1_0.length c1_0)) (ds := []) #[false, false, false, false, false, false] (by kernel_rfl) rfl rfl ⟨(blk_cell BK253.out 0).trans rfl, (blk_cell BK254.out 0).trans rfl⟩ (fun hHeld => ?_)
 generalize w10.drew = w11 at BK253 BK254 BK255 HB hHeld ⊢
 refine take_ (i := 0) (N := some 13) (v := ?_) (a' := ?_) #[true, false, false, false, false, false] rfl rfl (by kernel_rfl) (fun _ _ _ h => h) (Or.inl ⟨by rfl, ?_⟩) hHeld ?_ ?_
 rotate_left
 ·
  rintro w' ⟨s0, s1⟩
  go_simp
  with_reducible rfl
 rotate_left
 ·
  simp only [Act.put, List.setIfInBounds_toArray, List.set_cons_zero, List.set_cons_succ, i64_w, i32_w]
  rfl
 refine take_ (i := 2) (N := some 15) (v := ?_) (a' := ?_) #[true, false, true, false, false, false] rfl rfl (by kernel_rfl) (fun _ _ _ h => h) (Or.inl ⟨by rfl, ?_⟩) hHeld ?_ ?_
 rotate_left
 ·
  rintro w' ⟨s0, s1⟩
  go_simp
  with_reducible rfl
 rotate_left
 ·
  simp only [Act.put, List.setIfInBounds_toArray, List.set_cons_zero, List.set_cons_succ, i64_w, i32_w]
  rfl
 refine one_ (i := 1) (N := some 14) #[true, true, true, false, false, false] rfl rfl (by kernel_rfl) (by decide) (fun K hK => ?_)
 refine goes_ Tryz.func190 (by kernel_rfl) rfl #[.agg #[.slice A0_0 l0_0.length c0_0]] (by rfl) rfl rfl (by (try simp only [List.map_toArray, List.map_cons, List.map_nil]); first | done | rfl | (simp only [List.length_drop, List.length_take]; rfl)) ?_
 with_reducible refine (nat_Nat_Limbs.calls _ _ _ _ _ ?side1 ?side2 A3.out).mono ?_
 (case side1 => exact kc_ (Kd.C_below HR0_0.out HB.out))
 (case side2 => exact HC0_0.out)
 rintro e w12 ⟨v257, rfl, ho0, hb⟩
 refine ⟨_, rfl, ?_⟩
 have n0_ := am_ (Kd.R_lower ho0 (below_size bl_))
 have n1_ := bb_ BK253 hb
 have n2_ := bb_ BK254 hb
 have n3_ := bb_ BK255 hb
 have n4_ := am_ (below_step bl_ hb)
 clear BK253
 clear BK254
 clear BK255
 clear HB
 have HO258 := n0_
 have BK253 := n1_
 have BK254 := n2_
 have BK255 := n3_
 have HB := n4_
 clear n0_ n1_ n2_ n3_ n4_
 (try clear hb)
 (try clear hb2)
 (try clear hk)
 (try clear hi)
 (try clear ho0)
 refine hK.out _ _ ⟨(blk_cell BK253.out 0).trans rfl, (blk_cell BK254.out 0).trans rfl⟩ (fun hHeld => ?_)
 clear hK K
 refine norm_ (a' := ?_) ?_ ?_
 rotate_left
 ·
  show Act.put _ (some 14) _ = _
  simp only [Act.put, List.setIfInBounds_toArray, List.set_cons_zero, List.set_cons_succ, i64_w, i32_w]
  rfl
 refine one_ (i := 3) (N := some 16) #[true, true, true, true, false, false] rfl rfl (by kernel_rfl) (by decide) (fun K hK => ?_)
 refine goes_ Tryz.func190 (by kernel_rfl) rfl #[.agg #[.slice A1_0 l1_0.length c1_0]] (by rfl) rfl rfl (by (try simp only [List.map_toArray, List.map_cons, List.map_nil]); first | done | rfl | (simp only [List.length_drop, List.length_take]; rfl)) ?_
 with_reducible refine (nat_Nat_Limbs.calls _ _ _ _ _ ?side1 ?side2 A4.out).mono ?_
 (case side1 => exact kc_ (Kd.C_below HR1_0.out HB.out))
 (case side2 => exact HC1_0.out)
 rintro e w13 ⟨v260, rfl, ho0, hb⟩
 refine ⟨_, rfl, ?_⟩
 have n0_ := am_ (Kd.R_elder' (kr_ HO258.out) (Kd.R_base ho0) hb)
 have n1_ := am_ (Kd.R_lower (Kd.R_new' ho0 (Kd.R_lt (kr_ HO258.out))) (below_size bl_))
 have n2_ := bb_ BK253 hb
 have n3_ := bb_ BK254 hb
 have n4_ := bb_ BK255 hb
 have n5_ := am_ (below_step bl_ hb)
 clear HO258
 clear BK253
 clear BK254
 clear BK255
 clear HB
 have HO258 := n0_
 have HO261 := n1_
 have BK253 := n2_
 have BK254 := n3_
 have BK255 := n4_
 have HB := n5_
 clear n0_ n1_ n2_ n3_ n4_ n5_
 (try clear hb)
 (try clear hb2)
 (try clear hk)
 (try clear hi)
 (try clear ho0)
 refine hK.out _ _ ⟨(blk_cell BK253.out 0).trans rfl, (blk_cell BK254.out 0).trans rfl⟩ (fun hHeld => ?_)
 clear hK K
 refine norm_ (a' := ?_) ?_ ?_
 rotate_left
 ·
  show Act.put _ (some 16) _ = _
  simp only [Act.put, List.setIfInBounds_toArray, List.set_cons_zero, List.set_cons_succ, i64_w, i32_w]
  rfl
 refine pure_ (i := 4) (N := some 5) (v := ?_) (a' := ?_) #[true, true, true, true, true, false] rfl rfl (by kernel_rfl) (fun _ _ _ h => h) (Or.inl ⟨by rfl, ?_⟩) ?_ ?_
 rotate_left
 ·
  intro w'
  go_simp
  with_reducible rfl
 rotate_left
 ·
  simp only [Act.put, List.setIfInBounds_toArray, List.set_cons_zero, List.set_cons_succ, i64_w, i32_w]
  rfl
 refine pure_ (i := 5) (N := some 6) (v := ?_) (a' := ?_) #[true, true, true, true, true, true] rfl rfl (by kernel_rfl) (fun _ _ _ h => h) (Or.inl ⟨by rfl, ?_⟩) ?_ ?_
 rotate_left
 ·
  intro w'
  go_simp
  with_reducible rfl
 rotate_left
 ·
  simp only [Act.put, List.setIfInBounds_toArray, List.set_cons_zero, List.set_cons_succ, i64_w, i32_w]
  rfl
 refine done_ (by kernel_rfl) ?_
 obtain ⟨Ao14, co14, eo14⟩ := Kd.R_slice HO258.out
 subst eo14
 obtain ⟨Ao15, co15, eo15⟩ := Kd.R_slice HO261.out
 subst eo15
 try go_wp2_with (first | ((with_reducible refine gate_dst (N := 22) rfl ?_); refine Kd.R_make (Kd.int .u32) _ 96 rfl (N := 22) rfl 215 _ _ rfl ji5 rfl rfl Tryz.underlying215 (.int .u32 0) 4 info96 rfl (by decide) (by omega) 0 (ok := fun _ => True) (okp := fun _ => True) rfl (fun _ hk => hk) trivial (da_) (Nat.le_trans (Nat.mul_le_mul_right _ (da_ : ji5.toNat ≤ 70368744177664)) (by omega)) (Below.refl _ _) (Nat.le_refl _) ?_; intro v263 w16 ho17 hb hg_ hnew_; clear hg_ hnew_; (first | rw [← Ny262.out] at ho17 | (simp only [Int.reduceToNat] at ho17; rw [← Ny262.out] at ho17)); have HO264 := am_ (Kd.R_lower (Kd.R_new' (Kd.R_new' ho17 (Kd.R_lt (kr_ HO258.out))) (Kd.R_lt (kr_ HO261.out))) (below_size bl_)); replace HO258 := am_ (Kd.R_elder' (kr_ HO258.out) (Kd.R_base ho17) hb); replace HO261 := am_ (Kd.R_elder' (kr_ HO261.out) (Kd.R_base ho17) hb); replace BK253 := bb_ BK253 hb; replace BK254 := bb_ BK254 hb; replace BK255 := bb_ BK255 hb; replace HB := sb_ hb; clear hb ho17))
 go_loopg [25] k (fun kq v25 w' => ∃ (x7_1 : List Int) (x25_1 : Int), v25 = .int .i64 x25_1 ∧ Aside0 (times_Mul.l0 kq t259 x7_1 t256 (t256.length : Int) x25_1 = some r) ∧ Aside0 (kq ≤ k) ∧ Aside0 (Kd.R (Kd.int .u32) 96 w' w.heap.size (fun k_ => some k_ ≠ (v263 : Value).ownBlock ∧ some k_ ≠ ((.slice Ao14 t256.length co14) : Value).ownBlock) (.slice Ao15 t259.length co15) t259) ∧ Aside0 (Kd.R (Kd.int .u32) 96 w' w.heap.size (fun k_ => some k_ ≠ ((.slice Ao15 t259.length co15) : Value).ownBlock ∧ some k_ ≠ ((.slice Ao14 t256.length co14) : Value).ownBlock) v263 x7_1) ∧ Aside0 (Kd.R (Kd.int .u32) 96 w' w.heap.size (fun k_ => some k_ ≠ ((.slice Ao15 t259.length co15) : Value).ownBlock ∧ some k_ ≠ (v263 : Value).ownBlock) (.slice Ao14 t256.length co14) t256) ∧ Aside0 (w'.heap[gb253]? = some (.cells #[(.slice A0_0 l0_0.length c0_0)] 217 (0, 0))) ∧ Aside0 (w'.heap[gb254]? = some (.cells #[(.slice A1_0 l1_0.length c1_0)] 217 (0, 0))) ∧ Aside0 (w'.heap[gb255]? = some (.cells #[(.slice none 0 0)] 217 (0, 0))) ∧ Aside0 (Below w.heap.size w w'))
 case atStart => exact ⟨(y262), (0), sr_, H', ⟨Nat.le_refl _⟩, ⟨kr_ (Kd.R_mono HO261.out (fun _ hk => ⟨hk.2, hk.1.2⟩))⟩, ⟨kr_ (Kd.R_mono HO264.out (fun _ hk => ⟨hk.2, hk.1.2⟩))⟩, ⟨kr_ (Kd.R_mono HO258.out (fun _ hk => ⟨hk.1.2, hk.2⟩))⟩, ⟨bk_ BK253.out⟩, ⟨bk_ BK254.out⟩, ⟨bk_ BK255.out⟩, ⟨bl_⟩⟩
 case round =>
  clear H'
  try clear c1
  try clear p2
  try clear c6
  try clear c6b0
  try clear c6b1
  try clear p6
  try clear c7
  try clear c7b0
  try clear c7b1
  try clear c16
  obtain ⟨x7_1, x25_1, rfl, HA, HK1, HO_6, HO_7, HO_23, BK253, BK254, BK255, HB⟩ := hrel
  cases gk with
  | zero => exact absurd HA.out (by simp [times_Mul.l0])
  | succ k1 =>
   have H := HA.out
   clear HA
   simp only [times_Mul.l0] at H
   replace H := il_ H
   rcases H with ⟨-, c18b0, H⟩ | ⟨-, c18b0, H⟩
   ·
    replace H := ixl_ H
    obtain ⟨-, c19b0, H⟩ := H
    replace H := ixl_ H
    obtain ⟨-, c20b0, H⟩ := H
    have H' := am_ H
    clear H
    have p268 : 0 ≤ (x25_1 : Int) := da_
    have q268 : x25_1 < (t256.length : Int) := da_
    obtain ⟨ad268, e268, hx268_0⟩ := Kd.at_int (Kd.R_reads' HO_23.out).2.2 x25_1 p268 q268
    cases e268
    replace p268 := eq_true p268
    replace q268 := eq_true q268
    go_wp2
    go_loopg [10, 32] k1 (fun kq v10 v32 w' => ∃ (x7_2 : List Int) (x10_2 : Int) (x32_2 : Int), v10 = .int .u64 x10_2 ∧ v32 = .int .i64 x32_2 ∧ Aside0 (times_Mul.l1 kq t259 x7_2 x25_1 (rd t256 x25_1) x10_2 t256 (t256.length : Int) x25_1 t259 (t259.length : Int) x32_2 = some r) ∧ Aside0 (kq ≤ k1) ∧ Aside0 (Kd.R (Kd.int .u32) 96 w' w.heap.size (fun k_ => some k_ ≠ (v263 : Value).ownBlock ∧ some k_ ≠ ((.slice (some ad268) t256.length co14) : Value).ownBlock) (.slice Ao15 t259.length co15) t259) ∧ Aside0 (Kd.R (Kd.int .u32) 96 w' w.heap.size (fun k_ => some k_ ≠ ((.slice Ao15 t259.length co15) : Value).ownBlock ∧ some k_ ≠ ((.slice (some ad268) t256.length co14) : Value).ownBlock ∧ some k_ ≠ ((.slice Ao15 t259.length co15) : Value).ownBlock) v263 x7_2) ∧ Aside0 (Kd.R (Kd.int .u32) 96 w' w.heap.size (fun k_ => some k_ ≠ ((.slice Ao15 t259.length co15) : Value).ownBlock ∧ some k_ ≠ (v263 : Value).ownBlock ∧ some k_ ≠ ((.slice Ao15 t259.length co15) : Value).ownBlock) (.slice (some ad268) t256.length co14) t256) ∧ Aside0 (Kd.R (Kd.int .u32) 96 w' w.heap.size (fun k_ => some k_ ≠ (v263 : Value).ownBlock ∧ some k_ ≠ ((.slice (some ad268) t256.length co14) : Value).ownBlock) (.slice Ao15 t259.length co15) t259) ∧ Aside0 (w'.heap[gb253]? = some (.cells #[(.slice A0_0 l0_0.length c0_0)] 217 (0, 0))) ∧ Aside0 (w'.heap[gb254]? = some (.cells #[(.slice A1_0 l1_0.length c1_0)] 217 (0, 0))) ∧ Aside0 (w'.heap[gb255]? = some (.cells #[(.slice none 0 0)] 217 (0, 0))) ∧ Aside0 (Below w.heap.size w w'))
    case atStart => exact ⟨(x7_1), (0), (0), sr_, sr_, H', ⟨Nat.le_refl _⟩, ⟨kr_ HO_6.out⟩, ⟨kr_ (Kd.R_mono HO_7.out (fun _ hk => ⟨hk.1, ⟨hk.2, hk.1⟩⟩))⟩, ⟨kr_ (Kd.R_mono HO_23.out (fun _ hk => ⟨hk.1, ⟨hk.2, hk.1⟩⟩))⟩, ⟨kr_ HO_6.out⟩, ⟨bk_ BK253.out⟩, ⟨bk_ BK254.out⟩, ⟨bk_ BK255.out⟩, ⟨bl_⟩⟩
    case round =>
     clear H'
     try clear c1
     try clear c2
     try clear p2
     try clear q2
     try clear hx2
     try clear c6
     try clear c6b0
     try clear c6b1
     try clear p6
     try clear c7
     try clear c7b0
     try clear c7b1
     try clear c16
     try clear c18
     try clear c18b0
     try clear c19
     try clear c19b0
     try clear c20
     try clear c20b0
     try clear hx268_0
     try clear p2
     try clear p268
     try clear p6
     try clear q268
     obtain ⟨x7_2, x10_2, x32_2, rfl, rfl, HA, HK2, HO_6, HO_7, HO_23, HO_30, BK253, BK254, BK255, HB⟩ := hrel
     cases gk with
     | zero => exact absurd HA.out (by simp [times_Mul.l1])
     | succ k2 =>
      have H := HA.out
      clear HA
      simp only [times_Mul.l1] at H
      replace H := il_ H
      rcases H with ⟨-, c21b0, H⟩ | ⟨-, c21b0, H⟩
      ·
       replace H := ixl_ H
       obtain ⟨-, c22b0, H⟩ := H
       replace H := ixl_ H
       obtain ⟨-, c23b0, H⟩ := H
       obtain ⟨ji24, hji24⟩ : ∃ j_ : Int, (wrap64 (x25_1 + x32_2)) = j_ := ⟨_, rfl⟩
       replace H : (if 0 ≤ (ji24) then (if (ji24) < (x7_2.length : Int) then (times_Mul.l1 k2 t259 (x7_2.set ((ji24) : Int).toNat ((IntKind.u64.wrap (x10_2 + (IntKind.u64.wrap ((IntKind.u64.wrap ((IntKind.u64.wrap ((rd t256 x25_1))) * (IntKind.u64.wrap (rd t259 x32_2)))) + (IntKind.u64.wrap (rd x7_2 (ji24))))))) % 4294967296)) x25_1 (rd t256 x25_1) ((IntKind.u64.wrap (x10_2 + (IntKind.u64.wrap ((IntKind.u64.wrap ((IntKind.u64.wrap ((rd t256 x25_1))) * (IntKind.u64.wrap (rd t259 x32_2)))) + (IntKind.u64.wrap (rd x7_2 (ji24))))))) / 4294967296) t256 (t256.length : Int) x25_1 t259 (t259.length : Int) (wrap64 (x32_2 + 1))) else (none)) else (none)) = some r := by first | (rw [hji24] at H; exact H) | (simp only [hji24] at H ⊢; exact H)
       have hji24w : (IntKind.i64.wrap (x25_1 + x32_2)) = ji24 := (i64_w _).trans hji24
       replace H := ixl_ H
       obtain ⟨-, c25b0, H⟩ := H
       replace H := ixl_ H
       obtain ⟨-, c26b0, H⟩ := H
       obtain ⟨y271, hy271⟩ : ∃ y_ : List Int, y_ = (x7_2.set ((ji24) : Int).toNat ((IntKind.u64.wrap (x10_2 + (IntKind.u64.wrap ((IntKind.u64.wrap ((IntKind.u64.wrap ((rd t256 x25_1))) * (IntKind.u64.wrap (rd t259 x32_2)))) + (IntKind.u64.wrap (rd x7_2 (ji24))))))) % 4294967296)) := ⟨_, rfl⟩
       replace H : (times_Mul.l1 k2 t259 y271 x25_1 (rd t256 x25_1) ((IntKind.u64.wrap (x10_2 + (IntKind.u64.wrap ((IntKind.u64.wrap ((IntKind.u64.wrap ((rd t256 x25_1))) * (IntKind.u64.wrap (rd t259 x32_2)))) + (IntKind.u64.wrap (rd x7_2 (ji24))))))) / 4294967296) t256 (t256.length : Int) x25_1 t259 (t259.length : Int) (wrap64 (x32_2 + 1))) = some r := by first | (rw [hy271]; with_reducible exact H) | (have H2_ := (Option.bind_some _ _).symm.trans H; rw [hy271]; with_reducible exact H2_) | (have H2_ := (Option.bind_some _ _).symm.trans H; with_reducible exact H2_) | with_reducible exact H | (rw [hy271]; exact H) | exact H
       have Ny271 := am_ hy271
       clear hy271
       exact times_Mul.k1
      ·
       obtain ⟨ji31, hji31⟩ : ∃ j_ : Int, (wrap64 (x25_1 + (t259.length : Int))) = j_ := ⟨_, rfl⟩
       replace H : (if 0 ≤ (ji31) then (if (ji31) < (x7_2.length : Int) then (times_Mul.l0 k2 t259 (x7_2.set ((ji31) : Int).toNat ((x10_2) % 4294967296)) t256 (t256.length : Int) (wrap64 (x25_1 + 1))) else (none)) else (none)) = some r := by first | (rw [hji31] at H; exact H) | (simp only [hji31] at H ⊢; exact H)
       have hji31w : (IntKind.i64.wrap (x25_1 + (t259.length : Int))) = ji31 := (i64_w _).trans hji31
       replace H := ixl_ H
       obtain ⟨-, c32b0, H⟩ := H
       replace H := ixl_ H
       obtain ⟨-, c33b0, H⟩ := H
       obtain ⟨y272, hy272⟩ : ∃ y_ : List Int, y_ = (x7_2.set ((ji31) : Int).toNat ((x10_2) % 4294967296)) := ⟨_, rfl⟩
       replace H : (times_Mul.l0 k2 t259 y272 t256 (t256.length : Int) (wrap64 (x25_1 + 1))) = some r := by first | (rw [hy272]; with_reducible exact H) | (have H2_ := (Option.bind_some _ _).symm.trans H; rw [hy272]; with_reducible exact H2_) | (have H2_ := (Option.bind_some _ _).symm.trans H; with_reducible exact H2_) | with_reducible exact H | (rw [hy272]; exact H) | exact H
       have Ny272 := am_ hy272
       clear hy272
       exact times_Mul.k1
   ·
    replace H := bd_ H
    obtain ⟨t265, A37, H⟩ := H
    exact times_Mul.k1


def nat_Of.f (k : Nat) (a0 : Int) : Option (List Int) := (nat_Made.f k (([(a0) % 4294967296, (a0 / 4294967296) % 4294967296] : List Int))).bind fun t277 => (some t277)
theorem nat_Of.mono : ∀ a0 k, LeO (nat_Of.f k a0) (nat_Of.f (k + 1) a0) := by
 intro a0 k
 unfold nat_Of.f
 repeat' first | with_reducible first | exact nat_Made.mono _ _ | exact LeO.refl _ | exact LeO.none _ | refine LeO.ite ?_ ?_ | refine LeO.bind ?_ (fun _ => ?_)
set_option maxHeartbeats 8000000 in
set_option maxRecDepth 100000 in
theorem nat_Of.calls (k : Nat) (a0 : Int) (r : List Int) (w : World) (h : nat_Of.f k a0 = some r) :
 Calls Tryz.prog 171 #[.int .u64 a0] w fun e w' => ∃ v0_ : Value, e = .returned (.agg #[v0_]) ∧ Kd.R (Kd.int .u32) 96 w' w.heap.size (fun _ => True) v0_ r ∧ Below w.heap.size w w' := by
 have hu217 := Tryz.underlying217
 have HB := am_ (Below.refl w.heap.size w)
 have H : ((nat_Made.f k (([(a0) % 4294967296, (a0 / 4294967296) % 4294967296] : List Int))).bind fun t277 => (some t277)) = some r := h
 clear h
 obtain ⟨y274, hy274⟩ : ∃ y_ : List Int, y_ = (([(a0) % 4294967296, (a0 / 4294967296) % 4294967296] : List Int)) := ⟨_, rfl⟩
 replace H : ((nat_Made.f k y274).bind fun t277 => (some t277)) = some r := by first | (rw [hy274]; with_reducible exact H) | (have H2_ := (Option.bind_some _ _).symm.trans H; rw [hy274]; with_reducible exact H2_) | (have H2_ := (Option.bind_some _ _).symm.trans H; with_reducible exact H2_) | with_reducible exact H | (rw [hy274]; exact H) | exact H
 have Ny274 := am_ hy274
 clear hy274
 replace H := bd_ H
 obtain ⟨t277, A2, H⟩ := H
 obtain rfl := Option.some.inj H
 go_enter Tryz.func171, Tryz.ntmps171
 go_wp2_with (first | ((with_reducible refine gate_dst (N := 2) rfl ?_); refine bx_ (N := 2) (cs := #[.slice none 0 0]) (t := 217) ?_; intro gb273 hg w3 hbox hb; have BK273 := am_ hbox; have GW273 := am_ (bg_ hg : w.heap.size ≤ gb273); replace HB := sb_ hb; clear hb hbox hg) | ((with_reducible refine gate_dst (N := 8) rfl ?_); refine Kd.R_lit (Kd.int .u32) _ 96 ?hg (N := 8) ?hd (xs := ([(a0) % 4294967296, (a0 / 4294967296) % 4294967296] : List Int)) (inner := [.int .u32 ((a0) % 4294967296), .int .u32 ((a0 / 4294967296) % 4294967296)]) (ok := fun _ => True) (okp := fun _ => True) ?hr ?hp (fun _ hk => hk) trivial (Below.refl _ _) (Nat.le_refl _) (by simp) ?_; (case hd => rfl); (case hg => rfl); (case hr => first | (go_simp; done) | (go_simp; rfl)); (case hp => exact (Reps.one (show Kd.M (Kd.int .u32) _ _ _ ((a0) % 4294967296) [.int .u32 ((a0) % 4294967296)] from rfl) (Reps.one (show Kd.M (Kd.int .u32) _ _ _ ((a0 / 4294967296) % 4294967296) [.int .u32 ((a0 / 4294967296) % 4294967296)] from rfl) (Reps.none _ _)))); intro v275 w4 ho5 hb hg_ hnew_; clear hg_ hnew_; (first | rw [← Ny274.out] at ho5 | (simp only [Int.reduceToNat] at ho5; rw [← Ny274.out] at ho5)); have HO276 := am_ (Kd.R_lower ho5 (below_size bl_)); replace BK273 := bb_ BK273 hb; replace HB := sb_ hb; clear hb ho5; obtain ⟨Ao6, co6, eo6⟩ := Kd.R_slice HO276.out; subst eo6) | ((with_reducible refine gate_callee (f := 189) rfl ?_); refine gc_ (some 9) rfl rfl Tryz.func189 rfl #[.slice Ao6 y274.length co6] rfl ?_; (with_reducible refine (nat_Made.calls _ _ _ _ _ _ ?side1 ?side2 A2.out).mono ?_); (case side1 => exact kc_ (Kd.R_reads' HO276.out).2.2); (case side2 => exact (Kd.R_reads' HO276.out).2.1); rintro e w7 ⟨v278, rfl, ho0, hb⟩; refine ⟨_, rfl, ?_⟩; have HO279 := am_ (Kd.R_lower (Kd.R_new' ho0 (Kd.R_lt (kr_ HO276.out))) (below_size bl_)); replace HO276 := am_ (Kd.R_elder' (kr_ HO276.out) (Kd.R_base ho0) hb); replace BK273 := bb_ BK273 hb; replace HB := sb_ hb; clear hb ho0; obtain ⟨Ao8, co8, eo8⟩ := Kd.R_slice HO279.out; subst eo8; obtain ⟨hcz9_0, hfz9_0⟩ := cz1_ BK273.out))
 refine bodyPost_ret (results_cell_row rfl _ _ gb273 217 _ (0, 0) _ rfl (bp_ BK273.out) Tryz.underlying217 rfl (by kernel_rfl)) rfl ?_
 exact ⟨_, er_, Kd.R_mono (rf_ gb273 (Kd.R_types HO279.out BK273.out (by decide)) (fun _ hk => hk.2)) (fun _ hk => trivial), bl_⟩

end Go.Proofs.YtiidpicgdjjikaaGreatDoor.P
