import Derived.Test.YtiidpicgdjjikaaGreatDoorJ4
import Derived.Test.YtiidpicgdjjikaaGreatDoorJ6
namespace Go.Proofs.YtiidpicgdjjikaaGreatDoor.P
open Go.RowKit Go.Proofs.YtiidpicgdjjikaaGreatDoor.G Go.Proofs.YtiidpicgdjjikaaGreatDoorW.PrintWords Go.Proofs.YtiidpicgdjjikaaGreatDoorW.PrintLast Go.Proofs.YtiidpicgdjjikaaGreatDoorW.PrintMore
attribute [local go_sem] isSome_setCell_eq max2_int min2_int max_two min_two max_three min_three max_four min_four
set_option linter.unusedVariables false
set_option linter.unusedSimpArgs false

def colour_names.f  : Option (List ByteArray) := some (([(⟨#[66, 108, 97, 99, 107]⟩ : ByteArray), (⟨#[66, 108, 117, 101]⟩ : ByteArray), (⟨#[67, 121, 97, 110]⟩ : ByteArray), (⟨#[71, 114, 101, 101, 110]⟩ : ByteArray), (⟨#[77, 97, 103, 101, 110, 116, 97]⟩ : ByteArray), (⟨#[82, 101, 100]⟩ : ByteArray), (⟨#[87, 104, 105, 116, 101]⟩ : ByteArray), (⟨#[89, 101, 108, 108, 111, 119]⟩ : ByteArray)] : List ByteArray))
set_option maxHeartbeats 8000000 in
set_option maxRecDepth 100000 in
theorem colour_names.calls  (r : List ByteArray) (w : World) (h : colour_names.f  = some r) :
 Calls Tryz.prog 129 #[] w fun e w' => ∃ v0_ : Value, e = .returned (v0_) ∧ Kd.R Kd.string 9 w' w.heap.size (fun _ => True) v0_ r ∧ Below w.heap.size w w' := by
 have HB := am_ (Below.refl w.heap.size w)
 have H : (some (([(⟨#[66, 108, 97, 99, 107]⟩ : ByteArray), (⟨#[66, 108, 117, 101]⟩ : ByteArray), (⟨#[67, 121, 97, 110]⟩ : ByteArray), (⟨#[71, 114, 101, 101, 110]⟩ : ByteArray), (⟨#[77, 97, 103, 101, 110, 116, 97]⟩ : ByteArray), (⟨#[82, 101, 100]⟩ : ByteArray), (⟨#[87, 104, 105, 116, 101]⟩ : ByteArray), (⟨#[89, 101, 108, 108, 111, 119]⟩ : ByteArray)] : List ByteArray))) = some r := h
 clear h
 obtain ⟨y209, hy209⟩ : ∃ y_ : List ByteArray, y_ = (([(⟨#[66, 108, 97, 99, 107]⟩ : ByteArray), (⟨#[66, 108, 117, 101]⟩ : ByteArray), (⟨#[67, 121, 97, 110]⟩ : ByteArray), (⟨#[71, 114, 101, 101, 110]⟩ : ByteArray), (⟨#[77, 97, 103, 101, 110, 116, 97]⟩ : ByteArray), (⟨#[82, 101, 100]⟩ : ByteArray), (⟨#[87, 104, 105, 116, 101]⟩ : ByteArray), (⟨#[89, 101, 108, 108, 111, 119]⟩ : ByteArray)] : List ByteArray)) := ⟨_, rfl⟩
 replace H : (some y209) = some r := by first | (rw [hy209]; with_reducible exact H) | (have H2_ := (Option.bind_some _ _).symm.trans H; rw [hy209]; with_reducible exact H2_) | (have H2_ := (Option.bind_some _ _).symm.trans H; with_reducible exact H2_) | with_reducible exact H | (rw [hy209]; exact H) | exact H
 have Ny209 := am_ hy209
 clear hy209
 obtain rfl := Option.some.inj H
 go_enter Tryz.func129, Tryz.ntmps129
 go_wp2_with (first | ((with_reducible refine gate_dst (N := 1) rfl ?_); refine Kd.R_lit Kd.string _ 9 ?hg (N := 1) ?hd (xs := ([(⟨#[66, 108, 97, 99, 107]⟩ : ByteArray), (⟨#[66, 108, 117, 101]⟩ : ByteArray), (⟨#[67, 121, 97, 110]⟩ : ByteArray), (⟨#[71, 114, 101, 101, 110]⟩ : ByteArray), (⟨#[77, 97, 103, 101, 110, 116, 97]⟩ : ByteArray), (⟨#[82, 101, 100]⟩ : ByteArray), (⟨#[87, 104, 105, 116, 101]⟩ : ByteArray), (⟨#[89, 101, 108, 108, 111, 119]⟩ : ByteArray)] : List ByteArray)) (inner := [.string (⟨#[66, 108, 97, 99, 107]⟩ : ByteArray), .string (⟨#[66, 108, 117, 101]⟩ : ByteArray), .string (⟨#[67, 121, 97, 110]⟩ : ByteArray), .string (⟨#[71, 114, 101, 101, 110]⟩ : ByteArray), .string (⟨#[77, 97, 103, 101, 110, 116, 97]⟩ : ByteArray), .string (⟨#[82, 101, 100]⟩ : ByteArray), .string (⟨#[87, 104, 105, 116, 101]⟩ : ByteArray), .string (⟨#[89, 101, 108, 108, 111, 119]⟩ : ByteArray)]) (ok := fun _ => True) (okp := fun _ => True) ?hr ?hp (fun _ hk => hk) trivial (Below.refl _ _) (Nat.le_refl _) (by simp) ?_; (case hd => rfl); (case hg => rfl); (case hr => first | (go_simp; done) | (go_simp; rfl)); (case hp => exact (Reps.one (show Kd.M Kd.string _ _ _ (⟨#[66, 108, 97, 99, 107]⟩ : ByteArray) [.string (⟨#[66, 108, 97, 99, 107]⟩ : ByteArray)] from rfl) (Reps.one (show Kd.M Kd.string _ _ _ (⟨#[66, 108, 117, 101]⟩ : ByteArray) [.string (⟨#[66, 108, 117, 101]⟩ : ByteArray)] from rfl) (Reps.one (show Kd.M Kd.string _ _ _ (⟨#[67, 121, 97, 110]⟩ : ByteArray) [.string (⟨#[67, 121, 97, 110]⟩ : ByteArray)] from rfl) (Reps.one (show Kd.M Kd.string _ _ _ (⟨#[71, 114, 101, 101, 110]⟩ : ByteArray) [.string (⟨#[71, 114, 101, 101, 110]⟩ : ByteArray)] from rfl) (Reps.one (show Kd.M Kd.string _ _ _ (⟨#[77, 97, 103, 101, 110, 116, 97]⟩ : ByteArray) [.string (⟨#[77, 97, 103, 101, 110, 116, 97]⟩ : ByteArray)] from rfl) (Reps.one (show Kd.M Kd.string _ _ _ (⟨#[82, 101, 100]⟩ : ByteArray) [.string (⟨#[82, 101, 100]⟩ : ByteArray)] from rfl) (Reps.one (show Kd.M Kd.string _ _ _ (⟨#[87, 104, 105, 116, 101]⟩ : ByteArray) [.string (⟨#[87, 104, 105, 116, 101]⟩ : ByteArray)] from rfl) (Reps.one (show Kd.M Kd.string _ _ _ (⟨#[89, 101, 108, 108, 111, 119]⟩ : ByteArray) [.string (⟨#[89, 101, 108, 108, 111, 119]⟩ : ByteArray)] from rfl) (Reps.none _ _)))))))))); intro v210 w1 ho2 hb hg_ hnew_; clear hg_ hnew_; (first | rw [← Ny209.out] at ho2 | (simp only [Int.reduceToNat] at ho2; rw [← Ny209.out] at ho2)); have HO211 := am_ (Kd.R_lower ho2 (below_size bl_)); replace HB := sb_ hb; clear hb ho2))
 go_ret
 exact ⟨_, er_, kr_ HO211.out, bl_⟩


def colour_Name.j0 : Nat → Int → List ByteArray → Int → Bool → Option (ByteArray)
 | 0, _, _, _, _ => none
 | k + 1, x0, x3, x4, x10 => if x10 = true then (if 0 ≤ (wrap64 (x0 - 1)) then (if (wrap64 (x0 - 1)) < (x3.length : Int) then (some (rdOf ByteArray.empty x3 (wrap64 (x0 - 1)))) else (none)) else (none)) else (if x4 ≥ 1 then (if x4 ≤ 56 then ((strconv_Itoa.f x4).bind fun t216 => (if 5 + t216.size ≤ 9223372036854775807 then (some ((⟨#[67, 111, 108, 111, 114]⟩ : ByteArray) ++ t216)) else (none))) else (some (⟨#[]⟩ : ByteArray))) else (some (⟨#[]⟩ : ByteArray)))
def colour_Name.f (k : Nat) (a0 : Int) : Option (ByteArray) := (colour_names.f).bind fun t212 => (if a0 ≥ 1 then (colour_Name.j0 k a0 t212 (wrap64 (a0 - (t212.length : Int))) (decide ((wrap64 (a0 - (t212.length : Int))) ≤ 0))) else (colour_Name.j0 k a0 t212 (wrap64 (a0 - (t212.length : Int))) false))
theorem colour_Name.mono_l : ∀ k, (∀ y0 y1 y2 y3, LeO (colour_Name.j0 k y0 y1 y2 y3) (colour_Name.j0 (k + 1) y0 y1 y2 y3))
 | 0 => fun _ _ _ _ r h => by simp [colour_Name.j0] at h
 | k + 1 => by
  have ih0 := colour_Name.mono_l k
  ·
   intro y0 y1 y2 y3
   unfold colour_Name.j0
   repeat' first
   | (with_reducible exact ih0 _ _ _ _)
   | (with_reducible exact LeO.refl _)
   | (with_reducible exact LeO.none _)
   | (with_reducible refine LeO.ite ?_ ?_)
   | (with_reducible refine LeO.bind ?_ (fun _ => ?_))
   | exact ih0 _ _ _ _
   | exact LeO.none _
   | refine LeO.ite ?_ ?_
   | refine LeO.bind ?_ (fun _ => ?_)
theorem colour_Name.mono : ∀ a0 k, LeO (colour_Name.f k a0) (colour_Name.f (k + 1) a0) := by
 intro a0 k
 have ih0 := colour_Name.mono_l k
 unfold colour_Name.f
 repeat' first | with_reducible first | exact ih0 _ _ _ _ | exact LeO.refl _ | exact LeO.none _ | refine LeO.ite ?_ ?_ | refine LeO.bind ?_ (fun _ => ?_)
set_option maxRecDepth 1000000 in
theorem colour_Name.k1 {p : Prop} (h : p := by
 first | (obtain rfl := Option.some.inj H) | (have H' := am_ H; clear H)
 first
  | (
   go_wp2
   first
    | (
     go_meet
     first
      | (
       case rel => exact ⟨_, (decide ((wrap64 (a0 - (t212.length : Int))) ≤ 0)), sr_, H', ⟨by first | omega | exact Nat.le_refl _⟩, ⟨kr_ HO214.out⟩, ⟨bl_⟩⟩)
      | (
       case rel => exact ⟨_, (false), sr_, H', ⟨by first | omega | exact Nat.le_refl _⟩, ⟨kr_ HO214.out⟩, ⟨bl_⟩⟩))
    | (
     go_ret
     exact ⟨er_, bl_⟩))
  | (
   have p215 : 0 ≤ ((ji8) : Int) := da_
   have q215 : (ji8) < (t212.length : Int) := da_
   obtain ⟨ad215, e215, hx215_0⟩ := Kd.at_string (Kd.R_reads' HO_3.out).2.2 (ji8) p215 q215
   cases e215
   replace p215 := eq_true p215
   replace q215 := eq_true q215
   go_wp2
   go_ret
   exact ⟨by first | rfl | (simp [errW_none, errW_some] <;> rfl) | (simp only [← hji8]; first | rfl | (simp [errW_none, errW_some] <;> rfl)) | (simp [*, errW_none, errW_some] <;> rfl), bl_⟩)
  | (
   try go_wp2_with (first | ((with_reducible refine gate_callee (f := 147) rfl ?_); refine gc_ (some 30) rfl rfl Tryz.func147 rfl #[.int .i64 (wrap64 (a0 - (t212.length : Int)))] rfl ?_; (with_reducible refine (strconv_Itoa.calls _ _ _ A13.out ?side1).mono ?_); (case side1 => exact LW.below HLW.out bl_); rintro e w1 ⟨rfl, hb⟩; refine ⟨_, rfl, ?_⟩; replace HO_3 := rb_ HO_3 hb; replace HB := sb_ hb; clear hb))
   go_ret
   exact ⟨er_, bl_⟩)) : p := h
set_option maxHeartbeats 8000000 in
set_option maxRecDepth 100000 in
theorem colour_Name.calls (k : Nat) (a0 : Int) (r : ByteArray) (w : World) (h : colour_Name.f k a0 = some r) (HLW_ : LW w) :
 Calls Tryz.prog 131 #[.int .i64 a0] w fun e w' => e = .returned (.string r) ∧ Below w.heap.size w w' := by
 have HLW := am_ HLW_
 clear HLW_
 have HB := am_ (Below.refl w.heap.size w)
 have H : ((colour_names.f).bind fun t212 => (if a0 ≥ 1 then (colour_Name.j0 k a0 t212 (wrap64 (a0 - (t212.length : Int))) (decide ((wrap64 (a0 - (t212.length : Int))) ≤ 0))) else (colour_Name.j0 k a0 t212 (wrap64 (a0 - (t212.length : Int))) false))) = some r := h
 clear h
 replace H := bd_ H
 obtain ⟨t212, A2, H⟩ := H
 have HC3 := am_ H
 clear H
 go_enter Tryz.func131, Tryz.ntmps131
 go_upto_region 3 with (first | ((with_reducible refine gate_callee (f := 129) rfl ?_); refine gc_ (some 5) rfl rfl Tryz.func129 rfl #[] rfl ?_; (with_reducible refine (colour_names.calls _ _ A2.out).mono ?_); rintro e w4 ⟨v213, rfl, ho0, hb⟩; refine ⟨_, rfl, ?_⟩; have HO214 := am_ (Kd.R_lower ho0 (below_size bl_)); replace HB := sb_ hb; clear hb ho0; obtain ⟨Ao5, co5, eo5⟩ := Kd.R_slice HO214.out; subst eo5))
 (try simp only [Act.put, List.setIfInBounds_toArray, List.set_cons_zero, List.set_cons_succ])
 go_cut [10] (fun v10 wc => ∃ (kq : Nat) (x10_2 : Bool), v10 = .bool x10_2 ∧ Aside0 (colour_Name.j0 kq a0 t212 (wrap64 (a0 - (t212.length : Int))) x10_2 = some r) ∧ Aside0 (kq ≤ k) ∧ Aside0 (Kd.R Kd.string 9 wc w.heap.size (fun _ => True) (.slice Ao5 t212.length co5) t212) ∧ Aside0 (Below w.heap.size w wc))
 case first =>
  have H := HC3.out
  clear HC3
  replace H := il_ H
  rcases H with ⟨-, c6b0, H⟩ | ⟨-, c6b0, H⟩
  ·
   (first | rw [c6b0] | (simp only [i64_w, i32_w]; rw [c6b0]) | skip)
   exact colour_Name.k1
  ·
   (first | rw [c6b0] | (simp only [i64_w, i32_w]; rw [c6b0]) | skip)
   exact colour_Name.k1
 case rest =>
  clear HC3
  try clear c1
  try clear p2
  try clear c6
  try clear c6b0
  try clear p6
  obtain ⟨kq, x10_2, rfl, HA, HJ2, HO_3, HB⟩ := hcut
  cases kq with
  | zero => exact absurd HA.out (by simp [colour_Name.j0])
  | succ kj2 =>
   have H := HA.out
   clear HA
   simp only [colour_Name.j0] at H
   replace H := ib_ H
   rcases H with ⟨rfl, H⟩ | ⟨rfl, H⟩
   ·
    obtain ⟨ji8, hji8⟩ : ∃ j_ : Int, (wrap64 (a0 - 1)) = j_ := ⟨_, rfl⟩
    replace H : (if 0 ≤ (ji8) then (if (ji8) < (t212.length : Int) then (some (rdOf ByteArray.empty t212 (ji8))) else (none)) else (none)) = some r := by first | (rw [hji8] at H; exact H) | (simp only [hji8] at H ⊢; exact H)
    have hji8w : (IntKind.i64.wrap (a0 - 1)) = ji8 := (i64_w _).trans hji8
    replace H := ixl_ H
    obtain ⟨-, c9b0, H⟩ := H
    replace H := ixl_ H
    obtain ⟨-, c10b0, H⟩ := H
    exact colour_Name.k1
   ·
    replace H := il_ H
    rcases H with ⟨-, c11b0, H⟩ | ⟨-, c11b0, H⟩
    ·
     replace H := il_ H
     rcases H with ⟨-, c12b0, H⟩ | ⟨-, c12b0, H⟩
     ·
      replace H := bd_ H
      obtain ⟨t216, A13, H⟩ := H
      replace H := ixl_ H
      obtain ⟨c14, -, H⟩ := H
      have c14b0 := eq_true c14
      have c14b1 : decide (5 + t216.size ≤ 9223372036854775807) = true := decide_eq_true c14
      try have c14b2 : (9223372036854775807 < 5 + t216.size) = False := eq_false (Nat.not_lt.2 c14)
      exact colour_Name.k1
     ·
      exact colour_Name.k1
    ·
     exact colour_Name.k1

end Go.Proofs.YtiidpicgdjjikaaGreatDoor.P
