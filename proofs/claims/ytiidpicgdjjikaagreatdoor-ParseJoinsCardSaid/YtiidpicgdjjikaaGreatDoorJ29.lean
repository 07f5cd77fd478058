import Derived.Test.YtiidpicgdjjikaaGreatDoorJ6
namespace Go.Proofs.YtiidpicgdjjikaaGreatDoor.P
open Go.RowKit Go.Proofs.YtiidpicgdjjikaaGreatDoor.G Go.Proofs.YtiidpicgdjjikaaGreatDoorW.PrintWords Go.Proofs.YtiidpicgdjjikaaGreatDoorW.PrintLast Go.Proofs.YtiidpicgdjjikaaGreatDoorW.PrintMore
attribute [local go_sem] isSome_setCell_eq max2_int min2_int max_two min_two max_three min_three max_four min_four
set_option linter.unusedVariables false
set_option linter.unusedSimpArgs false

def item_counted.f (a0_0 : Int) (a0_1 : ByteArray) (a0_2 : Int) (a0_3 : Int) : Option (Int × ByteArray × Int) := if a0_1.toList = ([121] : List UInt8) then (if a0_2 > 2 then (some (12, a0_1, 4)) else (some (12, a0_1, 2))) else (if a0_1.toList = ([109] : List UInt8) then (some (12, a0_1, mn a0_2 5)) else (if a0_1.toList = ([100] : List UInt8) then (some (12, a0_1, mn a0_2 4)) else (some (12, a0_1, mn a0_2 2))))
set_option maxRecDepth 1000000 in
theorem item_counted.k1 {p : Prop} (h : p := by
 first | (simp only [Option.some.injEq, Prod.mk.injEq] at H; obtain ⟨rfl, rfl, rfl⟩ := H) | (have H' := am_ H; clear H)
 go_enter Tryz.func85, Tryz.ntmps85
 try go_wp2_with (first | ((with_reducible refine gate_dst (N := 1) rfl ?_); refine bx_ (N := 1) (cs := #[.int .i64 a0_0, .string a0_1, .int .i64 a0_2, .int .i64 a0_3]) (t := 53) ?_; intro gb343 hg w1 hbox hb; have BK343 := am_ hbox; have GW343 := am_ (bg_ hg : w.heap.size ≤ gb343); replace HB := sb_ hb; clear hb hbox hg) | ((with_reducible refine gate_dst (N := 2) rfl ?_); refine bx_ (N := 2) (cs := #[.int .i64 0, .string (⟨#[]⟩ : ByteArray), .int .i64 0]) (t := 55) ?_; intro gb344 hg w2 hbox hb; have BK344 := am_ hbox; have GW344 := am_ (bg_ hg : w.heap.size ≤ gb344); obtain ⟨NB343_344, NB344_343⟩ := nb_ hg BK343; replace BK343 := bb_ BK343 hb; replace HB := sb_ hb; clear hb hbox hg; have hnb3 := NB343_344.out; have hnc3 := NB344_343.out; obtain ⟨hcz4_0, hcz4_1, hcz4_2, hcz4_3, hfz4_0, hfz4_1, hfz4_2, hfz4_3⟩ := cz4_ BK343.out; obtain ⟨hcz5_0, hcz5_1, hcz5_2, hfz5_0, hfz5_1, hfz5_2⟩ := cz3_ BK344.out))
 refine bodyPost_ret (results_cell_row rfl _ _ gb344 55 _ (0, 0) _ rfl (bp_ BK344.out) Tryz.underlying55 rfl (by kernel_rfl)) rfl ?_
 first
  | (
   exact ⟨er_, bl_⟩)
  | (
   exact ⟨by first | rfl | (simp [errW_none, errW_some] <;> rfl) | (simp only [← hji15]; first | rfl | (simp [errW_none, errW_some] <;> rfl)) | (simp [*, errW_none, errW_some] <;> rfl), bl_⟩)
  | (
   exact ⟨by first | rfl | (simp [errW_none, errW_some] <;> rfl) | (simp only [← hji22]; first | rfl | (simp [errW_none, errW_some] <;> rfl)) | (simp [*, errW_none, errW_some] <;> rfl), bl_⟩)
  | (
   exact ⟨by first | rfl | (simp [errW_none, errW_some] <;> rfl) | (simp only [← hji28]; first | rfl | (simp [errW_none, errW_some] <;> rfl)) | (simp [*, errW_none, errW_some] <;> rfl), bl_⟩)) : p := h
set_option maxHeartbeats 8000000 in
set_option maxRecDepth 100000 in
theorem item_counted.calls (a0_0 : Int) (a0_1 : ByteArray) (a0_2 : Int) (a0_3 : Int) (r1 : Int) (r2 : ByteArray) (r3 : Int) (w : World) (h : item_counted.f a0_0 a0_1 a0_2 a0_3 = some (r1, r2, r3)) :
 Calls Tryz.prog 85 #[.agg #[.int .i64 a0_0, .string a0_1, .int .i64 a0_2, .int .i64 a0_3]] w fun e w' => e = .returned (.agg #[.int .i64 r1, .string r2, .int .i64 r3]) ∧ Below w.heap.size w w' := by
 have hu53 := Tryz.underlying53
 have hu55 := Tryz.underlying55
 have HB := am_ (Below.refl w.heap.size w)
 have H : (if a0_1.toList = ([121] : List UInt8) then (if a0_2 > 2 then (some (12, a0_1, 4)) else (some (12, a0_1, 2))) else (if a0_1.toList = ([109] : List UInt8) then (some (12, a0_1, mn a0_2 5)) else (if a0_1.toList = ([100] : List UInt8) then (some (12, a0_1, mn a0_2 4)) else (some (12, a0_1, mn a0_2 2))))) = some (r1, r2, r3) := h
 clear h
 replace H := ie_ H
 rcases H with ⟨-, c2b0, c2b1, H⟩ | ⟨c2, c2b0, c2b1, H⟩
 ·
  replace H := il_ H
  rcases H with ⟨-, c3b0, H⟩ | ⟨-, c3b0, H⟩
  ·
   exact item_counted.k1
  ·
   exact item_counted.k1
 ·
  replace H := ie_ H
  rcases H with ⟨-, c14b0, c14b1, H⟩ | ⟨c14, c14b0, c14b1, H⟩
  ·
   obtain ⟨ji15, hji15⟩ : ∃ j_ : Int, (mn a0_2 5) = j_ := ⟨_, rfl⟩
   replace H : (some (12, a0_1, ji15)) = some (r1, r2, r3) := by first | (rw [hji15] at H; exact H) | (simp only [hji15] at H ⊢; exact H)
   (try (have hji15h : ji15 ≤ 5 := by (rw [← hji15]; unfold mn; (repeat' split) <;> omega)))
   (try (have hji15g : ji15 ≤ 64 := by omega))
   have hji15_ : (if 5 < a0_2 then 5 else a0_2) = ji15 := hji15
   exact item_counted.k1
  ·
   replace H := ie_ H
   rcases H with ⟨-, c21b0, c21b1, H⟩ | ⟨c21, c21b0, c21b1, H⟩
   ·
    obtain ⟨ji22, hji22⟩ : ∃ j_ : Int, (mn a0_2 4) = j_ := ⟨_, rfl⟩
    replace H : (some (12, a0_1, ji22)) = some (r1, r2, r3) := by first | (rw [hji22] at H; exact H) | (simp only [hji22] at H ⊢; exact H)
    (try (have hji22h : ji22 ≤ 4 := by (rw [← hji22]; unfold mn; (repeat' split) <;> omega)))
    (try (have hji22g : ji22 ≤ 64 := by omega))
    have hji22_ : (if 4 < a0_2 then 4 else a0_2) = ji22 := hji22
    exact item_counted.k1
   ·
    obtain ⟨ji28, hji28⟩ : ∃ j_ : Int, (mn a0_2 2) = j_ := ⟨_, rfl⟩
    replace H : (some (12, a0_1, ji28)) = some (r1, r2, r3) := by first | (rw [hji28] at H; exact H) | (simp only [hji28] at H ⊢; exact H)
    (try (have hji28h : ji28 ≤ 2 := by (rw [← hji28]; unfold mn; (repeat' split) <;> omega)))
    (try (have hji28g : ji28 ≤ 64 := by omega))
    have hji28_ : (if 2 < a0_2 then 2 else a0_2) = ji28 := hji28
    exact item_counted.k1

end Go.Proofs.YtiidpicgdjjikaaGreatDoor.P
