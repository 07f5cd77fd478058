/- Texts of this seat, one behind the other (merged by a program of this session's own). -/
import Derived.Test.YtiidpicgdjjikaaGreatDoorM6
import Derived.Test.YtiidpicgdjjikaaGreatDoorM17

-- Px14
-- of this claim: by a program of this session's own over the kit's print
namespace Go.Proofs.YtiidpicgdjjikaaGreatDoor.P
open Go.RowKit Go.Proofs.YtiidpicgdjjikaaGreatDoor.G Go.Proofs.YtiidpicgdjjikaaGreatDoorW.PrintWords Go.Proofs.YtiidpicgdjjikaaGreatDoorW.PrintLast Go.Proofs.YtiidpicgdjjikaaGreatDoorW.PrintMore
attribute [local go_sem] isSome_setCell_eq max2_int min2_int max_two min_two max_three min_three max_four min_four   -- for this text's walks alone
set_option linter.unusedVariables false
set_option linter.unusedSimpArgs false

/-! ### numerarylaw14_tokens: function 10 -/
def numerarylaw14_tokens.l0 : Nat → List (S75) → Int → List (S53) → List (S75) → Int → Int → Option ((List (S53)) × (List (S75)) × Bool)
  | 0, _, _, _, _, _, _ => none
  | k + 1, x5, x7, x8, x21, x22, x23 => if x23 < x22 then (if 0 ≤ x23 then (if x23 < (x21.length : Int) then (if x8.length < 3518437208883 then (numerarylaw14_tokens.l0 k x5 x7 (x8 ++ [(⟨(rd_T75 x21 x23).f0, (rd_T75 x21 x23).f1, (rd_T75 x21 x23).f2, (rd_T75 x21 x23).f3⟩ : S53)]) x21 x22 (wrap64 (x23 + 1))) else (none)) else (none)) else (none)) else (some (x8, x5, (x7 == 0)))
def numerarylaw14_tokens.f (k : Nat) (a0 : ByteArray) : Option ((List (S53)) × (List (S75)) × Bool) := if 0 ≤ (mn (a0.size : Int) 300) then (if (mn (a0.size : Int) 300) ≤ (a0.size : Int) then ((numeraryref11_All.f k (a0.extract 0 ((mn (a0.size : Int) 300) : Int).toNat)).bind fun bt183 => (numerarylaw14_tokens.l0 k bt183.1 bt183.2.2 ([] : List (S53)) bt183.1 (bt183.1.length : Int) 0)) else (none)) else (none)
theorem numerarylaw14_tokens.mono_l : ∀ k, (∀ y0 y1 y2 y3 y4 y5, LeO (numerarylaw14_tokens.l0 k y0 y1 y2 y3 y4 y5) (numerarylaw14_tokens.l0 (k + 1) y0 y1 y2 y3 y4 y5))
  | 0 => fun _ _ _ _ _ _ r h => by simp [numerarylaw14_tokens.l0] at h
  | k + 1 => by
   have ih0 := numerarylaw14_tokens.mono_l k
   ·
    intro y0 y1 y2 y3 y4 y5
    unfold numerarylaw14_tokens.l0
    repeat' first
    | (with_reducible exact ih0 _ _ _ _ _ _)
    | (with_reducible exact numeraryref11_All.mono _ _)
    | (with_reducible exact LeO.refl _)
    | (with_reducible exact LeO.none _)
    | (with_reducible refine LeO.ite ?_ ?_)
    | (with_reducible refine LeO.bind ?_ (fun _ => ?_))
    | exact ih0 _ _ _ _ _ _
    | exact numeraryref11_All.mono _ _
    | exact LeO.none _
    | refine LeO.ite ?_ ?_
    | refine LeO.bind ?_ (fun _ => ?_)
theorem numerarylaw14_tokens.mono : ∀ a0 k, LeO (numerarylaw14_tokens.f k a0) (numerarylaw14_tokens.f (k + 1) a0) := by
  intro a0 k
  have ih0 := numerarylaw14_tokens.mono_l k
  unfold numerarylaw14_tokens.f
  repeat' first
    | (with_reducible exact ih0 _ _ _ _ _ _)
    | (with_reducible exact numeraryref11_All.mono _ _)
    | (with_reducible exact LeO.refl _)
    | (with_reducible exact LeO.none _)
    | (with_reducible refine LeO.ite ?_ ?_)
    | (with_reducible refine LeO.bind ?_ (fun _ => ?_))
    | exact ih0 _ _ _ _ _ _
    | exact numeraryref11_All.mono _ _
    | exact LeO.none _
    | refine LeO.ite ?_ ?_
    | refine LeO.bind ?_ (fun _ => ?_)
set_option maxHeartbeats 8000000 in
set_option maxRecDepth 100000 in
theorem numerarylaw14_tokens.calls (k : Nat) (a0 : ByteArray) (r1 : List (S53)) (r2 : List (S75)) (r3 : Bool) (w : World) (h : numerarylaw14_tokens.f k a0 = some (r1, r2, r3)) :
   Calls Tryz.prog 10 #[.string a0] w fun e w' => ∃ v0_ v1_ : Value, e = .returned (.tuple #[v0_, v1_, .bool r3]) ∧ Kd.R k53 53 w' w.heap.size (fun _ => True) v0_ r1 ∧ Kd.R k75 75 w' w.heap.size (fun _ => True) v1_ r2 ∧ Below w.heap.size w w' := by
  have hu75 := Tryz.underlying75
  have hu53 := Tryz.underlying53
  have HB := Aside0.mk (Below.refl w.heap.size w)
  have H : (if 0 ≤ (mn (a0.size : Int) 300) then (if (mn (a0.size : Int) 300) ≤ (a0.size : Int) then ((numeraryref11_All.f k (a0.extract 0 ((mn (a0.size : Int) 300) : Int).toNat)).bind fun bt183 => (numerarylaw14_tokens.l0 k bt183.1 bt183.2.2 ([] : List (S53)) bt183.1 (bt183.1.length : Int) 0)) else (none)) else (none)) = some (r1, r2, r3) := h
  clear h
  obtain ⟨ji2, hji2⟩ : ∃ j_ : Int, (mn (a0.size : Int) 300) = j_ := ⟨_, rfl⟩
  replace H : (if 0 ≤ (ji2) then (if (ji2) ≤ (a0.size : Int) then ((numeraryref11_All.f k (a0.extract 0 ((ji2) : Int).toNat)).bind fun bt183 => (numerarylaw14_tokens.l0 k bt183.1 bt183.2.2 ([] : List (S53)) bt183.1 (bt183.1.length : Int) 0)) else (none)) else (none)) = some (r1, r2, r3) := by first | (rw [hji2] at H; exact H) | (simp only [hji2] at H ⊢; exact H)
  (try (have hji2h : ji2 ≤ 300 := by (rw [← hji2]; unfold mn; (repeat' split) <;> omega)))
  (try (have hji2g : ji2 ≤ 64 := by omega))
  (try (have hji2l : 0 ≤ ji2 := by (rw [← hji2]; unfold mn; (repeat' split) <;> omega)))
  (try (have hji2m : 0 ≤ ji2 := by omega))
  have hji2_ : (if 300 < (a0.size : Int) then 300 else (a0.size : Int)) = ji2 := hji2
  by_cases c3 : 0 ≤ (ji2)
  ·
   rw [if_pos c3] at H
   have c3b0 := eq_true c3
   have c3b1 : decide (0 ≤ (ji2)) = true := decide_eq_true c3
   clear c3
   by_cases c4 : (ji2) ≤ (a0.size : Int)
   ·
    rw [if_pos c4] at H
    have c4b0 := eq_true c4
    have c4b1 : decide ((ji2) ≤ (a0.size : Int)) = true := decide_eq_true c4
    clear c4
    replace H := Option.bind_eq_some_iff.mp H
    obtain ⟨⟨t183, t184, t185⟩, A50, H⟩ := H
    replace H : (numerarylaw14_tokens.l0 k t183 t185 ([] : List (S53)) t183 (t183.length : Int) 0) = some (r1, r2, r3) := H
    have A5 := Aside0.mk A50
    clear A50
    have H' := Aside0.mk H
    clear H
    go_enter Tryz.func10, Tryz.ntmps10
    go_wp2_with (first | ((with_reducible refine gate_callee (f := 25) rfl ?_); refine goesL_ (some 17) rfl rfl Tryz.func25 (by kernel_rfl) rfl #[.string (a0.extract 0 ((ji2) : Int).toNat)] rfl (by (try simp only [List.map_toArray, List.map_cons, List.map_nil]); first | done | (simp only [hji2]; rfl) | rfl | (simp only [List.length_drop, List.length_take]; rfl)) ?_; (with_reducible refine (numeraryref11_All.calls k (a0.extract 0 ((ji2) : Int).toNat) t183 t184 t185 _ A5.out).mono ?_); rintro e w6 ⟨v186, rfl, ho0, hb⟩; refine ⟨_, rfl, ?_⟩; have n0_ := Aside0.mk (Kd.R_lower ho0 (below_size bl_)); have n1_ := Aside0.mk (below_step bl_ hb); clear HB; have HO187 := n0_; have HB := n1_; clear n0_ n1_; (try clear hb); (try clear hb2); (try clear hk); (try clear hi); (try clear ho0); obtain ⟨Ao7, co7, eo7⟩ := Kd.R_slice HO187.out; subst eo7))
    go_loopg [8, 23] k (fun kq v8 v23 w' => ∃ (x8_1 : List (S53)) (x23_1 : Int), v23 = .int .i64 x23_1 ∧ Aside0 (numerarylaw14_tokens.l0 kq t183 t185 x8_1 t183 (t183.length : Int) x23_1 = some (r1, r2, r3)) ∧ Aside0 (kq ≤ k) ∧ Aside0 (Kd.R k75 75 w' w.heap.size (fun _ => True) (.slice Ao7 t183.length co7) t183) ∧ Aside0 (Kd.R k53 53 w' w.heap.size (fun _ => True) v8 x8_1) ∧ Aside0 (Kd.R k75 75 w' w.heap.size (fun _ => True) (.slice Ao7 t183.length co7) t183) ∧ Aside0 (Below w.heap.size w w'))
    case atStart => exact ⟨(([] : List (S53))), (0), (by first | rfl | (simp; done) | (simp [*]; done) | (simp only [isEmpty_ne, Bool.not_not]) | (simp only [isEmpty_ne])), H', ⟨Nat.le_refl _⟩, ⟨by (with_reducible repeat (first | apply Kd.R_alloc | apply Kd.R_drewN | apply Kd.R_drew)); exact HO187.out⟩, ⟨by first | exact Kd.R_nil _ _ _ _ _ | exact Kd.N_nil _ _ _ _ _ | exact Kd.V_nil _ _ _ _ _ | exact Kd.Q_nil _ _ _ _ _ | exact Kd.S_nil _ _ _ _ _⟩, ⟨by (with_reducible repeat (first | apply Kd.R_alloc | apply Kd.R_drewN | apply Kd.R_drew)); exact HO187.out⟩, ⟨bl_⟩⟩
    case round =>
     clear H'
     try clear c1
     try clear c2
     try clear p2
     try clear c3
     try clear c3b0
     try clear c3b1
     try clear c4
     try clear c4b0
     try clear c4b1
     obtain ⟨x8_1, x23_1, rfl, HA, HK1, HO_5, HO_8, HO_21, HB⟩ := hrel
     cases gk with
     | zero => exact absurd HA.out (by simp [numerarylaw14_tokens.l0])
     | succ k1 =>
      have H := HA.out
      clear HA
      simp only [numerarylaw14_tokens.l0] at H
      by_cases c8 : x23_1 < (t183.length : Int)
      ·
       rw [if_pos c8] at H
       have c8b0 : decide (x23_1 < (t183.length : Int)) = true := decide_eq_true c8
       clear c8
       by_cases c9 : 0 ≤ x23_1
       ·
        rw [if_pos c9] at H
        have c9b0 : decide (0 ≤ x23_1) = true := decide_eq_true c9
        clear c9
        by_cases c10 : x23_1 < (t183.length : Int)
        ·
         rw [if_pos c10] at H
         have c10b0 : decide (x23_1 < (t183.length : Int)) = true := decide_eq_true c10
         clear c10
         by_cases c11 : x8_1.length < 3518437208883
         ·
          rw [if_pos c11] at H
          have LMc11 := Aside0.mk c11
          clear c11
          obtain ⟨y190, hy190⟩ : ∃ y_ : List (S53), y_ = (x8_1 ++ [(⟨(rd_T75 t183 x23_1).f0, (rd_T75 t183 x23_1).f1, (rd_T75 t183 x23_1).f2, (rd_T75 t183 x23_1).f3⟩ : S53)]) := ⟨_, rfl⟩
          replace H : (numerarylaw14_tokens.l0 k1 t183 t185 y190 t183 (t183.length : Int) (wrap64 (x23_1 + 1))) = some (r1, r2, r3) := by first | (rw [hy190]; with_reducible exact H) | (have H2_ := (Option.bind_some _ _).symm.trans H; rw [hy190]; with_reducible exact H2_) | (have H2_ := (Option.bind_some _ _).symm.trans H; with_reducible exact H2_) | with_reducible exact H | (rw [hy190]; exact H) | exact H
          have Ny190 := Aside0.mk hy190
          clear hy190
          have H' := Aside0.mk H
          clear H
          have p188 : 0 ≤ (x23_1 : Int) := of_decide_eq_true (by first | (with_reducible assumption) | assumption)
          have q188 : x23_1 < (t183.length : Int) := of_decide_eq_true (by first | (with_reducible assumption) | assumption)
          obtain ⟨ad188, e188, hx188_0, hx188_1, hx188_2, hx188_3⟩ := at_T75 (Kd.R_reads' HO_21.out).2.2 x23_1 p188 q188
          cases e188
          replace p188 := eq_true p188
          replace q188 := eq_true q188
          go_wp2_with (first | ((with_reducible refine gate_dst (N := 10) rfl ?_); refine box_event ?hg (N := 10) ?hd (cs := #[.int .i64 0, .string (⟨#[]⟩ : ByteArray), .int .i64 0, .int .i64 0]) (t := 75) ?hr ?_; (case hd => rfl); (case hg => rfl); (case hr => first | (go_simp; done) | (go_simp; rfl)); intro gb189 hg w12 hbox hb; have n0_ := Aside0.mk (Kd.R_below (Kd.R_elderB (by (with_reducible repeat (first | apply Kd.R_alloc | apply Kd.R_drewN | apply Kd.R_drew)); exact HO_5.out) gb189 (Nat.le_of_eq hg.symm)) hb); have n1_ := Aside0.mk (Kd.R_below (by (with_reducible repeat (first | apply Kd.R_alloc | apply Kd.R_drewN | apply Kd.R_drew)); exact HO_8.out) hb); have n2_ := Aside0.mk (Kd.R_below (Kd.R_elderB (by (with_reducible repeat (first | apply Kd.R_alloc | apply Kd.R_drewN | apply Kd.R_drew)); exact HO_21.out) gb189 (Nat.le_of_eq hg.symm)) hb); have n3_ := Aside0.mk (below_step bl_ hb); have n4_ := Aside0.mk (hbox); have n5_ := Aside0.mk ((by rw [hg]; exact (below_size bl_) : w.heap.size ≤ gb189)); have n6_ := Aside0.mk ((by rw [hg]; exact (below_size bl_) : w.heap.size ≤ gb189)); clear HO_5; clear HO_8; clear HO_21; clear HB; have HO_5 := n0_; have HO_8 := n1_; have HO_21 := n2_; have HB := n3_; have BK189 := n4_; have GW189 := n5_; have GE189 := n6_; clear n0_ n1_ n2_ n3_ n4_ n5_ n6_; clear hb hbox hg; have hcz13_0 : w12.cell? ⟨gb189, 0, none⟩ = some (.int .i64 0) := (blk_cell BK189.out 0).trans rfl; have hcz13_1 : w12.cell? ⟨gb189, 1, none⟩ = some (.string (⟨#[]⟩ : ByteArray)) := (blk_cell BK189.out 1).trans rfl; have hcz13_2 : w12.cell? ⟨gb189, 2, none⟩ = some (.int .i64 0) := (blk_cell BK189.out 2).trans rfl; have hcz13_3 : w12.cell? ⟨gb189, 3, none⟩ = some (.int .i64 0) := (blk_cell BK189.out 3).trans rfl; have hfz13_0 := blk_frozen BK189.out 0; have hfz13_1 := blk_frozen BK189.out 1; have hfz13_2 := blk_frozen BK189.out 2; have hfz13_3 := blk_frozen BK189.out 3) | ((with_reducible refine gate_builtin (b := .append) (xs := #[.tmp 27, .tmp 37]) rfl ?_); at_builtin; refine Kd.R_append k53 (w0 := w) w.heap.size rfl (.tmp 27) (.tmp 37) 22 53 (.agg #[(.int .i64 0), (.string ⟨#[]⟩), (.int .i64 0), (.int .i64 0)]) 40 rfl Tryz.underlying22 info53 rfl (by decide) (by omega) u8 x8_1 (⟨(rd_T75 t183 x23_1).f0, (rd_T75 t183 x23_1).f1, (rd_T75 t183 x23_1).f2, (rd_T75 t183 x23_1).f3⟩ : S53) [.int .i64 ((rd_T75 t183 x23_1).f0), .string ((rd_T75 t183 x23_1).f1), .int .i64 ((rd_T75 t183 x23_1).f2), .int .i64 ((rd_T75 t183 x23_1).f3)] (fun _ => True) (fun _ => False) rfl (by first | (go_simp; done) | (go_simp; rfl)) ?aP (fun _ hk => hk.elim) ?aF ?aO ?aB ?aS ?aL ?_; (case aP => exact k53_mkM _ _ _ (⟨(rd_T75 t183 x23_1).f0, (rd_T75 t183 x23_1).f1, (rd_T75 t183 x23_1).f2, (rd_T75 t183 x23_1).f3⟩ : S53)); (case aB => exact (by repeat (first | (with_reducible first | exact HB.out | apply below_alloc | apply pw_below_drewN | apply below_drew1 | refine below_set ?_ GE189.out) | exact HB.out))); (case aF => exact (fun _ _ => trivial)); (case aO => exact (by (with_reducible repeat (first | apply Kd.R_alloc | apply Kd.R_drewN | apply Kd.R_drew)); exact Kd.R_mono (Kd.R_far (p := ⟨gb189, 3, none⟩) (Kd.R_far (p := ⟨gb189, 2, none⟩) (Kd.R_far (p := ⟨gb189, 1, none⟩) (Kd.R_far (p := ⟨gb189, 0, none⟩) (Kd.R_types HO_8.out BK189.out (by decide)) (fun _ hk => hk.2) (.int .i64 ((rd_T75 t183 x23_1).f0))) (fun _ hk => hk.2) (.string ((rd_T75 t183 x23_1).f1))) (fun _ hk => hk.2) (.int .i64 ((rd_T75 t183 x23_1).f2))) (fun _ hk => hk.2) (.int .i64 ((rd_T75 t183 x23_1).f3))) (fun _ hk => trivial))); (case aS => exact (below_size (by repeat (first | (with_reducible first | exact HB.out | apply below_alloc | apply pw_below_drewN | apply below_drew1 | refine below_set ?_ GE189.out) | exact HB.out)))); (case aL => have := LMc11.out; omega); intro v191 w14 ho hb hg hat; rw [← Ny190.out] at ho; have n0_ := Aside0.mk (Kd.R_over' (by (with_reducible repeat (first | apply Kd.R_alloc | apply Kd.R_drewN | apply Kd.R_drew)); exact (Kd.R_mono (Kd.R_far (p := ⟨gb189, 3, none⟩) (Kd.R_far (p := ⟨gb189, 2, none⟩) (Kd.R_far (p := ⟨gb189, 1, none⟩) (Kd.R_far (p := ⟨gb189, 0, none⟩) (Kd.R_mono HO_5.out (fun k_ hk => (⟨hk, hk.2⟩ : _ ∧ k_ ≠ gb189))) (fun _ hk => hk.2) (.int .i64 ((rd_T75 t183 x23_1).f0))) (fun _ hk => hk.2) (.string ((rd_T75 t183 x23_1).f1))) (fun _ hk => hk.2) (.int .i64 ((rd_T75 t183 x23_1).f2))) (fun _ hk => hk.2) (.int .i64 ((rd_T75 t183 x23_1).f3))) (fun _ h_ => h_.1))) (Kd.R_typed (by (with_reducible repeat (first | apply Kd.R_alloc | apply Kd.R_drewN | apply Kd.R_drew)); exact (Kd.R_mono (Kd.R_far (p := ⟨gb189, 3, none⟩) (Kd.R_far (p := ⟨gb189, 2, none⟩) (Kd.R_far (p := ⟨gb189, 1, none⟩) (Kd.R_far (p := ⟨gb189, 0, none⟩) (Kd.R_types HO_8.out BK189.out (by decide)) (fun _ hk => hk.2) (.int .i64 ((rd_T75 t183 x23_1).f0))) (fun _ hk => hk.2) (.string ((rd_T75 t183 x23_1).f1))) (fun _ hk => hk.2) (.int .i64 ((rd_T75 t183 x23_1).f2))) (fun _ hk => hk.2) (.int .i64 ((rd_T75 t183 x23_1).f3))) (fun _ h_ => h_.1)))) (by decide) hg); have n1_ := Aside0.mk (Kd.R_over' (by (with_reducible repeat (first | apply Kd.R_alloc | apply Kd.R_drewN | apply Kd.R_drew)); exact (Kd.R_mono (Kd.R_far (p := ⟨gb189, 3, none⟩) (Kd.R_far (p := ⟨gb189, 2, none⟩) (Kd.R_far (p := ⟨gb189, 1, none⟩) (Kd.R_far (p := ⟨gb189, 0, none⟩) (Kd.R_mono HO_21.out (fun k_ hk => (⟨hk, hk.2⟩ : _ ∧ k_ ≠ gb189))) (fun _ hk => hk.2) (.int .i64 ((rd_T75 t183 x23_1).f0))) (fun _ hk => hk.2) (.string ((rd_T75 t183 x23_1).f1))) (fun _ hk => hk.2) (.int .i64 ((rd_T75 t183 x23_1).f2))) (fun _ hk => hk.2) (.int .i64 ((rd_T75 t183 x23_1).f3))) (fun _ h_ => h_.1))) (Kd.R_typed (by (with_reducible repeat (first | apply Kd.R_alloc | apply Kd.R_drewN | apply Kd.R_drew)); exact (Kd.R_mono (Kd.R_far (p := ⟨gb189, 3, none⟩) (Kd.R_far (p := ⟨gb189, 2, none⟩) (Kd.R_far (p := ⟨gb189, 1, none⟩) (Kd.R_far (p := ⟨gb189, 0, none⟩) (Kd.R_types HO_8.out BK189.out (by decide)) (fun _ hk => hk.2) (.int .i64 ((rd_T75 t183 x23_1).f0))) (fun _ hk => hk.2) (.string ((rd_T75 t183 x23_1).f1))) (fun _ hk => hk.2) (.int .i64 ((rd_T75 t183 x23_1).f2))) (fun _ hk => hk.2) (.int .i64 ((rd_T75 t183 x23_1).f3))) (fun _ h_ => h_.1)))) (by decide) hg); have n2_ := Aside0.mk (blk_grown (g := gb189) (o := .cells #[.int .i64 ((rd_T75 t183 x23_1).f0), .string ((rd_T75 t183 x23_1).f1), .int .i64 ((rd_T75 t183 x23_1).f2), .int .i64 ((rd_T75 t183 x23_1).f3)] 75 (0, 0)) (by (with_reducible repeat (first | refine blk_drewN ?_ _ | refine blk_drew ?_ | refine blk_alloc ?_ _)); refine blk_put (cs := #[.int .i64 ((rd_T75 t183 x23_1).f0), .string ((rd_T75 t183 x23_1).f1), .int .i64 ((rd_T75 t183 x23_1).f2), .int .i64 0]) ?_ 3 _ rfl; (with_reducible repeat (first | refine blk_drewN ?_ _ | refine blk_drew ?_ | refine blk_alloc ?_ _)); refine blk_put (cs := #[.int .i64 ((rd_T75 t183 x23_1).f0), .string ((rd_T75 t183 x23_1).f1), .int .i64 0, .int .i64 0]) ?_ 2 _ rfl; (with_reducible repeat (first | refine blk_drewN ?_ _ | refine blk_drew ?_ | refine blk_alloc ?_ _)); refine blk_put (cs := #[.int .i64 ((rd_T75 t183 x23_1).f0), .string (⟨#[]⟩ : ByteArray), .int .i64 0, .int .i64 0]) ?_ 1 _ rfl; (with_reducible repeat (first | refine blk_drewN ?_ _ | refine blk_drew ?_ | refine blk_alloc ?_ _)); refine blk_put (cs := #[.int .i64 0, .string (⟨#[]⟩ : ByteArray), .int .i64 0, .int .i64 0]) ?_ 0 _ rfl; (with_reducible repeat (first | refine blk_drewN ?_ _ | refine blk_drew ?_ | refine blk_alloc ?_ _)); exact BK189.out) hg (Kd.R_ne HO_8.out BK189.out (by decide))); have n3_ := Aside0.mk (hb); have n4_ := Aside0.mk (ho); clear HO_5; clear HO_21; clear BK189; clear HB; clear HO_8; have HO_5 := n0_; have HO_21 := n1_; have BK189 := n2_; have HB := n3_; have HO192 := n4_; clear n0_ n1_ n2_ n3_ n4_; clear ho hb hg hat))
          go_roundg k1
          case measure => have := HK1.out; omega
          case rel => exact ⟨(y190), (wrap64 (x23_1 + 1)), (by first | rfl | (simp; done) | (simp [*]; done) | (simp only [isEmpty_ne, Bool.not_not]) | (simp only [isEmpty_ne])), H', ⟨by have := HK1.out; omega⟩, ⟨by (with_reducible repeat (first | apply Kd.R_alloc | apply Kd.R_drewN | apply Kd.R_drew)); exact Kd.R_mono HO_5.out (fun _ hk => trivial)⟩, ⟨by (with_reducible repeat (first | apply Kd.R_alloc | apply Kd.R_drewN | apply Kd.R_drew)); exact HO192.out⟩, ⟨by (with_reducible repeat (first | apply Kd.R_alloc | apply Kd.R_drewN | apply Kd.R_drew)); exact Kd.R_mono HO_21.out (fun _ hk => trivial)⟩, ⟨by repeat (first | (with_reducible first | exact HB.out | apply below_alloc | apply pw_below_drewN | apply below_drew1 | refine below_set ?_ GE189.out) | exact HB.out)⟩⟩
         ·
          rw [if_neg c11] at H
          exact absurd H (by simp)
        ·
         rw [if_neg c10] at H
         exact absurd H (by simp)
       ·
        rw [if_neg c9] at H
        exact absurd H (by simp)
      ·
       rw [if_neg c8] at H
       have c8b0 : decide (x23_1 < (t183.length : Int)) = false := decide_eq_false c8
       clear c8
       simp only [Option.some.injEq, Prod.mk.injEq] at H
       obtain ⟨rfl, rfl, rfl⟩ := H
       go_wp2
       go_ret3
       exact ⟨_, _, by first | rfl | (simp [errW_none, errW_some] <;> rfl) | (simp only [← hji2]; first | rfl | (simp [errW_none, errW_some] <;> rfl)) | (simp [*, errW_none, errW_some] <;> rfl), by (with_reducible repeat (first | apply Kd.R_alloc | apply Kd.R_drewN | apply Kd.R_drew)); exact HO_8.out, by (with_reducible repeat (first | apply Kd.R_alloc | apply Kd.R_drewN | apply Kd.R_drew)); exact HO_5.out, by repeat (first | (with_reducible first | exact HB.out | apply below_alloc | apply pw_below_drewN | apply below_drew1) | exact HB.out)⟩
   ·
    rw [if_neg c4] at H
    exact absurd H (by simp)
  ·
   rw [if_neg c3] at H
   exact absurd H (by simp)

end Go.Proofs.YtiidpicgdjjikaaGreatDoor.P

