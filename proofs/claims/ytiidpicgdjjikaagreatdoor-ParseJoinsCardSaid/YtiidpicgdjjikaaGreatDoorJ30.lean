import Derived.Test.YtiidpicgdjjikaaGreatDoorJ28
import Derived.Test.YtiidpicgdjjikaaGreatDoorJ29
namespace Go.Proofs.YtiidpicgdjjikaaGreatDoor.G
open Go.RowKit Go.Lib Go.Maps Go.ChangeMaps Go.MapKept Go.Proofs Go.Proofs.YtiidpicgdjjikaaGreatDoor.P Go.Proofs.YtiidpicgdjjikaaGreatDoorW.PrintWords Go.Proofs.YtiidpicgdjjikaaGreatDoorW.PrintLast Go.Proofs.YtiidpicgdjjikaaGreatDoorW.PrintMore
set_option linter.unusedVariables false
set_option linter.unusedSimpArgs false
attribute [local go_sem] isSome_setCell_eq
def otherF (k : Nat) (b : BSt) (x : S53) : Option (Int × BSt) :=
  if x.f0 = 1 then (addF b ⟨1, x.f1, 0⟩).bind fun b2 => some (0, b2) else
  if x.f0 = 2 then (addF b ⟨1, x.f1, 0⟩).bind fun b2 => some (0, b2) else
  if x.f0 = 17 then (addF b ⟨1, x.f1, 0⟩).bind fun b2 => some (0, b2) else
  if x.f0 = 3 then (addF b ⟨2, x.f1, 0⟩).bind fun b2 => some (0, b2) else
  if x.f0 = 4 then (addF b ⟨3, x.f1, 0⟩).bind fun b2 => some (onlyF b2 x.f0) else
  if x.f0 = 6 then (addF b ⟨4, x.f1, 0⟩).bind fun b2 => some (0, b2) else
  if x.f0 = 12 then (addF b ⟨10, x.f1, 0⟩).bind fun b2 => some (0, b2) else
  if x.f0 = 16 then (addF b ⟨11, x.f1, 0⟩).bind fun b2 => some (onlyF b2 x.f0) else
  if x.f0 = 15 then (addF b ⟨13, x.f1, 0⟩).bind fun b2 => some (0, b2) else
  if x.f0 = 14 then (item_counted.f x.f0 x.f1 x.f2 x.f3).bind fun c => (addF b ⟨c.1, c.2.1, c.2.2⟩).bind fun b2 => some (0, b2) else
  if x.f0 = 5 then bracketF k b x.f1 else some (12, b)
set_option maxHeartbeats 8000000 in
set_option maxRecDepth 1000000 in
theorem other_calls (k : Nat) {n0 : Nat} {w0 w : World} {p m : Nat} {vi vl : Value} {b b' : BSt} {r : Int} (x : S53) (hI : BInv n0 w p m vi vl b) (hB : Below n0 w0 w) (hn : n0 ≤ w.heap.size) (h : otherF k b x = some (r, b')) (HLW_ : LW w) :
    Calls Tryz.prog 57 #[.pointer (some ⟨p, 0, none⟩), .agg #[.int .i64 x.f0, .string x.f1, .int .i64 x.f2, .int .i64 x.f3]] w fun e w' => e = .returned (.int .i64 r) ∧ Below n0 w0 w' ∧ ∃ vi', BInv n0 w' p m vi' vl b' := by
  have HI := Aside0.mk hI
  have HB := Aside0.mk hB
  have HN := Aside0.mk hn
  have HL := Aside0.mk HLW_
  clear hI hB hn HLW_
  unfold otherF at h
  by_cases e1 : x.f0 = 1
  · rw [if_pos e1] at h
    obtain ⟨b2, a1, h⟩ := Option.bind_eq_some_iff.mp h
    have HA := Aside0.mk a1
    simp only [Option.some.injEq, Prod.mk.injEq] at h
    obtain ⟨rfl, rfl⟩ := h
    clear a1
    have d1 : (x.f0 == 1) = true := beq_iff_eq.mpr e1
    clear e1
    go_enter Tryz.func57, Tryz.ntmps57
    go_wp2_with (first | ((with_reducible refine gate_dst (N := 3) rfl ?_); refine box_event ?hg (N := 3) ?hd (cs := #[.int .i64 x.f0, .string x.f1, .int .i64 x.f2, .int .i64 x.f3]) (t := 53) ?hr ?_; (case hd => rfl); (case hg => rfl); (case hr => first | (go_simp; done) | (go_simp; rfl)); intro g3 hg w1 hbox hb; have HI1 := Aside0.mk (HI.out.below hb); have HB1 := Aside0.mk (Below.trans HB.out (hb.mono HN.out)); have HN1 := Aside0.mk (Nat.le_trans HN.out hb.size); have HL1 := Aside0.mk (LW.below HL.out hb); have HG3 := Aside0.mk hbox; have kg0 : w1.cell? ⟨g3, 0, none⟩ = some (.int .i64 x.f0) := (blk_cell hbox 0).trans rfl; have kg1 : w1.cell? ⟨g3, 1, none⟩ = some (.string x.f1) := (blk_cell hbox 1).trans rfl; have kg2 : w1.cell? ⟨g3, 2, none⟩ = some (.int .i64 x.f2) := (blk_cell hbox 2).trans rfl; have kg3 : w1.cell? ⟨g3, 3, none⟩ = some (.int .i64 x.f3) := (blk_cell hbox 3).trans rfl; clear hg hbox hb) | (go_at_call 55; (with_reducible refine (add_calls ⟨1, x.f1, 0⟩ HI1.out HB1.out HN1.out HA.out).mono ?_); rintro e w2 ⟨rfl, hB2, ⟨vi2, hI2⟩, hK2⟩; have HI2 := Aside0.mk hI2; have HB2 := Aside0.mk hB2; clear hB2 hI2 hK2))
    go_ret
    exact ⟨rfl, HB2.out, _, HI2.out⟩
  rw [if_neg e1] at h
  by_cases e2 : x.f0 = 2
  · rw [if_pos e2] at h
    obtain ⟨b2, a1, h⟩ := Option.bind_eq_some_iff.mp h
    have HA := Aside0.mk a1
    simp only [Option.some.injEq, Prod.mk.injEq] at h
    obtain ⟨rfl, rfl⟩ := h
    clear a1
    have d1 : (x.f0 == 1) = false := beq_eq_false_iff_ne.mpr e1
    have d2 : (x.f0 == 2) = true := beq_iff_eq.mpr e2
    clear e1 e2
    go_enter Tryz.func57, Tryz.ntmps57
    go_wp2_with (first | ((with_reducible refine gate_dst (N := 3) rfl ?_); refine box_event ?hg (N := 3) ?hd (cs := #[.int .i64 x.f0, .string x.f1, .int .i64 x.f2, .int .i64 x.f3]) (t := 53) ?hr ?_; (case hd => rfl); (case hg => rfl); (case hr => first | (go_simp; done) | (go_simp; rfl)); intro g3 hg w1 hbox hb; have HI1 := Aside0.mk (HI.out.below hb); have HB1 := Aside0.mk (Below.trans HB.out (hb.mono HN.out)); have HN1 := Aside0.mk (Nat.le_trans HN.out hb.size); have HL1 := Aside0.mk (LW.below HL.out hb); have HG3 := Aside0.mk hbox; have kg0 : w1.cell? ⟨g3, 0, none⟩ = some (.int .i64 x.f0) := (blk_cell hbox 0).trans rfl; have kg1 : w1.cell? ⟨g3, 1, none⟩ = some (.string x.f1) := (blk_cell hbox 1).trans rfl; have kg2 : w1.cell? ⟨g3, 2, none⟩ = some (.int .i64 x.f2) := (blk_cell hbox 2).trans rfl; have kg3 : w1.cell? ⟨g3, 3, none⟩ = some (.int .i64 x.f3) := (blk_cell hbox 3).trans rfl; clear hg hbox hb) | (go_at_call 55; (with_reducible refine (add_calls ⟨1, x.f1, 0⟩ HI1.out HB1.out HN1.out HA.out).mono ?_); rintro e w2 ⟨rfl, hB2, ⟨vi2, hI2⟩, hK2⟩; have HI2 := Aside0.mk hI2; have HB2 := Aside0.mk hB2; clear hB2 hI2 hK2))
    go_ret
    exact ⟨rfl, HB2.out, _, HI2.out⟩
  rw [if_neg e2] at h
  by_cases e17 : x.f0 = 17
  · rw [if_pos e17] at h
    obtain ⟨b2, a1, h⟩ := Option.bind_eq_some_iff.mp h
    have HA := Aside0.mk a1
    simp only [Option.some.injEq, Prod.mk.injEq] at h
    obtain ⟨rfl, rfl⟩ := h
    clear a1
    have d1 : (x.f0 == 1) = false := beq_eq_false_iff_ne.mpr e1
    have d2 : (x.f0 == 2) = false := beq_eq_false_iff_ne.mpr e2
    have d17 : (x.f0 == 17) = true := beq_iff_eq.mpr e17
    clear e1 e2 e17
    go_enter Tryz.func57, Tryz.ntmps57
    go_wp2_with (first | ((with_reducible refine gate_dst (N := 3) rfl ?_); refine box_event ?hg (N := 3) ?hd (cs := #[.int .i64 x.f0, .string x.f1, .int .i64 x.f2, .int .i64 x.f3]) (t := 53) ?hr ?_; (case hd => rfl); (case hg => rfl); (case hr => first | (go_simp; done) | (go_simp; rfl)); intro g3 hg w1 hbox hb; have HI1 := Aside0.mk (HI.out.below hb); have HB1 := Aside0.mk (Below.trans HB.out (hb.mono HN.out)); have HN1 := Aside0.mk (Nat.le_trans HN.out hb.size); have HL1 := Aside0.mk (LW.below HL.out hb); have HG3 := Aside0.mk hbox; have kg0 : w1.cell? ⟨g3, 0, none⟩ = some (.int .i64 x.f0) := (blk_cell hbox 0).trans rfl; have kg1 : w1.cell? ⟨g3, 1, none⟩ = some (.string x.f1) := (blk_cell hbox 1).trans rfl; have kg2 : w1.cell? ⟨g3, 2, none⟩ = some (.int .i64 x.f2) := (blk_cell hbox 2).trans rfl; have kg3 : w1.cell? ⟨g3, 3, none⟩ = some (.int .i64 x.f3) := (blk_cell hbox 3).trans rfl; clear hg hbox hb) | (go_at_call 55; (with_reducible refine (add_calls ⟨1, x.f1, 0⟩ HI1.out HB1.out HN1.out HA.out).mono ?_); rintro e w2 ⟨rfl, hB2, ⟨vi2, hI2⟩, hK2⟩; have HI2 := Aside0.mk hI2; have HB2 := Aside0.mk hB2; clear hB2 hI2 hK2))
    go_ret
    exact ⟨rfl, HB2.out, _, HI2.out⟩
  rw [if_neg e17] at h
  by_cases e3 : x.f0 = 3
  · rw [if_pos e3] at h
    obtain ⟨b2, a1, h⟩ := Option.bind_eq_some_iff.mp h
    have HA := Aside0.mk a1
    simp only [Option.some.injEq, Prod.mk.injEq] at h
    obtain ⟨rfl, rfl⟩ := h
    clear a1
    have d1 : (x.f0 == 1) = false := beq_eq_false_iff_ne.mpr e1
    have d2 : (x.f0 == 2) = false := beq_eq_false_iff_ne.mpr e2
    have d17 : (x.f0 == 17) = false := beq_eq_false_iff_ne.mpr e17
    have d3 : (x.f0 == 3) = true := beq_iff_eq.mpr e3
    clear e1 e2 e17 e3
    go_enter Tryz.func57, Tryz.ntmps57
    go_wp2_with (first | ((with_reducible refine gate_dst (N := 3) rfl ?_); refine box_event ?hg (N := 3) ?hd (cs := #[.int .i64 x.f0, .string x.f1, .int .i64 x.f2, .int .i64 x.f3]) (t := 53) ?hr ?_; (case hd => rfl); (case hg => rfl); (case hr => first | (go_simp; done) | (go_simp; rfl)); intro g3 hg w1 hbox hb; have HI1 := Aside0.mk (HI.out.below hb); have HB1 := Aside0.mk (Below.trans HB.out (hb.mono HN.out)); have HN1 := Aside0.mk (Nat.le_trans HN.out hb.size); have HL1 := Aside0.mk (LW.below HL.out hb); have HG3 := Aside0.mk hbox; have kg0 : w1.cell? ⟨g3, 0, none⟩ = some (.int .i64 x.f0) := (blk_cell hbox 0).trans rfl; have kg1 : w1.cell? ⟨g3, 1, none⟩ = some (.string x.f1) := (blk_cell hbox 1).trans rfl; have kg2 : w1.cell? ⟨g3, 2, none⟩ = some (.int .i64 x.f2) := (blk_cell hbox 2).trans rfl; have kg3 : w1.cell? ⟨g3, 3, none⟩ = some (.int .i64 x.f3) := (blk_cell hbox 3).trans rfl; clear hg hbox hb) | (go_at_call 55; (with_reducible refine (add_calls ⟨2, x.f1, 0⟩ HI1.out HB1.out HN1.out HA.out).mono ?_); rintro e w2 ⟨rfl, hB2, ⟨vi2, hI2⟩, hK2⟩; have HI2 := Aside0.mk hI2; have HB2 := Aside0.mk hB2; clear hB2 hI2 hK2))
    go_ret
    exact ⟨rfl, HB2.out, _, HI2.out⟩
  rw [if_neg e3] at h
  by_cases e4 : x.f0 = 4
  · rw [if_pos e4] at h
    obtain ⟨b2, a1, h⟩ := Option.bind_eq_some_iff.mp h
    have HA := Aside0.mk a1
    have hr : (onlyF b2 x.f0).1 = r := congrArg Prod.fst (Option.some.inj h)
    have hb' : (onlyF b2 x.f0).2 = b' := congrArg Prod.snd (Option.some.inj h)
    subst hr
    subst hb'
    clear a1 h
    have d1 : (x.f0 == 1) = false := beq_eq_false_iff_ne.mpr e1
    have d2 : (x.f0 == 2) = false := beq_eq_false_iff_ne.mpr e2
    have d17 : (x.f0 == 17) = false := beq_eq_false_iff_ne.mpr e17
    have d3 : (x.f0 == 3) = false := beq_eq_false_iff_ne.mpr e3
    have d4 : (x.f0 == 4) = true := beq_iff_eq.mpr e4
    clear e1 e2 e17 e3 e4
    go_enter Tryz.func57, Tryz.ntmps57
    go_wp2_with (first | ((with_reducible refine gate_dst (N := 3) rfl ?_); refine box_event ?hg (N := 3) ?hd (cs := #[.int .i64 x.f0, .string x.f1, .int .i64 x.f2, .int .i64 x.f3]) (t := 53) ?hr ?_; (case hd => rfl); (case hg => rfl); (case hr => first | (go_simp; done) | (go_simp; rfl)); intro g3 hg w1 hbox hb; have HI1 := Aside0.mk (HI.out.below hb); have HB1 := Aside0.mk (Below.trans HB.out (hb.mono HN.out)); have HN1 := Aside0.mk (Nat.le_trans HN.out hb.size); have HL1 := Aside0.mk (LW.below HL.out hb); have HG3 := Aside0.mk hbox; have kg0 : w1.cell? ⟨g3, 0, none⟩ = some (.int .i64 x.f0) := (blk_cell hbox 0).trans rfl; have kg1 : w1.cell? ⟨g3, 1, none⟩ = some (.string x.f1) := (blk_cell hbox 1).trans rfl; have kg2 : w1.cell? ⟨g3, 2, none⟩ = some (.int .i64 x.f2) := (blk_cell hbox 2).trans rfl; have kg3 : w1.cell? ⟨g3, 3, none⟩ = some (.int .i64 x.f3) := (blk_cell hbox 3).trans rfl; clear hg hbox hb) | (go_at_call 55; (with_reducible refine (add_calls ⟨3, x.f1, 0⟩ HI1.out HB1.out HN1.out HA.out).mono ?_); rintro e w2 ⟨rfl, hB2, ⟨vi2, hI2⟩, hK2⟩; have HI2 := Aside0.mk hI2; have HB2 := Aside0.mk hB2; have kg02 : w2.cell? ⟨g3, 0, none⟩ = some (.int .i64 x.f0) := (blk_cell (hK2 g3 _ _ (by decide) (by decide) HG3.out) 0).trans rfl; clear hB2 hI2 hK2) | (go_at_call 84; (with_reducible refine (only_calls x.f0 HI2.out HB2.out).mono ?_); rintro e w4 ⟨rfl, hB4, hI4, hO4⟩; have HI4 := Aside0.mk hI4; have HB4 := Aside0.mk hB4; clear hB4 hI4 hO4))
    go_ret
    exact ⟨rfl, HB4.out, _, HI4.out⟩
  rw [if_neg e4] at h
  by_cases e6 : x.f0 = 6
  · rw [if_pos e6] at h
    obtain ⟨b2, a1, h⟩ := Option.bind_eq_some_iff.mp h
    have HA := Aside0.mk a1
    simp only [Option.some.injEq, Prod.mk.injEq] at h
    obtain ⟨rfl, rfl⟩ := h
    clear a1
    have d1 : (x.f0 == 1) = false := beq_eq_false_iff_ne.mpr e1
    have d2 : (x.f0 == 2) = false := beq_eq_false_iff_ne.mpr e2
    have d17 : (x.f0 == 17) = false := beq_eq_false_iff_ne.mpr e17
    have d3 : (x.f0 == 3) = false := beq_eq_false_iff_ne.mpr e3
    have d4 : (x.f0 == 4) = false := beq_eq_false_iff_ne.mpr e4
    have d6 : (x.f0 == 6) = true := beq_iff_eq.mpr e6
    clear e1 e2 e17 e3 e4 e6
    go_enter Tryz.func57, Tryz.ntmps57
    go_wp2_with (first | ((with_reducible refine gate_dst (N := 3) rfl ?_); refine box_event ?hg (N := 3) ?hd (cs := #[.int .i64 x.f0, .string x.f1, .int .i64 x.f2, .int .i64 x.f3]) (t := 53) ?hr ?_; (case hd => rfl); (case hg => rfl); (case hr => first | (go_simp; done) | (go_simp; rfl)); intro g3 hg w1 hbox hb; have HI1 := Aside0.mk (HI.out.below hb); have HB1 := Aside0.mk (Below.trans HB.out (hb.mono HN.out)); have HN1 := Aside0.mk (Nat.le_trans HN.out hb.size); have HL1 := Aside0.mk (LW.below HL.out hb); have HG3 := Aside0.mk hbox; have kg0 : w1.cell? ⟨g3, 0, none⟩ = some (.int .i64 x.f0) := (blk_cell hbox 0).trans rfl; have kg1 : w1.cell? ⟨g3, 1, none⟩ = some (.string x.f1) := (blk_cell hbox 1).trans rfl; have kg2 : w1.cell? ⟨g3, 2, none⟩ = some (.int .i64 x.f2) := (blk_cell hbox 2).trans rfl; have kg3 : w1.cell? ⟨g3, 3, none⟩ = some (.int .i64 x.f3) := (blk_cell hbox 3).trans rfl; clear hg hbox hb) | (go_at_call 55; (with_reducible refine (add_calls ⟨4, x.f1, 0⟩ HI1.out HB1.out HN1.out HA.out).mono ?_); rintro e w2 ⟨rfl, hB2, ⟨vi2, hI2⟩, hK2⟩; have HI2 := Aside0.mk hI2; have HB2 := Aside0.mk hB2; clear hB2 hI2 hK2))
    go_ret
    exact ⟨rfl, HB2.out, _, HI2.out⟩
  rw [if_neg e6] at h
  by_cases e12 : x.f0 = 12
  · rw [if_pos e12] at h
    obtain ⟨b2, a1, h⟩ := Option.bind_eq_some_iff.mp h
    have HA := Aside0.mk a1
    simp only [Option.some.injEq, Prod.mk.injEq] at h
    obtain ⟨rfl, rfl⟩ := h
    clear a1
    have d1 : (x.f0 == 1) = false := beq_eq_false_iff_ne.mpr e1
    have d2 : (x.f0 == 2) = false := beq_eq_false_iff_ne.mpr e2
    have d17 : (x.f0 == 17) = false := beq_eq_false_iff_ne.mpr e17
    have d3 : (x.f0 == 3) = false := beq_eq_false_iff_ne.mpr e3
    have d4 : (x.f0 == 4) = false := beq_eq_false_iff_ne.mpr e4
    have d6 : (x.f0 == 6) = false := beq_eq_false_iff_ne.mpr e6
    have d12 : (x.f0 == 12) = true := beq_iff_eq.mpr e12
    clear e1 e2 e17 e3 e4 e6 e12
    go_enter Tryz.func57, Tryz.ntmps57
    go_wp2_with (first | ((with_reducible refine gate_dst (N := 3) rfl ?_); refine box_event ?hg (N := 3) ?hd (cs := #[.int .i64 x.f0, .string x.f1, .int .i64 x.f2, .int .i64 x.f3]) (t := 53) ?hr ?_; (case hd => rfl); (case hg => rfl); (case hr => first | (go_simp; done) | (go_simp; rfl)); intro g3 hg w1 hbox hb; have HI1 := Aside0.mk (HI.out.below hb); have HB1 := Aside0.mk (Below.trans HB.out (hb.mono HN.out)); have HN1 := Aside0.mk (Nat.le_trans HN.out hb.size); have HL1 := Aside0.mk (LW.below HL.out hb); have HG3 := Aside0.mk hbox; have kg0 : w1.cell? ⟨g3, 0, none⟩ = some (.int .i64 x.f0) := (blk_cell hbox 0).trans rfl; have kg1 : w1.cell? ⟨g3, 1, none⟩ = some (.string x.f1) := (blk_cell hbox 1).trans rfl; have kg2 : w1.cell? ⟨g3, 2, none⟩ = some (.int .i64 x.f2) := (blk_cell hbox 2).trans rfl; have kg3 : w1.cell? ⟨g3, 3, none⟩ = some (.int .i64 x.f3) := (blk_cell hbox 3).trans rfl; clear hg hbox hb) | (go_at_call 55; (with_reducible refine (add_calls ⟨10, x.f1, 0⟩ HI1.out HB1.out HN1.out HA.out).mono ?_); rintro e w2 ⟨rfl, hB2, ⟨vi2, hI2⟩, hK2⟩; have HI2 := Aside0.mk hI2; have HB2 := Aside0.mk hB2; clear hB2 hI2 hK2))
    go_ret
    exact ⟨rfl, HB2.out, _, HI2.out⟩
  rw [if_neg e12] at h
  by_cases e16 : x.f0 = 16
  · rw [if_pos e16] at h
    obtain ⟨b2, a1, h⟩ := Option.bind_eq_some_iff.mp h
    have HA := Aside0.mk a1
    have hr : (onlyF b2 x.f0).1 = r := congrArg Prod.fst (Option.some.inj h)
    have hb' : (onlyF b2 x.f0).2 = b' := congrArg Prod.snd (Option.some.inj h)
    subst hr
    subst hb'
    clear a1 h
    have d1 : (x.f0 == 1) = false := beq_eq_false_iff_ne.mpr e1
    have d2 : (x.f0 == 2) = false := beq_eq_false_iff_ne.mpr e2
    have d17 : (x.f0 == 17) = false := beq_eq_false_iff_ne.mpr e17
    have d3 : (x.f0 == 3) = false := beq_eq_false_iff_ne.mpr e3
    have d4 : (x.f0 == 4) = false := beq_eq_false_iff_ne.mpr e4
    have d6 : (x.f0 == 6) = false := beq_eq_false_iff_ne.mpr e6
    have d12 : (x.f0 == 12) = false := beq_eq_false_iff_ne.mpr e12
    have d16 : (x.f0 == 16) = true := beq_iff_eq.mpr e16
    clear e1 e2 e17 e3 e4 e6 e12 e16
    go_enter Tryz.func57, Tryz.ntmps57
    go_wp2_with (first | ((with_reducible refine gate_dst (N := 3) rfl ?_); refine box_event ?hg (N := 3) ?hd (cs := #[.int .i64 x.f0, .string x.f1, .int .i64 x.f2, .int .i64 x.f3]) (t := 53) ?hr ?_; (case hd => rfl); (case hg => rfl); (case hr => first | (go_simp; done) | (go_simp; rfl)); intro g3 hg w1 hbox hb; have HI1 := Aside0.mk (HI.out.below hb); have HB1 := Aside0.mk (Below.trans HB.out (hb.mono HN.out)); have HN1 := Aside0.mk (Nat.le_trans HN.out hb.size); have HL1 := Aside0.mk (LW.below HL.out hb); have HG3 := Aside0.mk hbox; have kg0 : w1.cell? ⟨g3, 0, none⟩ = some (.int .i64 x.f0) := (blk_cell hbox 0).trans rfl; have kg1 : w1.cell? ⟨g3, 1, none⟩ = some (.string x.f1) := (blk_cell hbox 1).trans rfl; have kg2 : w1.cell? ⟨g3, 2, none⟩ = some (.int .i64 x.f2) := (blk_cell hbox 2).trans rfl; have kg3 : w1.cell? ⟨g3, 3, none⟩ = some (.int .i64 x.f3) := (blk_cell hbox 3).trans rfl; clear hg hbox hb) | (go_at_call 55; (with_reducible refine (add_calls ⟨11, x.f1, 0⟩ HI1.out HB1.out HN1.out HA.out).mono ?_); rintro e w2 ⟨rfl, hB2, ⟨vi2, hI2⟩, hK2⟩; have HI2 := Aside0.mk hI2; have HB2 := Aside0.mk hB2; have kg02 : w2.cell? ⟨g3, 0, none⟩ = some (.int .i64 x.f0) := (blk_cell (hK2 g3 _ _ (by decide) (by decide) HG3.out) 0).trans rfl; clear hB2 hI2 hK2) | (go_at_call 84; (with_reducible refine (only_calls x.f0 HI2.out HB2.out).mono ?_); rintro e w4 ⟨rfl, hB4, hI4, hO4⟩; have HI4 := Aside0.mk hI4; have HB4 := Aside0.mk hB4; clear hB4 hI4 hO4))
    go_ret
    exact ⟨rfl, HB4.out, _, HI4.out⟩
  rw [if_neg e16] at h
  by_cases e15 : x.f0 = 15
  · rw [if_pos e15] at h
    obtain ⟨b2, a1, h⟩ := Option.bind_eq_some_iff.mp h
    have HA := Aside0.mk a1
    simp only [Option.some.injEq, Prod.mk.injEq] at h
    obtain ⟨rfl, rfl⟩ := h
    clear a1
    have d1 : (x.f0 == 1) = false := beq_eq_false_iff_ne.mpr e1
    have d2 : (x.f0 == 2) = false := beq_eq_false_iff_ne.mpr e2
    have d17 : (x.f0 == 17) = false := beq_eq_false_iff_ne.mpr e17
    have d3 : (x.f0 == 3) = false := beq_eq_false_iff_ne.mpr e3
    have d4 : (x.f0 == 4) = false := beq_eq_false_iff_ne.mpr e4
    have d6 : (x.f0 == 6) = false := beq_eq_false_iff_ne.mpr e6
    have d12 : (x.f0 == 12) = false := beq_eq_false_iff_ne.mpr e12
    have d16 : (x.f0 == 16) = false := beq_eq_false_iff_ne.mpr e16
    have d15 : (x.f0 == 15) = true := beq_iff_eq.mpr e15
    clear e1 e2 e17 e3 e4 e6 e12 e16 e15
    go_enter Tryz.func57, Tryz.ntmps57
    go_wp2_with (first | ((with_reducible refine gate_dst (N := 3) rfl ?_); refine box_event ?hg (N := 3) ?hd (cs := #[.int .i64 x.f0, .string x.f1, .int .i64 x.f2, .int .i64 x.f3]) (t := 53) ?hr ?_; (case hd => rfl); (case hg => rfl); (case hr => first | (go_simp; done) | (go_simp; rfl)); intro g3 hg w1 hbox hb; have HI1 := Aside0.mk (HI.out.below hb); have HB1 := Aside0.mk (Below.trans HB.out (hb.mono HN.out)); have HN1 := Aside0.mk (Nat.le_trans HN.out hb.size); have HL1 := Aside0.mk (LW.below HL.out hb); have HG3 := Aside0.mk hbox; have kg0 : w1.cell? ⟨g3, 0, none⟩ = some (.int .i64 x.f0) := (blk_cell hbox 0).trans rfl; have kg1 : w1.cell? ⟨g3, 1, none⟩ = some (.string x.f1) := (blk_cell hbox 1).trans rfl; have kg2 : w1.cell? ⟨g3, 2, none⟩ = some (.int .i64 x.f2) := (blk_cell hbox 2).trans rfl; have kg3 : w1.cell? ⟨g3, 3, none⟩ = some (.int .i64 x.f3) := (blk_cell hbox 3).trans rfl; clear hg hbox hb) | (go_at_call 55; (with_reducible refine (add_calls ⟨13, x.f1, 0⟩ HI1.out HB1.out HN1.out HA.out).mono ?_); rintro e w2 ⟨rfl, hB2, ⟨vi2, hI2⟩, hK2⟩; have HI2 := Aside0.mk hI2; have HB2 := Aside0.mk hB2; clear hB2 hI2 hK2))
    go_ret
    exact ⟨rfl, HB2.out, _, HI2.out⟩
  rw [if_neg e15] at h
  by_cases e14 : x.f0 = 14
  · rw [if_pos e14] at h
    obtain ⟨⟨c1, c2, c3⟩, a0, h⟩ := Option.bind_eq_some_iff.mp h
    obtain ⟨b2, a1, h⟩ := Option.bind_eq_some_iff.mp h
    have HA := Aside0.mk a1
    have HC := Aside0.mk a0
    simp only [Option.some.injEq, Prod.mk.injEq] at h
    obtain ⟨rfl, rfl⟩ := h
    clear a1 a0
    have d1 : (x.f0 == 1) = false := beq_eq_false_iff_ne.mpr e1
    have d2 : (x.f0 == 2) = false := beq_eq_false_iff_ne.mpr e2
    have d17 : (x.f0 == 17) = false := beq_eq_false_iff_ne.mpr e17
    have d3 : (x.f0 == 3) = false := beq_eq_false_iff_ne.mpr e3
    have d4 : (x.f0 == 4) = false := beq_eq_false_iff_ne.mpr e4
    have d6 : (x.f0 == 6) = false := beq_eq_false_iff_ne.mpr e6
    have d12 : (x.f0 == 12) = false := beq_eq_false_iff_ne.mpr e12
    have d16 : (x.f0 == 16) = false := beq_eq_false_iff_ne.mpr e16
    have d15 : (x.f0 == 15) = false := beq_eq_false_iff_ne.mpr e15
    have d14 : (x.f0 == 14) = true := beq_iff_eq.mpr e14
    clear e1 e2 e17 e3 e4 e6 e12 e16 e15 e14
    go_enter Tryz.func57, Tryz.ntmps57
    go_wp2_with (first | ((with_reducible refine gate_dst (N := 3) rfl ?_); refine box_event ?hg (N := 3) ?hd (cs := #[.int .i64 x.f0, .string x.f1, .int .i64 x.f2, .int .i64 x.f3]) (t := 53) ?hr ?_; (case hd => rfl); (case hg => rfl); (case hr => first | (go_simp; done) | (go_simp; rfl)); intro g3 hg w1 hbox hb; have HI1 := Aside0.mk (HI.out.below hb); have HB1 := Aside0.mk (Below.trans HB.out (hb.mono HN.out)); have HN1 := Aside0.mk (Nat.le_trans HN.out hb.size); have HL1 := Aside0.mk (LW.below HL.out hb); have HG3 := Aside0.mk hbox; have kg0 : w1.cell? ⟨g3, 0, none⟩ = some (.int .i64 x.f0) := (blk_cell hbox 0).trans rfl; have kg1 : w1.cell? ⟨g3, 1, none⟩ = some (.string x.f1) := (blk_cell hbox 1).trans rfl; have kg2 : w1.cell? ⟨g3, 2, none⟩ = some (.int .i64 x.f2) := (blk_cell hbox 2).trans rfl; have kg3 : w1.cell? ⟨g3, 3, none⟩ = some (.int .i64 x.f3) := (blk_cell hbox 3).trans rfl; clear hg hbox hb) | (go_at_call 85; (with_reducible refine (item_counted.calls x.f0 x.f1 x.f2 x.f3 _ _ _ _ HC.out).mono ?_); rintro e w5 ⟨rfl, hb5⟩; have HI5 := Aside0.mk (HI1.out.below hb5); have HB5 := Aside0.mk (Below.trans HB1.out (hb5.mono HN1.out)); have HN5 := Aside0.mk (Nat.le_trans HN1.out hb5.size); clear hb5) | (go_at_call 55; (with_reducible refine (add_calls ⟨c1, c2, c3⟩ HI5.out HB5.out HN5.out HA.out).mono ?_); rintro e w2 ⟨rfl, hB2, ⟨vi2, hI2⟩, hK2⟩; have HI2 := Aside0.mk hI2; have HB2 := Aside0.mk hB2; clear hB2 hI2 hK2))
    go_ret
    exact ⟨rfl, HB2.out, _, HI2.out⟩
  rw [if_neg e14] at h
  by_cases e5 : x.f0 = 5
  · rw [if_pos e5] at h
    have HA := Aside0.mk h
    clear h
    have d1 : (x.f0 == 1) = false := beq_eq_false_iff_ne.mpr e1
    have d2 : (x.f0 == 2) = false := beq_eq_false_iff_ne.mpr e2
    have d17 : (x.f0 == 17) = false := beq_eq_false_iff_ne.mpr e17
    have d3 : (x.f0 == 3) = false := beq_eq_false_iff_ne.mpr e3
    have d4 : (x.f0 == 4) = false := beq_eq_false_iff_ne.mpr e4
    have d6 : (x.f0 == 6) = false := beq_eq_false_iff_ne.mpr e6
    have d12 : (x.f0 == 12) = false := beq_eq_false_iff_ne.mpr e12
    have d16 : (x.f0 == 16) = false := beq_eq_false_iff_ne.mpr e16
    have d15 : (x.f0 == 15) = false := beq_eq_false_iff_ne.mpr e15
    have d14 : (x.f0 == 14) = false := beq_eq_false_iff_ne.mpr e14
    have d5 : (x.f0 == 5) = true := beq_iff_eq.mpr e5
    clear e1 e2 e17 e3 e4 e6 e12 e16 e15 e14 e5
    go_enter Tryz.func57, Tryz.ntmps57
    go_wp2_with (first | ((with_reducible refine gate_dst (N := 3) rfl ?_); refine box_event ?hg (N := 3) ?hd (cs := #[.int .i64 x.f0, .string x.f1, .int .i64 x.f2, .int .i64 x.f3]) (t := 53) ?hr ?_; (case hd => rfl); (case hg => rfl); (case hr => first | (go_simp; done) | (go_simp; rfl)); intro g3 hg w1 hbox hb; have HI1 := Aside0.mk (HI.out.below hb); have HB1 := Aside0.mk (Below.trans HB.out (hb.mono HN.out)); have HN1 := Aside0.mk (Nat.le_trans HN.out hb.size); have HL1 := Aside0.mk (LW.below HL.out hb); have HG3 := Aside0.mk hbox; have kg0 : w1.cell? ⟨g3, 0, none⟩ = some (.int .i64 x.f0) := (blk_cell hbox 0).trans rfl; have kg1 : w1.cell? ⟨g3, 1, none⟩ = some (.string x.f1) := (blk_cell hbox 1).trans rfl; have kg2 : w1.cell? ⟨g3, 2, none⟩ = some (.int .i64 x.f2) := (blk_cell hbox 2).trans rfl; have kg3 : w1.cell? ⟨g3, 3, none⟩ = some (.int .i64 x.f3) := (blk_cell hbox 3).trans rfl; clear hg hbox hb) | (go_at_call 86; (with_reducible refine (bracket_calls k x.f1 HI1.out HB1.out HN1.out HA.out HL1.out).mono ?_); rintro e w2 ⟨rfl, hB2, vi2, hI2⟩; have HI2 := Aside0.mk hI2; have HB2 := Aside0.mk hB2; clear hB2 hI2))
    go_ret
    exact ⟨rfl, HB2.out, _, HI2.out⟩
  rw [if_neg e5] at h
  simp only [Option.some.injEq, Prod.mk.injEq] at h
  obtain ⟨rfl, rfl⟩ := h
  have d1 : (x.f0 == 1) = false := beq_eq_false_iff_ne.mpr e1
  have d2 : (x.f0 == 2) = false := beq_eq_false_iff_ne.mpr e2
  have d17 : (x.f0 == 17) = false := beq_eq_false_iff_ne.mpr e17
  have d3 : (x.f0 == 3) = false := beq_eq_false_iff_ne.mpr e3
  have d4 : (x.f0 == 4) = false := beq_eq_false_iff_ne.mpr e4
  have d6 : (x.f0 == 6) = false := beq_eq_false_iff_ne.mpr e6
  have d12 : (x.f0 == 12) = false := beq_eq_false_iff_ne.mpr e12
  have d16 : (x.f0 == 16) = false := beq_eq_false_iff_ne.mpr e16
  have d15 : (x.f0 == 15) = false := beq_eq_false_iff_ne.mpr e15
  have d14 : (x.f0 == 14) = false := beq_eq_false_iff_ne.mpr e14
  have d5 : (x.f0 == 5) = false := beq_eq_false_iff_ne.mpr e5
  clear e1 e2 e17 e3 e4 e6 e12 e16 e15 e14 e5
  go_enter Tryz.func57, Tryz.ntmps57
  go_wp2_with (first | ((with_reducible refine gate_dst (N := 3) rfl ?_); refine box_event ?hg (N := 3) ?hd (cs := #[.int .i64 x.f0, .string x.f1, .int .i64 x.f2, .int .i64 x.f3]) (t := 53) ?hr ?_; (case hd => rfl); (case hg => rfl); (case hr => first | (go_simp; done) | (go_simp; rfl)); intro g3 hg w1 hbox hb; have HI1 := Aside0.mk (HI.out.below hb); have HB1 := Aside0.mk (Below.trans HB.out (hb.mono HN.out)); have HN1 := Aside0.mk (Nat.le_trans HN.out hb.size); have HL1 := Aside0.mk (LW.below HL.out hb); have HG3 := Aside0.mk hbox; have kg0 : w1.cell? ⟨g3, 0, none⟩ = some (.int .i64 x.f0) := (blk_cell hbox 0).trans rfl; have kg1 : w1.cell? ⟨g3, 1, none⟩ = some (.string x.f1) := (blk_cell hbox 1).trans rfl; have kg2 : w1.cell? ⟨g3, 2, none⟩ = some (.int .i64 x.f2) := (blk_cell hbox 2).trans rfl; have kg3 : w1.cell? ⟨g3, 3, none⟩ = some (.int .i64 x.f3) := (blk_cell hbox 3).trans rfl; clear hg hbox hb))
  go_ret
  exact ⟨rfl, HB1.out, _, HI1.out⟩
end Go.Proofs.YtiidpicgdjjikaaGreatDoor.G
