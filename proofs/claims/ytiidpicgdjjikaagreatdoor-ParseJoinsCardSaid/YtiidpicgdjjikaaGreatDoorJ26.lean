import Derived.Deep.LoopGhost
import Derived.WalkKit
import Derived.IntWalk
import Derived.Lib.LazyBuf
import Derived.RangeFuncRecord
import Derived.Test.YtiidpicgdjjikaaGreatDoorJ4
namespace Go.Proofs.YtiidpicgdjjikaaGreatDoor.G
open Go.RowKit Go.Lib Go.Proofs Go.Proofs.YtiidpicgdjjikaaGreatDoorW.PrintWords Go.Proofs.YtiidpicgdjjikaaGreatDoorW.PrintLast Go.Proofs.YtiidpicgdjjikaaGreatDoorW.PrintMore
set_option linter.unusedVariables false
set_option linter.unusedSimpArgs false
attribute [local go_sem] isSome_setCell_eq
abbrev signsV : Value := .agg #[.string ⟨#[]⟩, .string ⟨#[60]⟩, .string ⟨#[60, 61]⟩, .string ⟨#[62]⟩, .string ⟨#[62, 61]⟩, .string ⟨#[61]⟩, .string ⟨#[60, 62]⟩]
set_option maxHeartbeats 400000 in
theorem cond_signs (w : World) : Calls Tryz.prog 148 #[] w fun e w' => e = .returned signsV ∧ Below w.heap.size w w' := by
  go_enter Tryz.func148, Tryz.ntmps148
  go_wp2_with (first | ((with_reducible refine gate_dst (N := 0) rfl ?_); refine box_event ?hg (N := 0) ?hd (cs := #[.string ⟨#[]⟩, .string ⟨#[]⟩, .string ⟨#[]⟩, .string ⟨#[]⟩, .string ⟨#[]⟩, .string ⟨#[]⟩, .string ⟨#[]⟩]) (t := 213) ?hr ?_; (case hd => rfl); (case hg => rfl); (case hr => first | (go_simp; done) | (go_simp; rfl)); intro g hg w1 hbox hb; have HG := Aside0.mk (Nat.le_of_eq hg.symm); clear hg; have c0 : w1.cell? ⟨g, 0, none⟩ = some (.string ⟨#[]⟩) := (blk_cell hbox 0).trans rfl; have f0 := blk_frozen hbox 0; have c1 : w1.cell? ⟨g, 1, none⟩ = some (.string ⟨#[]⟩) := (blk_cell hbox 1).trans rfl; have f1 := blk_frozen hbox 1; have c2 : w1.cell? ⟨g, 2, none⟩ = some (.string ⟨#[]⟩) := (blk_cell hbox 2).trans rfl; have f2 := blk_frozen hbox 2; have c3 : w1.cell? ⟨g, 3, none⟩ = some (.string ⟨#[]⟩) := (blk_cell hbox 3).trans rfl; have f3 := blk_frozen hbox 3; have c4 : w1.cell? ⟨g, 4, none⟩ = some (.string ⟨#[]⟩) := (blk_cell hbox 4).trans rfl; have f4 := blk_frozen hbox 4; have c5 : w1.cell? ⟨g, 5, none⟩ = some (.string ⟨#[]⟩) := (blk_cell hbox 5).trans rfl; have f5 := blk_frozen hbox 5; have c6 : w1.cell? ⟨g, 6, none⟩ = some (.string ⟨#[]⟩) := (blk_cell hbox 6).trans rfl; have f6 := blk_frozen hbox 6))
  refine bodyPost_ret (results_single rfl (.cell g 213 #[.string ⟨#[]⟩, .string ⟨#[60]⟩, .string ⟨#[60, 61]⟩, .string ⟨#[62]⟩, .string ⟨#[62, 61]⟩, .string ⟨#[61]⟩, .string ⟨#[60, 62]⟩] (0, 0) _ rfl ?_ Tryz.underlying213 rfl (by kernel_rfl) .nil)) rfl ?_
  · refine blk_put (cs := #[.string ⟨#[]⟩, .string ⟨#[60]⟩, .string ⟨#[60, 61]⟩, .string ⟨#[62]⟩, .string ⟨#[62, 61]⟩, .string ⟨#[61]⟩, .string ⟨#[]⟩]) ?_ 6 _ rfl; refine blk_put (cs := #[.string ⟨#[]⟩, .string ⟨#[60]⟩, .string ⟨#[60, 61]⟩, .string ⟨#[62]⟩, .string ⟨#[62, 61]⟩, .string ⟨#[]⟩, .string ⟨#[]⟩]) ?_ 5 _ rfl; refine blk_put (cs := #[.string ⟨#[]⟩, .string ⟨#[60]⟩, .string ⟨#[60, 61]⟩, .string ⟨#[62]⟩, .string ⟨#[]⟩, .string ⟨#[]⟩, .string ⟨#[]⟩]) ?_ 4 _ rfl; refine blk_put (cs := #[.string ⟨#[]⟩, .string ⟨#[60]⟩, .string ⟨#[60, 61]⟩, .string ⟨#[]⟩, .string ⟨#[]⟩, .string ⟨#[]⟩, .string ⟨#[]⟩]) ?_ 3 _ rfl; refine blk_put (cs := #[.string ⟨#[]⟩, .string ⟨#[60]⟩, .string ⟨#[]⟩, .string ⟨#[]⟩, .string ⟨#[]⟩, .string ⟨#[]⟩, .string ⟨#[]⟩]) ?_ 2 _ rfl; refine blk_put (cs := #[.string ⟨#[]⟩, .string ⟨#[]⟩, .string ⟨#[]⟩, .string ⟨#[]⟩, .string ⟨#[]⟩, .string ⟨#[]⟩, .string ⟨#[]⟩]) ?_ 1 _ rfl; refine blk_put (cs := #[.string ⟨#[]⟩, .string ⟨#[]⟩, .string ⟨#[]⟩, .string ⟨#[]⟩, .string ⟨#[]⟩, .string ⟨#[]⟩, .string ⟨#[]⟩]) ?_ 0 _ rfl; exact hbox
  · exact ⟨rfl, by (with_reducible repeat (first | exact hb | refine below_set ?_ HG.out))⟩
def sg (o : Int) : ByteArray := [⟨#[]⟩, ⟨#[60]⟩, ⟨#[60, 61]⟩, ⟨#[62]⟩, ⟨#[62, 61]⟩, ⟨#[61]⟩, ⟨#[60, 62]⟩].getD o.toNat ⟨#[]⟩
def opL (s : ByteArray) : List Int → Int × ByteArray × Bool
  | [] => (0, ⟨#[]⟩, false)
  | o :: l => if Lib.hasPrefix s.data.toList (sg o).data.toList = true then (o, ⟨(Lib.trimPrefix s.data.toList (sg o).data.toList).toArray⟩, true) else opL s l
def cond_op.f (a0 : ByteArray) : Option (Int × ByteArray × Bool) := some (opL a0 [2, 4, 6, 1, 3, 5])
set_option maxHeartbeats 8000000 in
set_option maxRecDepth 1000000 in
theorem cond_op.calls (a0 : ByteArray) (r1 : Int) (r2 : ByteArray) (r3 : Bool) (w : World) (h : cond_op.f a0 = some (r1, r2, r3)) :
    Calls Tryz.prog 132 #[.string a0] w fun e w' => e = .returned (.tuple #[.int .i64 r1, .string r2, .bool r3]) ∧ Below w.heap.size w w' := by
  have H := Aside0.mk (Option.some.inj h)
  clear h
  have hB := below_alloc (Below.refl w.heap.size w) (.cells #[.int .i64 2, .int .i64 4, .int .i64 6, .int .i64 1, .int .i64 3, .int .i64 5] 28)
  have hK := World.alloc_heap_new w (.cells #[.int .i64 2, .int .i64 4, .int .i64 6, .int .i64 1, .int .i64 3, .int .i64 5] 28)
  have hN : w.heap.size < (w.alloc (.cells #[.int .i64 2, .int .i64 4, .int .i64 6, .int .i64 1, .int .i64 3, .int .i64 5] 28)).heap.size := by simp
  go_enter Tryz.func132, Tryz.ntmps132
  go_wp2
  obtain ⟨W0, hW0⟩ : ∃ W0, w.alloc (.cells #[.int .i64 2, .int .i64 4, .int .i64 6, .int .i64 1, .int .i64 3, .int .i64 5] 28) = W0 := ⟨_, rfl⟩
  rw [hW0] at hB hK hN
  (try rw [hW0])
  clear hW0
  go_loopg [11] 6 (fun g v11 wx => ∃ i : Nat, i + g = 6 ∧ v11 = .int .i64 i ∧ wx.heap[w.heap.size]? = some (.cells #[.int .i64 2, .int .i64 4, .int .i64 6, .int .i64 1, .int .i64 3, .int .i64 5] 28 (0, 0)) ∧ w.heap.size < wx.heap.size ∧ Below w.heap.size w wx ∧ Aside0 (opL a0 (([2, 4, 6, 1, 3, 5] : List Int).drop i) = (r1, r2, r3)))
  case atStart => exact ⟨0, rfl, rfl, hK, hN, hB, H⟩
  case round =>
    clear H hB hK hN
    obtain ⟨i, hi, rfl, hK, hN, hB, H⟩ := hrel
    rcases (by omega : i = 0 ∨ i = 1 ∨ i = 2 ∨ i = 3 ∨ i = 4 ∨ i = 5 ∨ i = 6) with rfl | rfl | rfl | rfl | rfl | rfl | rfl
    · obtain rfl : gk = 6 := by omega
      have hc : wr.cell? ⟨w.heap.size, 0, none⟩ = some (.int .i64 2) := (blk_cell hK 0).trans rfl
      have H1 := H.out
      rw [show ([2, 4, 6, 1, 3, 5] : List Int).drop 0 = 2 :: ([2, 4, 6, 1, 3, 5] : List Int).drop 1 from rfl] at H1
      simp only [opL, show sg 2 = ⟨#[60, 61]⟩ from rfl] at H1
      have hx : ∀ W, (Instr.index 213 (.agg #[.string ⟨#[]⟩, .string ⟨#[60]⟩, .string ⟨#[60, 61]⟩, .string ⟨#[62]⟩, .string ⟨#[62, 61]⟩, .string ⟨#[61]⟩, .string ⟨#[60, 62]⟩]) (.int .i64 2)).run Tryz.prog W = .ok (.string ⟨#[60, 61]⟩) W := fun W => by kernel_rfl
      have cC := fun W => Tryz.strings_CutPrefix a0 ⟨#[60, 61]⟩ W
      have cS := cond_signs wr
      unfold signsV at cS
      by_cases hp : Lib.hasPrefix a0.data.toList (⟨#[60, 61]⟩ : ByteArray).data.toList = true
      · rw [if_pos hp] at H1
        simp only [Prod.mk.injEq] at H1
        obtain ⟨rfl, rfl, rfl⟩ := H1
        rw [hp] at cC
        go_wp2_with (first | (go_at_call 148; refine cS.mono ?_; rintro e w2 ⟨rfl, hb2⟩) | (go_at_call 133; refine (cC _).mono ?_; rintro e w3 ⟨rfl, rfl⟩))
        go_ret3
        exact ⟨rfl, hB.trans (hb2.mono (Nat.le_of_lt hN))⟩
      · rw [if_neg hp] at H1
        have hp2 := Bool.eq_false_iff.2 hp
        rw [hp2] at cC
        have H2 := Aside0.mk H1
        clear H1 H
        go_wp2_with (first | (go_at_call 148; refine cS.mono ?_; rintro e w2 ⟨rfl, hb2⟩) | (go_at_call 133; refine (cC _).mono ?_; rintro e w3 ⟨rfl, rfl⟩))
        go_roundg 5
        case measure => omega
        case rel => exact ⟨1, rfl, by first | rfl | simp, (hb2.block _ hN).trans hK, Nat.lt_of_lt_of_le hN hb2.size, hB.trans (hb2.mono (Nat.le_of_lt hN)), H2⟩
    · obtain rfl : gk = 5 := by omega
      have hc : wr.cell? ⟨w.heap.size, 1, none⟩ = some (.int .i64 4) := (blk_cell hK 1).trans rfl
      have H1 := H.out
      rw [show ([2, 4, 6, 1, 3, 5] : List Int).drop 1 = 4 :: ([2, 4, 6, 1, 3, 5] : List Int).drop 2 from rfl] at H1
      simp only [opL, show sg 4 = ⟨#[62, 61]⟩ from rfl] at H1
      have hx : ∀ W, (Instr.index 213 (.agg #[.string ⟨#[]⟩, .string ⟨#[60]⟩, .string ⟨#[60, 61]⟩, .string ⟨#[62]⟩, .string ⟨#[62, 61]⟩, .string ⟨#[61]⟩, .string ⟨#[60, 62]⟩]) (.int .i64 4)).run Tryz.prog W = .ok (.string ⟨#[62, 61]⟩) W := fun W => by kernel_rfl
      have cC := fun W => Tryz.strings_CutPrefix a0 ⟨#[62, 61]⟩ W
      have cS := cond_signs wr
      unfold signsV at cS
      by_cases hp : Lib.hasPrefix a0.data.toList (⟨#[62, 61]⟩ : ByteArray).data.toList = true
      · rw [if_pos hp] at H1
        simp only [Prod.mk.injEq] at H1
        obtain ⟨rfl, rfl, rfl⟩ := H1
        rw [hp] at cC
        go_wp2_with (first | (go_at_call 148; refine cS.mono ?_; rintro e w2 ⟨rfl, hb2⟩) | (go_at_call 133; refine (cC _).mono ?_; rintro e w3 ⟨rfl, rfl⟩))
        go_ret3
        exact ⟨rfl, hB.trans (hb2.mono (Nat.le_of_lt hN))⟩
      · rw [if_neg hp] at H1
        have hp2 := Bool.eq_false_iff.2 hp
        rw [hp2] at cC
        have H2 := Aside0.mk H1
        clear H1 H
        go_wp2_with (first | (go_at_call 148; refine cS.mono ?_; rintro e w2 ⟨rfl, hb2⟩) | (go_at_call 133; refine (cC _).mono ?_; rintro e w3 ⟨rfl, rfl⟩))
        go_roundg 4
        case measure => omega
        case rel => exact ⟨2, rfl, by first | rfl | simp, (hb2.block _ hN).trans hK, Nat.lt_of_lt_of_le hN hb2.size, hB.trans (hb2.mono (Nat.le_of_lt hN)), H2⟩
    · obtain rfl : gk = 4 := by omega
      have hc : wr.cell? ⟨w.heap.size, 2, none⟩ = some (.int .i64 6) := (blk_cell hK 2).trans rfl
      have H1 := H.out
      rw [show ([2, 4, 6, 1, 3, 5] : List Int).drop 2 = 6 :: ([2, 4, 6, 1, 3, 5] : List Int).drop 3 from rfl] at H1
      simp only [opL, show sg 6 = ⟨#[60, 62]⟩ from rfl] at H1
      have hx : ∀ W, (Instr.index 213 (.agg #[.string ⟨#[]⟩, .string ⟨#[60]⟩, .string ⟨#[60, 61]⟩, .string ⟨#[62]⟩, .string ⟨#[62, 61]⟩, .string ⟨#[61]⟩, .string ⟨#[60, 62]⟩]) (.int .i64 6)).run Tryz.prog W = .ok (.string ⟨#[60, 62]⟩) W := fun W => by kernel_rfl
      have cC := fun W => Tryz.strings_CutPrefix a0 ⟨#[60, 62]⟩ W
      have cS := cond_signs wr
      unfold signsV at cS
      by_cases hp : Lib.hasPrefix a0.data.toList (⟨#[60, 62]⟩ : ByteArray).data.toList = true
      · rw [if_pos hp] at H1
        simp only [Prod.mk.injEq] at H1
        obtain ⟨rfl, rfl, rfl⟩ := H1
        rw [hp] at cC
        go_wp2_with (first | (go_at_call 148; refine cS.mono ?_; rintro e w2 ⟨rfl, hb2⟩) | (go_at_call 133; refine (cC _).mono ?_; rintro e w3 ⟨rfl, rfl⟩))
        go_ret3
        exact ⟨rfl, hB.trans (hb2.mono (Nat.le_of_lt hN))⟩
      · rw [if_neg hp] at H1
        have hp2 := Bool.eq_false_iff.2 hp
        rw [hp2] at cC
        have H2 := Aside0.mk H1
        clear H1 H
        go_wp2_with (first | (go_at_call 148; refine cS.mono ?_; rintro e w2 ⟨rfl, hb2⟩) | (go_at_call 133; refine (cC _).mono ?_; rintro e w3 ⟨rfl, rfl⟩))
        go_roundg 3
        case measure => omega
        case rel => exact ⟨3, rfl, by first | rfl | simp, (hb2.block _ hN).trans hK, Nat.lt_of_lt_of_le hN hb2.size, hB.trans (hb2.mono (Nat.le_of_lt hN)), H2⟩
    · obtain rfl : gk = 3 := by omega
      have hc : wr.cell? ⟨w.heap.size, 3, none⟩ = some (.int .i64 1) := (blk_cell hK 3).trans rfl
      have H1 := H.out
      rw [show ([2, 4, 6, 1, 3, 5] : List Int).drop 3 = 1 :: ([2, 4, 6, 1, 3, 5] : List Int).drop 4 from rfl] at H1
      simp only [opL, show sg 1 = ⟨#[60]⟩ from rfl] at H1
      have hx : ∀ W, (Instr.index 213 (.agg #[.string ⟨#[]⟩, .string ⟨#[60]⟩, .string ⟨#[60, 61]⟩, .string ⟨#[62]⟩, .string ⟨#[62, 61]⟩, .string ⟨#[61]⟩, .string ⟨#[60, 62]⟩]) (.int .i64 1)).run Tryz.prog W = .ok (.string ⟨#[60]⟩) W := fun W => by kernel_rfl
      have cC := fun W => Tryz.strings_CutPrefix a0 ⟨#[60]⟩ W
      have cS := cond_signs wr
      unfold signsV at cS
      by_cases hp : Lib.hasPrefix a0.data.toList (⟨#[60]⟩ : ByteArray).data.toList = true
      · rw [if_pos hp] at H1
        simp only [Prod.mk.injEq] at H1
        obtain ⟨rfl, rfl, rfl⟩ := H1
        rw [hp] at cC
        go_wp2_with (first | (go_at_call 148; refine cS.mono ?_; rintro e w2 ⟨rfl, hb2⟩) | (go_at_call 133; refine (cC _).mono ?_; rintro e w3 ⟨rfl, rfl⟩))
        go_ret3
        exact ⟨rfl, hB.trans (hb2.mono (Nat.le_of_lt hN))⟩
      · rw [if_neg hp] at H1
        have hp2 := Bool.eq_false_iff.2 hp
        rw [hp2] at cC
        have H2 := Aside0.mk H1
        clear H1 H
        go_wp2_with (first | (go_at_call 148; refine cS.mono ?_; rintro e w2 ⟨rfl, hb2⟩) | (go_at_call 133; refine (cC _).mono ?_; rintro e w3 ⟨rfl, rfl⟩))
        go_roundg 2
        case measure => omega
        case rel => exact ⟨4, rfl, by first | rfl | simp, (hb2.block _ hN).trans hK, Nat.lt_of_lt_of_le hN hb2.size, hB.trans (hb2.mono (Nat.le_of_lt hN)), H2⟩
    · obtain rfl : gk = 2 := by omega
      have hc : wr.cell? ⟨w.heap.size, 4, none⟩ = some (.int .i64 3) := (blk_cell hK 4).trans rfl
      have H1 := H.out
      rw [show ([2, 4, 6, 1, 3, 5] : List Int).drop 4 = 3 :: ([2, 4, 6, 1, 3, 5] : List Int).drop 5 from rfl] at H1
      simp only [opL, show sg 3 = ⟨#[62]⟩ from rfl] at H1
      have hx : ∀ W, (Instr.index 213 (.agg #[.string ⟨#[]⟩, .string ⟨#[60]⟩, .string ⟨#[60, 61]⟩, .string ⟨#[62]⟩, .string ⟨#[62, 61]⟩, .string ⟨#[61]⟩, .string ⟨#[60, 62]⟩]) (.int .i64 3)).run Tryz.prog W = .ok (.string ⟨#[62]⟩) W := fun W => by kernel_rfl
      have cC := fun W => Tryz.strings_CutPrefix a0 ⟨#[62]⟩ W
      have cS := cond_signs wr
      unfold signsV at cS
      by_cases hp : Lib.hasPrefix a0.data.toList (⟨#[62]⟩ : ByteArray).data.toList = true
      · rw [if_pos hp] at H1
        simp only [Prod.mk.injEq] at H1
        obtain ⟨rfl, rfl, rfl⟩ := H1
        rw [hp] at cC
        go_wp2_with (first | (go_at_call 148; refine cS.mono ?_; rintro e w2 ⟨rfl, hb2⟩) | (go_at_call 133; refine (cC _).mono ?_; rintro e w3 ⟨rfl, rfl⟩))
        go_ret3
        exact ⟨rfl, hB.trans (hb2.mono (Nat.le_of_lt hN))⟩
      · rw [if_neg hp] at H1
        have hp2 := Bool.eq_false_iff.2 hp
        rw [hp2] at cC
        have H2 := Aside0.mk H1
        clear H1 H
        go_wp2_with (first | (go_at_call 148; refine cS.mono ?_; rintro e w2 ⟨rfl, hb2⟩) | (go_at_call 133; refine (cC _).mono ?_; rintro e w3 ⟨rfl, rfl⟩))
        go_roundg 1
        case measure => omega
        case rel => exact ⟨5, rfl, by first | rfl | simp, (hb2.block _ hN).trans hK, Nat.lt_of_lt_of_le hN hb2.size, hB.trans (hb2.mono (Nat.le_of_lt hN)), H2⟩
    · obtain rfl : gk = 1 := by omega
      have hc : wr.cell? ⟨w.heap.size, 5, none⟩ = some (.int .i64 5) := (blk_cell hK 5).trans rfl
      have H1 := H.out
      rw [show ([2, 4, 6, 1, 3, 5] : List Int).drop 5 = 5 :: ([2, 4, 6, 1, 3, 5] : List Int).drop 6 from rfl] at H1
      simp only [opL, show sg 5 = ⟨#[61]⟩ from rfl] at H1
      have hx : ∀ W, (Instr.index 213 (.agg #[.string ⟨#[]⟩, .string ⟨#[60]⟩, .string ⟨#[60, 61]⟩, .string ⟨#[62]⟩, .string ⟨#[62, 61]⟩, .string ⟨#[61]⟩, .string ⟨#[60, 62]⟩]) (.int .i64 5)).run Tryz.prog W = .ok (.string ⟨#[61]⟩) W := fun W => by kernel_rfl
      have cC := fun W => Tryz.strings_CutPrefix a0 ⟨#[61]⟩ W
      have cS := cond_signs wr
      unfold signsV at cS
      by_cases hp : Lib.hasPrefix a0.data.toList (⟨#[61]⟩ : ByteArray).data.toList = true
      · rw [if_pos hp] at H1
        simp only [Prod.mk.injEq] at H1
        obtain ⟨rfl, rfl, rfl⟩ := H1
        rw [hp] at cC
        go_wp2_with (first | (go_at_call 148; refine cS.mono ?_; rintro e w2 ⟨rfl, hb2⟩) | (go_at_call 133; refine (cC _).mono ?_; rintro e w3 ⟨rfl, rfl⟩))
        go_ret3
        exact ⟨rfl, hB.trans (hb2.mono (Nat.le_of_lt hN))⟩
      · rw [if_neg hp] at H1
        have hp2 := Bool.eq_false_iff.2 hp
        rw [hp2] at cC
        have H2 := Aside0.mk H1
        clear H1 H
        go_wp2_with (first | (go_at_call 148; refine cS.mono ?_; rintro e w2 ⟨rfl, hb2⟩) | (go_at_call 133; refine (cC _).mono ?_; rintro e w3 ⟨rfl, rfl⟩))
        go_roundg 0
        case measure => omega
        case rel => exact ⟨6, rfl, by first | rfl | simp, (hb2.block _ hN).trans hK, Nat.lt_of_lt_of_le hN hb2.size, hB.trans (hb2.mono (Nat.le_of_lt hN)), H2⟩
    · obtain rfl : gk = 0 := by omega
      have H1 := H.out
      simp only [List.drop, opL, Prod.mk.injEq] at H1
      obtain ⟨rfl, rfl, rfl⟩ := H1
      go_wp2
      go_ret3
      exact ⟨rfl, hB⟩
end Go.Proofs.YtiidpicgdjjikaaGreatDoor.G
