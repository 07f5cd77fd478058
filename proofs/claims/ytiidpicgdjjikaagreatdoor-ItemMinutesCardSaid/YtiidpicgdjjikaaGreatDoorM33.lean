/- Texts of this seat, one behind the other (merged by a program of this session's own). -/
import Derived.Test.YtiidpicgdjjikaaGreatDoorM4
import Derived.Test.YtiidpicgdjjikaaGreatDoorM20
import Derived.Test.YtiidpicgdjjikaaGreatDoorM25
import Derived.Test.YtiidpicgdjjikaaGreatDoorM30
import Derived.Test.YtiidpicgdjjikaaGreatDoorM31
import Derived.Test.YtiidpicgdjjikaaGreatDoorM32

-- GIt2
/-
  item.builder: 'bracket'.
-/
namespace Go.Proofs.YtiidpicgdjjikaaGreatDoor.G
open Go.RowKit Go.Lib Go.Maps Go.ChangeMaps Go.MapKept Go.Proofs Go.Proofs.YtiidpicgdjjikaaGreatDoor.P Go.Proofs.YtiidpicgdjjikaaGreatDoorW.PrintWords Go.Proofs.YtiidpicgdjjikaaGreatDoorW.PrintLast Go.Proofs.YtiidpicgdjjikaaGreatDoorW.PrintMore
set_option linter.unusedVariables false
set_option linter.unusedSimpArgs false
theorem BInv.far {n0 : Nat} {w : World} {p m g j : Nat} {vi vl u : Value} {b : BSt} (h : BInv n0 w p m vi vl b) {t : TypeId} {cs : Array Value} (hg : w.heap[g]? = some (.cells cs t (0, 0))) (ht : t ≠ 79) (ht2 : (55 : Nat) ≠ t) : BInv n0 (w.setCell ⟨g, j, none⟩ u) p m vi vl b := by
  have hpg : p ≠ g := blk_ne h.blk hg (Ne.symm ht)
  have hmg : m ≠ g := by
    rintro rfl
    obtain ⟨es, c, he, _⟩ := h.map
    rw [hg] at he
    cases he
  refine ⟨blk_far h.blk hpg _, Kd.R_set h.row hg (fun q hq => by
    rcases List.mem_cons.1 hq with rfl | hq
    · exact ht2
    · exact absurd hq (by simp [show k55.E = [] from rfl])) j u, ?_, h.hp, h.hm⟩
  obtain ⟨es, c, he, hl⟩ := h.map
  exact ⟨es, c, (Below.heap_setCell w ⟨g, j, none⟩ u m hmg).trans he, hl⟩
theorem setCell_sz (w : World) (a : Addr) (v : Value) : (w.setCell a v).heap.size = w.heap.size := by simp [World.setCell]
theorem B23 {w2 w3 : World} (h : Below w2.heap.size w2 w3) (g7 : Nat) (hg : w2.heap.size ≤ g7) (o : Int) (ng : Bool) (wh pt : ByteArray) : Below w2.heap.size w2 ((((w3.setCell ⟨g7, 0, none⟩ (.int .i64 o)).setCell ⟨g7, 1, none⟩ (.bool ng)).setCell ⟨g7, 2, none⟩ (.string wh)).setCell ⟨g7, 3, none⟩ (.string pt)) := (((h.setCell hg _).setCell hg _).setCell hg _).setCell hg _
def bracketF (k : Nat) (b : BSt) (text : ByteArray) : Option (Int × BSt) :=
  (colour_Number.f k text).bind fun x => if x.2 = true then (if b.colour = 0 then some (0, { b with colour := x.1 }) else some (10, b)) else
  (cond_Parse.f k text).bind fun y => if y.2.2.2.2 = true then (if b.op = 0 then some (0, { b with op := y.1, neg := y.2.1, whole := y.2.2.1, part := y.2.2.2.1 }) else some (10, b)) else
  (colour_Elapsed.f text).bind fun z => if z.2.2 = true then (addF b ⟨14, z.1, z.2.1⟩).bind fun b2 => some (0, b2) else
  (colour_Money.f text).bind fun v => if v.2.2 = true then (addF b ⟨15, v.1, wrap64 v.2.1⟩).bind fun b2 => some (0, b2) else some (7, b)
attribute [local go_sem] isSome_setCell_eq
set_option maxHeartbeats 8000000 in
set_option maxRecDepth 1000000 in
theorem bracket_calls (k : Nat) {n0 : Nat} {w0 w : World} {p m : Nat} {vi vl : Value} {b b' : BSt} {r : Int} (text : ByteArray) (hI : BInv n0 w p m vi vl b) (hB : Below n0 w0 w) (hn : n0 ≤ w.heap.size) (h : bracketF k b text = some (r, b')) (HLW_ : LW w) :
    Calls Tryz.prog 86 #[.pointer (some ⟨p, 0, none⟩), .string text] w fun e w' => e = .returned (.int .i64 r) ∧ Below n0 w0 w' ∧ ∃ vi', BInv n0 w' p m vi' vl b' := by
  have HI0 := Aside0.mk hI
  have HB0 := Aside0.mk hB
  have HN0 := Aside0.mk hn
  have HL0 := Aside0.mk HLW_
  clear hI hB hn HLW_
  have hu := Tryz.underlying30
  have hu2 := Tryz.underlying79
  have hu3 := Tryz.underlying33
  unfold bracketF at h
  obtain ⟨⟨n, ok1⟩, a1, h⟩ := Option.bind_eq_some_iff.mp h
  have AN := Aside0.mk a1
  clear a1
  simp only [] at h
  cases ok1 with
  | true =>
    rw [if_pos rfl] at h
    by_cases c1 : b.colour = 0
    · rw [if_pos c1] at h
      simp only [Option.some.injEq, Prod.mk.injEq] at h
      obtain ⟨rfl, rfl⟩ := h
      have c1b : (b.colour != 0) = false := by simp [c1]
      clear c1
      go_enter Tryz.func86, Tryz.ntmps86
      go_wp2_with (first | (go_at_call 108; (with_reducible refine (colour_Number.calls k text _ _ _ AN.out HL0.out).mono ?_); rintro e w1 ⟨rfl, hb1⟩; have HI1 := Aside0.mk (HI0.out.below hb1); have HB1 := Aside0.mk (Below.trans HB0.out (hb1.mono HN0.out)); have HN1 := Aside0.mk (Nat.le_trans HN0.out hb1.size); have HL1 := Aside0.mk (LW.below HL0.out hb1); clear hb1; have kc1 : w1.cell? ⟨p, 1, none⟩ = some (.int .i64 b.colour) := (blk_cell HI1.out.blk 1).trans rfl; have kf1 := blk_frozen HI1.out.blk 1))
      go_ret
      exact ⟨rfl, Below.setCell HB1.out HI1.out.hp _, _, HI1.out.set 1 (.int .i64 n) rfl HI1.out.row rfl⟩
    · rw [if_neg c1] at h
      simp only [Option.some.injEq, Prod.mk.injEq] at h
      obtain ⟨rfl, rfl⟩ := h
      have c1b : (b.colour != 0) = true := by simp [c1]
      clear c1
      go_enter Tryz.func86, Tryz.ntmps86
      go_wp2_with (first | (go_at_call 108; (with_reducible refine (colour_Number.calls k text _ _ _ AN.out HL0.out).mono ?_); rintro e w1 ⟨rfl, hb1⟩; have HI1 := Aside0.mk (HI0.out.below hb1); have HB1 := Aside0.mk (Below.trans HB0.out (hb1.mono HN0.out)); have HN1 := Aside0.mk (Nat.le_trans HN0.out hb1.size); have HL1 := Aside0.mk (LW.below HL0.out hb1); clear hb1; have kc1 : w1.cell? ⟨p, 1, none⟩ = some (.int .i64 b.colour) := (blk_cell HI1.out.blk 1).trans rfl; have kf1 := blk_frozen HI1.out.blk 1))
      go_ret
      exact ⟨rfl, HB1.out, _, HI1.out⟩
  | false =>
    rw [if_neg (by simp)] at h
    obtain ⟨⟨o, ng, wh, pt, ok2⟩, a1, h⟩ := Option.bind_eq_some_iff.mp h
    have AP := Aside0.mk a1
    clear a1
    simp only [] at h
    cases ok2 with
    | true =>
      rw [if_pos rfl] at h
      by_cases c1 : b.op = 0
      · rw [if_pos c1] at h
        simp only [Option.some.injEq, Prod.mk.injEq] at h
        obtain ⟨rfl, rfl⟩ := h
        have c1b : (b.op != 0) = false := by simp [c1]
        clear c1
        go_enter Tryz.func86, Tryz.ntmps86
        go_wp2_with (first | (go_at_call 108; (with_reducible refine (colour_Number.calls k text _ _ _ AN.out HL0.out).mono ?_); rintro e w1 ⟨rfl, hb1⟩; have HI1 := Aside0.mk (HI0.out.below hb1); have HB1 := Aside0.mk (Below.trans HB0.out (hb1.mono HN0.out)); have HN1 := Aside0.mk (Nat.le_trans HN0.out hb1.size); have HL1 := Aside0.mk (LW.below HL0.out hb1); clear hb1; have kc1 : w1.cell? ⟨p, 1, none⟩ = some (.int .i64 b.colour) := (blk_cell HI1.out.blk 1).trans rfl; have kf1 := blk_frozen HI1.out.blk 1) | (go_at_call 109; (with_reducible refine (cond_Parse.calls k text _ _ _ _ _ _ AP.out HL1.out).mono ?_); rintro e w2 ⟨rfl, hb2⟩; have HI2 := Aside0.mk (HI1.out.below hb2); have HB2 := Aside0.mk (Below.trans HB1.out (hb2.mono HN1.out)); have HN2 := Aside0.mk (Nat.le_trans HN1.out hb2.size); have HL2 := Aside0.mk (LW.below HL1.out hb2); clear hb2; have kc2 : w2.cell? ⟨p, 2, none⟩ = some (.int .i64 b.op) := (blk_cell HI2.out.blk 2).trans rfl; have kf2 := blk_frozen HI2.out.blk 2; have kc3 : w2.cell? ⟨p, 3, none⟩ = some (.bool b.neg) := (blk_cell HI2.out.blk 3).trans rfl; have kf3 := blk_frozen HI2.out.blk 3; have kc4 : w2.cell? ⟨p, 4, none⟩ = some (.string b.whole) := (blk_cell HI2.out.blk 4).trans rfl; have kf4 := blk_frozen HI2.out.blk 4; have kc5 : w2.cell? ⟨p, 5, none⟩ = some (.string b.part) := (blk_cell HI2.out.blk 5).trans rfl; have kf5 := blk_frozen HI2.out.blk 5) | ((with_reducible refine gate_dst (N := 7) rfl ?_); refine box_event ?hg (N := 7) ?hd (cs := #[.int .i64 0, .bool false, .string ⟨#[]⟩, .string ⟨#[]⟩]) (t := 30) ?hr ?_; (case hd => rfl); (case hg => rfl); (case hr => first | (go_simp; done) | (go_simp; rfl)); intro g7 hg w3 hbox hb3; have G7 := Aside0.mk hbox; have HI3a := HI2.out.below hb3; have NE7 : Aside0 (p ≠ g7) := ⟨by rw [hg]; exact Nat.ne_of_lt (blk_lt HI2.out.blk)⟩; have GE7 : Aside0 (w2.heap.size ≤ g7) := ⟨Nat.le_of_eq hg.symm⟩; have HB23 := Aside0.mk hb3; have LE7 : Aside0 (n0 ≤ g7) := ⟨by rw [hg]; exact HN2.out⟩; have HI3b := Aside0.mk HI3a; have HB3 := Aside0.mk (Below.trans HB2.out (hb3.mono HN2.out)); have HN3 := Aside0.mk (Nat.le_trans HN2.out hb3.size); have HL3 := Aside0.mk (LW.below HL2.out hb3); have nb1 := NE7.out; have nb2 := Ne.symm NE7.out; have e70 : w3.cell? ⟨g7, 0, none⟩ = some (.int .i64 0) := (blk_cell hbox 0).trans rfl; have e71 : w3.cell? ⟨g7, 1, none⟩ = some (.bool false) := (blk_cell hbox 1).trans rfl; have e72 : w3.cell? ⟨g7, 2, none⟩ = some (.string ⟨#[]⟩) := (blk_cell hbox 2).trans rfl; have e73 : w3.cell? ⟨g7, 3, none⟩ = some (.string ⟨#[]⟩) := (blk_cell hbox 3).trans rfl; have f70 := blk_frozen hbox 0; have f71 := blk_frozen hbox 1; have f72 := blk_frozen hbox 2; have f73 := blk_frozen hbox 3; clear hg hb3 hbox HI3a kc2 kc3 kc4 kc5 kf2 kf3 kf4 kf5; have kc2 : w3.cell? ⟨p, 2, none⟩ = some (.int .i64 b.op) := (blk_cell HI3b.out.blk 2).trans rfl; have kf2 := blk_frozen HI3b.out.blk 2; have kc3 : w3.cell? ⟨p, 3, none⟩ = some (.bool b.neg) := (blk_cell HI3b.out.blk 3).trans rfl; have kf3 := blk_frozen HI3b.out.blk 3; have kc4 : w3.cell? ⟨p, 4, none⟩ = some (.string b.whole) := (blk_cell HI3b.out.blk 4).trans rfl; have kf4 := blk_frozen HI3b.out.blk 4; have kc5 : w3.cell? ⟨p, 5, none⟩ = some (.string b.part) := (blk_cell HI3b.out.blk 5).trans rfl; have kf5 := blk_frozen HI3b.out.blk 5))
        go_ret
        have hI4 : BInv n0 ((((w3.setCell ⟨g7, 0, none⟩ (.int .i64 o)).setCell ⟨g7, 1, none⟩ (.bool ng)).setCell ⟨g7, 2, none⟩ (.string wh)).setCell ⟨g7, 3, none⟩ (.string pt)) p m vi vl b := ((((HI3b.out.far G7.out (by decide) (by decide)).far (blk_put (cs := #[.int .i64 0, .bool false, .string ⟨#[]⟩, .string ⟨#[]⟩]) G7.out 0 _ rfl) (by decide) (by decide)).far (blk_put (cs := #[.int .i64 o, .bool false, .string ⟨#[]⟩, .string ⟨#[]⟩]) (blk_put (cs := #[.int .i64 0, .bool false, .string ⟨#[]⟩, .string ⟨#[]⟩]) G7.out 0 _ rfl) 1 _ rfl) (by decide) (by decide)).far (blk_put (cs := #[.int .i64 o, .bool ng, .string ⟨#[]⟩, .string ⟨#[]⟩]) (blk_put (cs := #[.int .i64 o, .bool false, .string ⟨#[]⟩, .string ⟨#[]⟩]) (blk_put (cs := #[.int .i64 0, .bool false, .string ⟨#[]⟩, .string ⟨#[]⟩]) G7.out 0 _ rfl) 1 _ rfl) 2 _ rfl) (by decide) (by decide))
        have hB4 : Below n0 w0 ((((w3.setCell ⟨g7, 0, none⟩ (.int .i64 o)).setCell ⟨g7, 1, none⟩ (.bool ng)).setCell ⟨g7, 2, none⟩ (.string wh)).setCell ⟨g7, 3, none⟩ (.string pt)) := (((HB3.out.setCell LE7.out _).setCell LE7.out _).setCell LE7.out _).setCell LE7.out _
        have s1 := hI4.set 2 (.int .i64 o) (b' := { b with op := o }) rfl hI4.row rfl
        have s2 := s1.set 3 (.bool ng) (b' := { b with op := o, neg := ng }) rfl s1.row rfl
        have s3 := s2.set 4 (.string wh) (b' := { b with op := o, neg := ng, whole := wh }) rfl s2.row rfl
        have s4 := s3.set 5 (.string pt) (b' := { b with op := o, neg := ng, whole := wh, part := pt }) rfl s3.row rfl
        exact ⟨rfl, (((hB4.setCell hI4.hp _).setCell hI4.hp _).setCell hI4.hp _).setCell hI4.hp _, _, s4⟩
      · rw [if_neg c1] at h
        simp only [Option.some.injEq, Prod.mk.injEq] at h
        obtain ⟨rfl, rfl⟩ := h
        have c1b : (b.op != 0) = true := by simp [c1]
        clear c1
        go_enter Tryz.func86, Tryz.ntmps86
        go_wp2_with (first | (go_at_call 108; (with_reducible refine (colour_Number.calls k text _ _ _ AN.out HL0.out).mono ?_); rintro e w1 ⟨rfl, hb1⟩; have HI1 := Aside0.mk (HI0.out.below hb1); have HB1 := Aside0.mk (Below.trans HB0.out (hb1.mono HN0.out)); have HN1 := Aside0.mk (Nat.le_trans HN0.out hb1.size); have HL1 := Aside0.mk (LW.below HL0.out hb1); clear hb1; have kc1 : w1.cell? ⟨p, 1, none⟩ = some (.int .i64 b.colour) := (blk_cell HI1.out.blk 1).trans rfl; have kf1 := blk_frozen HI1.out.blk 1) | (go_at_call 109; (with_reducible refine (cond_Parse.calls k text _ _ _ _ _ _ AP.out HL1.out).mono ?_); rintro e w2 ⟨rfl, hb2⟩; have HI2 := Aside0.mk (HI1.out.below hb2); have HB2 := Aside0.mk (Below.trans HB1.out (hb2.mono HN1.out)); have HN2 := Aside0.mk (Nat.le_trans HN1.out hb2.size); have HL2 := Aside0.mk (LW.below HL1.out hb2); clear hb2; have kc2 : w2.cell? ⟨p, 2, none⟩ = some (.int .i64 b.op) := (blk_cell HI2.out.blk 2).trans rfl; have kf2 := blk_frozen HI2.out.blk 2; have kc3 : w2.cell? ⟨p, 3, none⟩ = some (.bool b.neg) := (blk_cell HI2.out.blk 3).trans rfl; have kf3 := blk_frozen HI2.out.blk 3; have kc4 : w2.cell? ⟨p, 4, none⟩ = some (.string b.whole) := (blk_cell HI2.out.blk 4).trans rfl; have kf4 := blk_frozen HI2.out.blk 4; have kc5 : w2.cell? ⟨p, 5, none⟩ = some (.string b.part) := (blk_cell HI2.out.blk 5).trans rfl; have kf5 := blk_frozen HI2.out.blk 5) | ((with_reducible refine gate_dst (N := 7) rfl ?_); refine box_event ?hg (N := 7) ?hd (cs := #[.int .i64 0, .bool false, .string ⟨#[]⟩, .string ⟨#[]⟩]) (t := 30) ?hr ?_; (case hd => rfl); (case hg => rfl); (case hr => first | (go_simp; done) | (go_simp; rfl)); intro g7 hg w3 hbox hb3; have G7 := Aside0.mk hbox; have HI3a := HI2.out.below hb3; have NE7 : Aside0 (p ≠ g7) := ⟨by rw [hg]; exact Nat.ne_of_lt (blk_lt HI2.out.blk)⟩; have GE7 : Aside0 (w2.heap.size ≤ g7) := ⟨Nat.le_of_eq hg.symm⟩; have HB23 := Aside0.mk hb3; have LE7 : Aside0 (n0 ≤ g7) := ⟨by rw [hg]; exact HN2.out⟩; have HI3b := Aside0.mk HI3a; have HB3 := Aside0.mk (Below.trans HB2.out (hb3.mono HN2.out)); have HN3 := Aside0.mk (Nat.le_trans HN2.out hb3.size); have HL3 := Aside0.mk (LW.below HL2.out hb3); have nb1 := NE7.out; have nb2 := Ne.symm NE7.out; have e70 : w3.cell? ⟨g7, 0, none⟩ = some (.int .i64 0) := (blk_cell hbox 0).trans rfl; have e71 : w3.cell? ⟨g7, 1, none⟩ = some (.bool false) := (blk_cell hbox 1).trans rfl; have e72 : w3.cell? ⟨g7, 2, none⟩ = some (.string ⟨#[]⟩) := (blk_cell hbox 2).trans rfl; have e73 : w3.cell? ⟨g7, 3, none⟩ = some (.string ⟨#[]⟩) := (blk_cell hbox 3).trans rfl; have f70 := blk_frozen hbox 0; have f71 := blk_frozen hbox 1; have f72 := blk_frozen hbox 2; have f73 := blk_frozen hbox 3; clear hg hb3 hbox HI3a kc2 kc3 kc4 kc5 kf2 kf3 kf4 kf5; have kc2 : w3.cell? ⟨p, 2, none⟩ = some (.int .i64 b.op) := (blk_cell HI3b.out.blk 2).trans rfl; have kf2 := blk_frozen HI3b.out.blk 2; have kc3 : w3.cell? ⟨p, 3, none⟩ = some (.bool b.neg) := (blk_cell HI3b.out.blk 3).trans rfl; have kf3 := blk_frozen HI3b.out.blk 3; have kc4 : w3.cell? ⟨p, 4, none⟩ = some (.string b.whole) := (blk_cell HI3b.out.blk 4).trans rfl; have kf4 := blk_frozen HI3b.out.blk 4; have kc5 : w3.cell? ⟨p, 5, none⟩ = some (.string b.part) := (blk_cell HI3b.out.blk 5).trans rfl; have kf5 := blk_frozen HI3b.out.blk 5))
        go_ret
        have hI4 : BInv n0 ((((w3.setCell ⟨g7, 0, none⟩ (.int .i64 o)).setCell ⟨g7, 1, none⟩ (.bool ng)).setCell ⟨g7, 2, none⟩ (.string wh)).setCell ⟨g7, 3, none⟩ (.string pt)) p m vi vl b := ((((HI3b.out.far G7.out (by decide) (by decide)).far (blk_put (cs := #[.int .i64 0, .bool false, .string ⟨#[]⟩, .string ⟨#[]⟩]) G7.out 0 _ rfl) (by decide) (by decide)).far (blk_put (cs := #[.int .i64 o, .bool false, .string ⟨#[]⟩, .string ⟨#[]⟩]) (blk_put (cs := #[.int .i64 0, .bool false, .string ⟨#[]⟩, .string ⟨#[]⟩]) G7.out 0 _ rfl) 1 _ rfl) (by decide) (by decide)).far (blk_put (cs := #[.int .i64 o, .bool ng, .string ⟨#[]⟩, .string ⟨#[]⟩]) (blk_put (cs := #[.int .i64 o, .bool false, .string ⟨#[]⟩, .string ⟨#[]⟩]) (blk_put (cs := #[.int .i64 0, .bool false, .string ⟨#[]⟩, .string ⟨#[]⟩]) G7.out 0 _ rfl) 1 _ rfl) 2 _ rfl) (by decide) (by decide))
        have hB4 : Below n0 w0 ((((w3.setCell ⟨g7, 0, none⟩ (.int .i64 o)).setCell ⟨g7, 1, none⟩ (.bool ng)).setCell ⟨g7, 2, none⟩ (.string wh)).setCell ⟨g7, 3, none⟩ (.string pt)) := (((HB3.out.setCell LE7.out _).setCell LE7.out _).setCell LE7.out _).setCell LE7.out _
        exact ⟨rfl, hB4, _, hI4⟩
    | false =>
      rw [if_neg (by simp)] at h
      obtain ⟨⟨lt, cn, ok3⟩, a1, h⟩ := Option.bind_eq_some_iff.mp h
      have AE := Aside0.mk a1
      clear a1
      simp only [] at h
      have HI3 : Aside0 (∀ w3 g7, w3.heap[g7]? = some (.cells #[.int .i64 0, .bool false, .string ⟨#[]⟩, .string ⟨#[]⟩] 30 (0, 0)) → BInv n0 w3 p m vi vl b → BInv n0 ((((w3.setCell ⟨g7, 0, none⟩ (.int .i64 o)).setCell ⟨g7, 1, none⟩ (.bool ng)).setCell ⟨g7, 2, none⟩ (.string wh)).setCell ⟨g7, 3, none⟩ (.string pt)) p m vi vl b) := ⟨fun w3 g7 G7 hI => ((((hI.far G7 (by decide) (by decide)).far (blk_put (cs := #[.int .i64 0, .bool false, .string ⟨#[]⟩, .string ⟨#[]⟩]) G7 0 _ rfl) (by decide) (by decide)).far (blk_put (cs := #[.int .i64 o, .bool false, .string ⟨#[]⟩, .string ⟨#[]⟩]) (blk_put (cs := #[.int .i64 0, .bool false, .string ⟨#[]⟩, .string ⟨#[]⟩]) G7 0 _ rfl) 1 _ rfl) (by decide) (by decide)).far (blk_put (cs := #[.int .i64 o, .bool ng, .string ⟨#[]⟩, .string ⟨#[]⟩]) (blk_put (cs := #[.int .i64 o, .bool false, .string ⟨#[]⟩, .string ⟨#[]⟩]) (blk_put (cs := #[.int .i64 0, .bool false, .string ⟨#[]⟩, .string ⟨#[]⟩]) G7 0 _ rfl) 1 _ rfl) 2 _ rfl) (by decide) (by decide))⟩
      cases ok3 with
      | true =>
        rw [if_pos rfl] at h
        obtain ⟨b2, a1, h⟩ := Option.bind_eq_some_iff.mp h
        have HA := Aside0.mk a1
        clear a1
        simp only [Option.some.injEq, Prod.mk.injEq] at h
        obtain ⟨rfl, rfl⟩ := h
        go_enter Tryz.func86, Tryz.ntmps86
        go_wp2_with (first | (go_at_call 108; (with_reducible refine (colour_Number.calls k text _ _ _ AN.out HL0.out).mono ?_); rintro e w1 ⟨rfl, hb1⟩; have HI1 := Aside0.mk (HI0.out.below hb1); have HB1 := Aside0.mk (Below.trans HB0.out (hb1.mono HN0.out)); have HN1 := Aside0.mk (Nat.le_trans HN0.out hb1.size); have HL1 := Aside0.mk (LW.below HL0.out hb1); clear hb1; have kc1 : w1.cell? ⟨p, 1, none⟩ = some (.int .i64 b.colour) := (blk_cell HI1.out.blk 1).trans rfl; have kf1 := blk_frozen HI1.out.blk 1) | (go_at_call 109; (with_reducible refine (cond_Parse.calls k text _ _ _ _ _ _ AP.out HL1.out).mono ?_); rintro e w2 ⟨rfl, hb2⟩; have HI2 := Aside0.mk (HI1.out.below hb2); have HB2 := Aside0.mk (Below.trans HB1.out (hb2.mono HN1.out)); have HN2 := Aside0.mk (Nat.le_trans HN1.out hb2.size); have HL2 := Aside0.mk (LW.below HL1.out hb2); clear hb2; have kc2 : w2.cell? ⟨p, 2, none⟩ = some (.int .i64 b.op) := (blk_cell HI2.out.blk 2).trans rfl; have kf2 := blk_frozen HI2.out.blk 2; have kc3 : w2.cell? ⟨p, 3, none⟩ = some (.bool b.neg) := (blk_cell HI2.out.blk 3).trans rfl; have kf3 := blk_frozen HI2.out.blk 3; have kc4 : w2.cell? ⟨p, 4, none⟩ = some (.string b.whole) := (blk_cell HI2.out.blk 4).trans rfl; have kf4 := blk_frozen HI2.out.blk 4; have kc5 : w2.cell? ⟨p, 5, none⟩ = some (.string b.part) := (blk_cell HI2.out.blk 5).trans rfl; have kf5 := blk_frozen HI2.out.blk 5) | ((with_reducible refine gate_dst (N := 7) rfl ?_); refine box_event ?hg (N := 7) ?hd (cs := #[.int .i64 0, .bool false, .string ⟨#[]⟩, .string ⟨#[]⟩]) (t := 30) ?hr ?_; (case hd => rfl); (case hg => rfl); (case hr => first | (go_simp; done) | (go_simp; rfl)); intro g7 hg w3 hbox hb3; have G7 := Aside0.mk hbox; have HI3a := HI2.out.below hb3; have NE7 : Aside0 (p ≠ g7) := ⟨by rw [hg]; exact Nat.ne_of_lt (blk_lt HI2.out.blk)⟩; have GE7 : Aside0 (w2.heap.size ≤ g7) := ⟨Nat.le_of_eq hg.symm⟩; have HB23 := Aside0.mk hb3; have LE7 : Aside0 (n0 ≤ g7) := ⟨by rw [hg]; exact HN2.out⟩; have HI3b := Aside0.mk HI3a; have HB3 := Aside0.mk (Below.trans HB2.out (hb3.mono HN2.out)); have HN3 := Aside0.mk (Nat.le_trans HN2.out hb3.size); have HL3 := Aside0.mk (LW.below HL2.out hb3); have nb1 := NE7.out; have nb2 := Ne.symm NE7.out; have e70 : w3.cell? ⟨g7, 0, none⟩ = some (.int .i64 0) := (blk_cell hbox 0).trans rfl; have e71 : w3.cell? ⟨g7, 1, none⟩ = some (.bool false) := (blk_cell hbox 1).trans rfl; have e72 : w3.cell? ⟨g7, 2, none⟩ = some (.string ⟨#[]⟩) := (blk_cell hbox 2).trans rfl; have e73 : w3.cell? ⟨g7, 3, none⟩ = some (.string ⟨#[]⟩) := (blk_cell hbox 3).trans rfl; have f70 := blk_frozen hbox 0; have f71 := blk_frozen hbox 1; have f72 := blk_frozen hbox 2; have f73 := blk_frozen hbox 3; clear hg hb3 hbox HI3a kc2 kc3 kc4 kc5 kf2 kf3 kf4 kf5; have kc2 : w3.cell? ⟨p, 2, none⟩ = some (.int .i64 b.op) := (blk_cell HI3b.out.blk 2).trans rfl; have kf2 := blk_frozen HI3b.out.blk 2; have kc3 : w3.cell? ⟨p, 3, none⟩ = some (.bool b.neg) := (blk_cell HI3b.out.blk 3).trans rfl; have kf3 := blk_frozen HI3b.out.blk 3; have kc4 : w3.cell? ⟨p, 4, none⟩ = some (.string b.whole) := (blk_cell HI3b.out.blk 4).trans rfl; have kf4 := blk_frozen HI3b.out.blk 4; have kc5 : w3.cell? ⟨p, 5, none⟩ = some (.string b.part) := (blk_cell HI3b.out.blk 5).trans rfl; have kf5 := blk_frozen HI3b.out.blk 5) | (go_at_call 81; have hW3 := HI3.out w3 g7 G7.out HI3b.out; have hB3w := (((HB3.out.setCell LE7.out (.int .i64 o) (p := ⟨g7, 0, none⟩)).setCell LE7.out (.bool ng) (p := ⟨g7, 1, none⟩)).setCell LE7.out (.string wh) (p := ⟨g7, 2, none⟩)).setCell LE7.out (.string pt) (p := ⟨g7, 3, none⟩); have hL3w := LW.below HL2.out (B23 HB23.out g7 GE7.out o ng wh pt); (with_reducible refine (colour_Elapsed.calls text _ _ _ _ AE.out hL3w).mono ?_); rintro e w4 ⟨rfl, hb4⟩; have HI4 := Aside0.mk (hW3.below hb4); have hs3 : n0 ≤ ((((w3.setCell ⟨g7, 0, none⟩ (.int .i64 o)).setCell ⟨g7, 1, none⟩ (.bool ng)).setCell ⟨g7, 2, none⟩ (.string wh)).setCell ⟨g7, 3, none⟩ (.string pt)).heap.size := (by simp only [setCell_sz]; exact HN3.out); have HB4 := Aside0.mk (Below.trans hB3w (hb4.mono hs3)); have HN4 := Aside0.mk (Nat.le_trans hs3 hb4.size); have HL4 := Aside0.mk (LW.below hL3w hb4); clear hb4 hW3 hB3w hL3w hs3) | (go_at_call 55; (with_reducible refine (add_calls ⟨14, lt, cn⟩ HI4.out HB4.out HN4.out HA.out).mono ?_); rintro e w6 ⟨rfl, hB6, ⟨vi6, hI6⟩, hK6⟩; have HI6 := Aside0.mk hI6; have HB6 := Aside0.mk hB6; clear hB6 hI6 hK6))
        go_ret
        exact ⟨rfl, HB6.out, _, HI6.out⟩
      | false =>
        rw [if_neg (by simp)] at h
        obtain ⟨⟨nm, lg, ok4⟩, a1, h⟩ := Option.bind_eq_some_iff.mp h
        have AM := Aside0.mk a1
        clear a1
        simp only [] at h
        cases ok4 with
        | true =>
          rw [if_pos rfl] at h
          obtain ⟨b2, a1, h⟩ := Option.bind_eq_some_iff.mp h
          have HA := Aside0.mk a1
          clear a1
          simp only [Option.some.injEq, Prod.mk.injEq] at h
          obtain ⟨rfl, rfl⟩ := h
          go_enter Tryz.func86, Tryz.ntmps86
          go_wp2_with (first | (go_at_call 108; (with_reducible refine (colour_Number.calls k text _ _ _ AN.out HL0.out).mono ?_); rintro e w1 ⟨rfl, hb1⟩; have HI1 := Aside0.mk (HI0.out.below hb1); have HB1 := Aside0.mk (Below.trans HB0.out (hb1.mono HN0.out)); have HN1 := Aside0.mk (Nat.le_trans HN0.out hb1.size); have HL1 := Aside0.mk (LW.below HL0.out hb1); clear hb1; have kc1 : w1.cell? ⟨p, 1, none⟩ = some (.int .i64 b.colour) := (blk_cell HI1.out.blk 1).trans rfl; have kf1 := blk_frozen HI1.out.blk 1) | (go_at_call 109; (with_reducible refine (cond_Parse.calls k text _ _ _ _ _ _ AP.out HL1.out).mono ?_); rintro e w2 ⟨rfl, hb2⟩; have HI2 := Aside0.mk (HI1.out.below hb2); have HB2 := Aside0.mk (Below.trans HB1.out (hb2.mono HN1.out)); have HN2 := Aside0.mk (Nat.le_trans HN1.out hb2.size); have HL2 := Aside0.mk (LW.below HL1.out hb2); clear hb2; have kc2 : w2.cell? ⟨p, 2, none⟩ = some (.int .i64 b.op) := (blk_cell HI2.out.blk 2).trans rfl; have kf2 := blk_frozen HI2.out.blk 2; have kc3 : w2.cell? ⟨p, 3, none⟩ = some (.bool b.neg) := (blk_cell HI2.out.blk 3).trans rfl; have kf3 := blk_frozen HI2.out.blk 3; have kc4 : w2.cell? ⟨p, 4, none⟩ = some (.string b.whole) := (blk_cell HI2.out.blk 4).trans rfl; have kf4 := blk_frozen HI2.out.blk 4; have kc5 : w2.cell? ⟨p, 5, none⟩ = some (.string b.part) := (blk_cell HI2.out.blk 5).trans rfl; have kf5 := blk_frozen HI2.out.blk 5) | ((with_reducible refine gate_dst (N := 7) rfl ?_); refine box_event ?hg (N := 7) ?hd (cs := #[.int .i64 0, .bool false, .string ⟨#[]⟩, .string ⟨#[]⟩]) (t := 30) ?hr ?_; (case hd => rfl); (case hg => rfl); (case hr => first | (go_simp; done) | (go_simp; rfl)); intro g7 hg w3 hbox hb3; have G7 := Aside0.mk hbox; have HI3a := HI2.out.below hb3; have NE7 : Aside0 (p ≠ g7) := ⟨by rw [hg]; exact Nat.ne_of_lt (blk_lt HI2.out.blk)⟩; have GE7 : Aside0 (w2.heap.size ≤ g7) := ⟨Nat.le_of_eq hg.symm⟩; have HB23 := Aside0.mk hb3; have LE7 : Aside0 (n0 ≤ g7) := ⟨by rw [hg]; exact HN2.out⟩; have HI3b := Aside0.mk HI3a; have HB3 := Aside0.mk (Below.trans HB2.out (hb3.mono HN2.out)); have HN3 := Aside0.mk (Nat.le_trans HN2.out hb3.size); have HL3 := Aside0.mk (LW.below HL2.out hb3); have nb1 := NE7.out; have nb2 := Ne.symm NE7.out; have e70 : w3.cell? ⟨g7, 0, none⟩ = some (.int .i64 0) := (blk_cell hbox 0).trans rfl; have e71 : w3.cell? ⟨g7, 1, none⟩ = some (.bool false) := (blk_cell hbox 1).trans rfl; have e72 : w3.cell? ⟨g7, 2, none⟩ = some (.string ⟨#[]⟩) := (blk_cell hbox 2).trans rfl; have e73 : w3.cell? ⟨g7, 3, none⟩ = some (.string ⟨#[]⟩) := (blk_cell hbox 3).trans rfl; have f70 := blk_frozen hbox 0; have f71 := blk_frozen hbox 1; have f72 := blk_frozen hbox 2; have f73 := blk_frozen hbox 3; clear hg hb3 hbox HI3a kc2 kc3 kc4 kc5 kf2 kf3 kf4 kf5; have kc2 : w3.cell? ⟨p, 2, none⟩ = some (.int .i64 b.op) := (blk_cell HI3b.out.blk 2).trans rfl; have kf2 := blk_frozen HI3b.out.blk 2; have kc3 : w3.cell? ⟨p, 3, none⟩ = some (.bool b.neg) := (blk_cell HI3b.out.blk 3).trans rfl; have kf3 := blk_frozen HI3b.out.blk 3; have kc4 : w3.cell? ⟨p, 4, none⟩ = some (.string b.whole) := (blk_cell HI3b.out.blk 4).trans rfl; have kf4 := blk_frozen HI3b.out.blk 4; have kc5 : w3.cell? ⟨p, 5, none⟩ = some (.string b.part) := (blk_cell HI3b.out.blk 5).trans rfl; have kf5 := blk_frozen HI3b.out.blk 5) | (go_at_call 81; have hW3 := HI3.out w3 g7 G7.out HI3b.out; have hB3w := (((HB3.out.setCell LE7.out (.int .i64 o) (p := ⟨g7, 0, none⟩)).setCell LE7.out (.bool ng) (p := ⟨g7, 1, none⟩)).setCell LE7.out (.string wh) (p := ⟨g7, 2, none⟩)).setCell LE7.out (.string pt) (p := ⟨g7, 3, none⟩); have hL3w := LW.below HL2.out (B23 HB23.out g7 GE7.out o ng wh pt); (with_reducible refine (colour_Elapsed.calls text _ _ _ _ AE.out hL3w).mono ?_); rintro e w4 ⟨rfl, hb4⟩; have HI4 := Aside0.mk (hW3.below hb4); have hs3 : n0 ≤ ((((w3.setCell ⟨g7, 0, none⟩ (.int .i64 o)).setCell ⟨g7, 1, none⟩ (.bool ng)).setCell ⟨g7, 2, none⟩ (.string wh)).setCell ⟨g7, 3, none⟩ (.string pt)).heap.size := (by simp only [setCell_sz]; exact HN3.out); have HB4 := Aside0.mk (Below.trans hB3w (hb4.mono hs3)); have HN4 := Aside0.mk (Nat.le_trans hs3 hb4.size); have HL4 := Aside0.mk (LW.below hL3w hb4); clear hb4 hW3 hB3w hL3w hs3) | (go_at_call 111; (with_reducible refine (colour_Money.calls text _ _ _ _ AM.out HL4.out).mono ?_); rintro e w5 ⟨rfl, hb5⟩; have HI5 := Aside0.mk (HI4.out.below hb5); have HB5 := Aside0.mk (Below.trans HB4.out (hb5.mono HN4.out)); have HN5 := Aside0.mk (Nat.le_trans HN4.out hb5.size); have HL5 := Aside0.mk (LW.below HL4.out hb5); clear hb5) | (go_at_call 55; (with_reducible refine (add_calls ⟨15, nm, wrap64 lg⟩ HI5.out HB5.out HN5.out HA.out).mono ?_); rintro e w6 ⟨rfl, hB6, ⟨vi6, hI6⟩, hK6⟩; have HI6 := Aside0.mk hI6; have HB6 := Aside0.mk hB6; clear hB6 hI6 hK6))
          go_ret
          exact ⟨rfl, HB6.out, _, HI6.out⟩
        | false =>
          rw [if_neg (by simp)] at h
          simp only [Option.some.injEq, Prod.mk.injEq] at h
          obtain ⟨rfl, rfl⟩ := h
          go_enter Tryz.func86, Tryz.ntmps86
          go_wp2_with (first | (go_at_call 108; (with_reducible refine (colour_Number.calls k text _ _ _ AN.out HL0.out).mono ?_); rintro e w1 ⟨rfl, hb1⟩; have HI1 := Aside0.mk (HI0.out.below hb1); have HB1 := Aside0.mk (Below.trans HB0.out (hb1.mono HN0.out)); have HN1 := Aside0.mk (Nat.le_trans HN0.out hb1.size); have HL1 := Aside0.mk (LW.below HL0.out hb1); clear hb1; have kc1 : w1.cell? ⟨p, 1, none⟩ = some (.int .i64 b.colour) := (blk_cell HI1.out.blk 1).trans rfl; have kf1 := blk_frozen HI1.out.blk 1) | (go_at_call 109; (with_reducible refine (cond_Parse.calls k text _ _ _ _ _ _ AP.out HL1.out).mono ?_); rintro e w2 ⟨rfl, hb2⟩; have HI2 := Aside0.mk (HI1.out.below hb2); have HB2 := Aside0.mk (Below.trans HB1.out (hb2.mono HN1.out)); have HN2 := Aside0.mk (Nat.le_trans HN1.out hb2.size); have HL2 := Aside0.mk (LW.below HL1.out hb2); clear hb2; have kc2 : w2.cell? ⟨p, 2, none⟩ = some (.int .i64 b.op) := (blk_cell HI2.out.blk 2).trans rfl; have kf2 := blk_frozen HI2.out.blk 2; have kc3 : w2.cell? ⟨p, 3, none⟩ = some (.bool b.neg) := (blk_cell HI2.out.blk 3).trans rfl; have kf3 := blk_frozen HI2.out.blk 3; have kc4 : w2.cell? ⟨p, 4, none⟩ = some (.string b.whole) := (blk_cell HI2.out.blk 4).trans rfl; have kf4 := blk_frozen HI2.out.blk 4; have kc5 : w2.cell? ⟨p, 5, none⟩ = some (.string b.part) := (blk_cell HI2.out.blk 5).trans rfl; have kf5 := blk_frozen HI2.out.blk 5) | ((with_reducible refine gate_dst (N := 7) rfl ?_); refine box_event ?hg (N := 7) ?hd (cs := #[.int .i64 0, .bool false, .string ⟨#[]⟩, .string ⟨#[]⟩]) (t := 30) ?hr ?_; (case hd => rfl); (case hg => rfl); (case hr => first | (go_simp; done) | (go_simp; rfl)); intro g7 hg w3 hbox hb3; have G7 := Aside0.mk hbox; have HI3a := HI2.out.below hb3; have NE7 : Aside0 (p ≠ g7) := ⟨by rw [hg]; exact Nat.ne_of_lt (blk_lt HI2.out.blk)⟩; have GE7 : Aside0 (w2.heap.size ≤ g7) := ⟨Nat.le_of_eq hg.symm⟩; have HB23 := Aside0.mk hb3; have LE7 : Aside0 (n0 ≤ g7) := ⟨by rw [hg]; exact HN2.out⟩; have HI3b := Aside0.mk HI3a; have HB3 := Aside0.mk (Below.trans HB2.out (hb3.mono HN2.out)); have HN3 := Aside0.mk (Nat.le_trans HN2.out hb3.size); have HL3 := Aside0.mk (LW.below HL2.out hb3); have nb1 := NE7.out; have nb2 := Ne.symm NE7.out; have e70 : w3.cell? ⟨g7, 0, none⟩ = some (.int .i64 0) := (blk_cell hbox 0).trans rfl; have e71 : w3.cell? ⟨g7, 1, none⟩ = some (.bool false) := (blk_cell hbox 1).trans rfl; have e72 : w3.cell? ⟨g7, 2, none⟩ = some (.string ⟨#[]⟩) := (blk_cell hbox 2).trans rfl; have e73 : w3.cell? ⟨g7, 3, none⟩ = some (.string ⟨#[]⟩) := (blk_cell hbox 3).trans rfl; have f70 := blk_frozen hbox 0; have f71 := blk_frozen hbox 1; have f72 := blk_frozen hbox 2; have f73 := blk_frozen hbox 3; clear hg hb3 hbox HI3a kc2 kc3 kc4 kc5 kf2 kf3 kf4 kf5; have kc2 : w3.cell? ⟨p, 2, none⟩ = some (.int .i64 b.op) := (blk_cell HI3b.out.blk 2).trans rfl; have kf2 := blk_frozen HI3b.out.blk 2; have kc3 : w3.cell? ⟨p, 3, none⟩ = some (.bool b.neg) := (blk_cell HI3b.out.blk 3).trans rfl; have kf3 := blk_frozen HI3b.out.blk 3; have kc4 : w3.cell? ⟨p, 4, none⟩ = some (.string b.whole) := (blk_cell HI3b.out.blk 4).trans rfl; have kf4 := blk_frozen HI3b.out.blk 4; have kc5 : w3.cell? ⟨p, 5, none⟩ = some (.string b.part) := (blk_cell HI3b.out.blk 5).trans rfl; have kf5 := blk_frozen HI3b.out.blk 5) | (go_at_call 81; have hW3 := HI3.out w3 g7 G7.out HI3b.out; have hB3w := (((HB3.out.setCell LE7.out (.int .i64 o) (p := ⟨g7, 0, none⟩)).setCell LE7.out (.bool ng) (p := ⟨g7, 1, none⟩)).setCell LE7.out (.string wh) (p := ⟨g7, 2, none⟩)).setCell LE7.out (.string pt) (p := ⟨g7, 3, none⟩); have hL3w := LW.below HL2.out (B23 HB23.out g7 GE7.out o ng wh pt); (with_reducible refine (colour_Elapsed.calls text _ _ _ _ AE.out hL3w).mono ?_); rintro e w4 ⟨rfl, hb4⟩; have HI4 := Aside0.mk (hW3.below hb4); have hs3 : n0 ≤ ((((w3.setCell ⟨g7, 0, none⟩ (.int .i64 o)).setCell ⟨g7, 1, none⟩ (.bool ng)).setCell ⟨g7, 2, none⟩ (.string wh)).setCell ⟨g7, 3, none⟩ (.string pt)).heap.size := (by simp only [setCell_sz]; exact HN3.out); have HB4 := Aside0.mk (Below.trans hB3w (hb4.mono hs3)); have HN4 := Aside0.mk (Nat.le_trans hs3 hb4.size); have HL4 := Aside0.mk (LW.below hL3w hb4); clear hb4 hW3 hB3w hL3w hs3) | (go_at_call 111; (with_reducible refine (colour_Money.calls text _ _ _ _ AM.out HL4.out).mono ?_); rintro e w5 ⟨rfl, hb5⟩; have HI5 := Aside0.mk (HI4.out.below hb5); have HB5 := Aside0.mk (Below.trans HB4.out (hb5.mono HN4.out)); have HN5 := Aside0.mk (Nat.le_trans HN4.out hb5.size); have HL5 := Aside0.mk (LW.below HL4.out hb5); clear hb5))
          go_ret
          exact ⟨rfl, HB5.out, _, HI5.out⟩
end Go.Proofs.YtiidpicgdjjikaaGreatDoor.G

