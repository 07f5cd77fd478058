import Derived.Test.YtiidpicgdjjikaaGreatDoorJ34
import Derived.Test.YtiidpicgdjjikaaGreatDoorJ35
import Derived.Test.YtiidpicgdjjikaaGreatDoorJ38
namespace Go.Proofs.YtiidpicgdjjikaaGreatDoor.G
open Go.RowKit Go.Lib Go.Maps Go.ChangeMaps Go.MapKept Go.Proofs Go.Proofs.YtiidpicgdjjikaaGreatDoor.P Go.Proofs.YtiidpicgdjjikaaGreatDoorW.PrintWords Go.Proofs.YtiidpicgdjjikaaGreatDoorW.PrintLast Go.Proofs.YtiidpicgdjjikaaGreatDoorW.PrintMore
set_option linter.unusedVariables false
set_option linter.unusedSimpArgs false
attribute [local go_sem] isSome_setCell_eq run_makeMap_none
theorem cell_drew_it (w : World) (a : Addr) : w.drew.cell? a = w.cell? a := rfl
theorem blk_drew_it (w : World) (g : Nat) : w.drew.heap[g]? = w.heap[g]? := rfl
abbrev OfR := Int × Int × Int × Bool × ByteArray × ByteArray × List S55 × Int × Int
def ofL (k : Nat) (l : List S53) : Nat → BSt → Option OfR
  | 0, _ => none
  | f + 1, b => if 0 ≤ b.pos then (if b.pos < l.length then (tokenF k l b).bind fun r => if r.2.1 = 0 then ofL k l f { r.2.2 with pos := wrap64 (r.2.2.pos + r.1) } else some (0, 0, 0, false, ⟨#[]⟩, ⟨#[]⟩, [], r.2.2.pos, r.2.1)
      else some (b.sort, b.colour, b.op, b.neg, b.whole, b.part, minL ⟨#[]⟩ b.items, l.length, 0)) else none
def item_Of.f (k : Nat) (l : List S53) : Option OfR := (sortF k l).bind fun s => ofL k l k ⟨s, 0, 0, false, ⟨#[]⟩, ⟨#[]⟩, [], 0, 0, []⟩
set_option maxHeartbeats 400000 in
set_option maxRecDepth 1000000 in
theorem item_Of.calls (k : Nat) (A0 : Option Addr) (c0 : Nat) (l0 : List S53) (r1 r2 r3 : Int) (r4 : Bool) (r5 r6 : ByteArray) (r7 : List S55) (r8 r9 : Int) (w : World) (hr0 : Kd.C k53 w A0 l0.length l0) (hc0 : l0.length ≤ c0) (h : item_Of.f k l0 = some (r1, r2, r3, r4, r5, r6, r7, r8, r9)) (HLW_ : LW w) :
    Calls Tryz.prog 12 #[.slice A0 l0.length c0] w fun e w' => ∃ v0_ : Value, e = .returned (.tuple #[.agg #[.int .i64 r1, .int .i64 r2, .int .i64 r3, .bool r4, .string r5, .string r6, v0_], .int .i64 r8, .int .i64 r9]) ∧ Kd.R k55 55 w' w.heap.size (fun _ => True) v0_ r7 ∧ Below w.heap.size w w' := by
  obtain ⟨s, a1, h⟩ := Option.bind_eq_some_iff.mp h
  have AS := Aside0.mk a1
  have H := Aside0.mk h
  have HC := Aside0.mk hr0
  have HCc := Aside0.mk hc0
  have HL := Aside0.mk HLW_
  clear a1 h hr0 hc0 HLW_
  have hu1 := Tryz.underlying79
  have hu2 := Tryz.underlying33
  go_enter Tryz.func12, Tryz.ntmps12
  go_wp2_with (first
    | ((with_reducible refine gate_dst (N := 2) rfl ?_); refine box_event ?hg (N := 2) ?hd (cs := #[.int .i64 0, .int .i64 0, .int .i64 0, .bool false, .string ⟨#[]⟩, .string ⟨#[]⟩, .slice none 0 0]) (t := 33) ?hr ?_; (case hd => rfl); (case hg => rfl); (case hr => first | (go_simp; done) | (go_simp; rfl)); intro g2 hg w1 hbox hb; have G2 := Aside0.mk (Nat.le_of_eq hg.symm); have K2 := Aside0.mk hbox; have HB1 := Aside0.mk hb; have hM1 := IMap.fresh w1 .i64; have hB1a := below_alloc (Below.refl w1.heap.size w1) (.map #[] 0); clear hg hbox hb)
    | ((with_reducible refine gate_dst (N := 11) rfl ?_); refine box_event ?hg (N := 11) ?hd (cs := bcs ⟨0, 0, 0, false, ⟨#[]⟩, ⟨#[]⟩, [], 0, 0, []⟩ (.slice none 0 0) (.slice A0 l0.length c0) w1.heap.size) (t := 79) ?hr ?_; (case hd => rfl); (case hg => rfl); (case hr => first | (go_simp; done) | (go_simp; rfl)); intro p hg w2 hbox hb; have KP := Aside0.mk hbox; have GP := Aside0.mk (Nat.le_of_eq hg.symm); have HB2 := Aside0.mk (hB1a.trans (hb.mono hB1a.size)); have HM2 := Aside0.mk (IMap.below hM1 hb); clear hg hbox hb hM1 hB1a)
    | (go_at_call 26; (with_reducible refine (sort_calls k A0 c0 l0 s _ (Kd.C_below HC.out (HB1.out.trans (HB2.out.mono HB1.out.size))) AS.out (LW.below HL.out (HB1.out.trans (HB2.out.mono HB1.out.size)))).mono ?_); rintro e w3 ⟨rfl, hb3⟩; have HB3 := Aside0.mk hb3; have KP3 := Aside0.mk ((hb3.block p (blk_lt KP.out)).trans KP.out); have c30 : w3.cell? ⟨p, 0, none⟩ = some (.int .i64 0) := (blk_cell KP3.out 0).trans rfl; have f30 := blk_frozen KP3.out 0; clear hb3))
  have n1 : w.heap.size ≤ w1.heap.size := HB1.out.size
  have hm1 : w1.heap.size ≤ p := Nat.le_trans (below_alloc (Below.refl w1.heap.size w1) (.map #[] 0)).size GP.out
  have b3 : Below w1.heap.size w1 w3 := HB2.out.trans (HB3.out.mono HB2.out.size)
  have i3 : BInv w1.heap.size w3 p w1.heap.size (.slice none 0 0) (.slice A0 l0.length c0) ⟨0, 0, 0, false, ⟨#[]⟩, ⟨#[]⟩, [], 0, 0, []⟩ := ⟨KP3.out, Kd.R_nil _ _ _ _ _, HM2.out.below HB3.out, hm1, Nat.le_refl _⟩
  have HI4 := Aside0.mk (i3.set 0 (.int .i64 s) (b' := ⟨s, 0, 0, false, ⟨#[]⟩, ⟨#[]⟩, [], 0, 0, []⟩) rfl i3.row rfl)
  have HB4 := Aside0.mk (Below.setCell (p := ⟨p, 0, none⟩) b3 hm1 (.int .i64 s))
  have HL1 := Aside0.mk (LW.below HL.out HB1.out)
  have HC1 := Aside0.mk (Kd.C_below HC.out HB1.out)
  have N1 := Aside0.mk n1
  have LG := Aside0.mk (blk_lt K2.out)
  clear n1 hm1 b3 i3 KP KP3 HB2 HB3 HM2 GP c30 f30
  go_loopg [] k (fun f wx => ∃ (b : BSt) (vi : Value), Aside0 (ofL k l0 f b = some (r1, r2, r3, r4, r5, r6, r7, r8, r9)) ∧ Aside0 (BInv w1.heap.size wx p w1.heap.size vi (.slice A0 l0.length c0) b) ∧ Aside0 (Below w1.heap.size w1 wx))
  case atStart => exact ⟨_, _, H, HI4, HB4⟩
  case round =>
    clear H HI4 HB4
    obtain ⟨b, vi, HF, HI, HB⟩ := hrel
    cases gk with
    | zero => exact absurd HF.out (by simp [ofL])
    | succ f =>
      have h := HF.out
      simp only [ofL] at h
      have k8 : wr.cell? ⟨p, 8, none⟩ = some (.int .i64 b.pos) := (blk_cell HI.out.blk 8).trans rfl
      by_cases h0 : 0 ≤ b.pos
      · rw [if_pos h0] at h
        by_cases h1 : b.pos < l0.length
        · rw [if_pos h1] at h
          obtain ⟨⟨n, e, b2⟩, a1, h⟩ := Option.bind_eq_some_iff.mp h
          have HT := Aside0.mk a1
          have H0 := Aside0.mk h0
          have H1 := Aside0.mk h1
          have d1 : decide (b.pos < (l0.length : Int)) = true := decide_eq_true h1
          simp only [] at h
          clear a1 h0 h1
          by_cases e0 : e = 0
          · rw [if_pos e0] at h
            have HF2 := Aside0.mk h
            have de : (e != 0) = false := by rw [e0]; rfl
            clear h e0
            go_wp2_with (first | (go_at_call 27; (with_reducible refine (token_calls k HI.out HB.out HB.out.size (Kd.C_below HC1.out HB.out) HCc.out H0.out H1.out HT.out rfl HL1.out).mono ?_); rintro e5 w5 ⟨rfl, hB5, vi4, hI5⟩; have HI5 := Aside0.mk hI5; have HB5 := Aside0.mk hB5; have m8 : w5.cell? ⟨p, 8, none⟩ = some (.int .i64 b2.pos) := (blk_cell hI5.blk 8).trans rfl; have mf8 := blk_frozen hI5.blk 8; clear hB5 hI5 k8))
            go_roundg f
            case measure => omega
            case rel => exact ⟨{ b2 with pos := wrap64 (b2.pos + n) }, vi4, HF2, ⟨HI5.out.set 8 (.int .i64 (wrap64 (b2.pos + n))) rfl HI5.out.row rfl⟩, ⟨Below.setCell HB5.out HI5.out.hp _⟩⟩
          · rw [if_neg e0] at h
            simp only [Option.some.injEq, Prod.mk.injEq] at h
            obtain ⟨rfl, rfl, rfl, rfl, rfl, rfl, rfl, rfl, rfl⟩ := h
            have de : (e != 0) = true := bne_iff_ne.mpr e0
            clear e0
            go_wp2_with (first | (go_at_call 27; (with_reducible refine (token_calls k HI.out HB.out HB.out.size (Kd.C_below HC1.out HB.out) HCc.out H0.out H1.out HT.out rfl HL1.out).mono ?_); rintro e5 w5 ⟨rfl, hB5, vi4, hI5⟩; have HI5 := Aside0.mk hI5; have HB5 := Aside0.mk hB5; have m8 : w5.cell? ⟨p, 8, none⟩ = some (.int .i64 b2.pos) := (blk_cell hI5.blk 8).trans rfl; have mf8 := blk_frozen hI5.blk 8; clear hB5 hI5 k8))
            have K25 : w5.heap[g2]? = some (.cells #[.int .i64 0, .int .i64 0, .int .i64 0, .bool false, .string ⟨#[]⟩, .string ⟨#[]⟩, .slice none 0 0] 33 (0, 0)) := (HB5.out.block g2 LG.out).trans K2.out
            have c20 : w5.cell? ⟨g2, 0, none⟩ = some (.int .i64 0) := (blk_cell K25 0).trans rfl
            have f20 := blk_frozen K25 0
            have c21 : w5.cell? ⟨g2, 1, none⟩ = some (.int .i64 0) := (blk_cell K25 1).trans rfl
            have f21 := blk_frozen K25 1
            have c22 : w5.cell? ⟨g2, 2, none⟩ = some (.int .i64 0) := (blk_cell K25 2).trans rfl
            have f22 := blk_frozen K25 2
            have c23 : w5.cell? ⟨g2, 3, none⟩ = some (.bool false) := (blk_cell K25 3).trans rfl
            have f23 := blk_frozen K25 3
            have c24 : w5.cell? ⟨g2, 4, none⟩ = some (.string ⟨#[]⟩) := (blk_cell K25 4).trans rfl
            have f24 := blk_frozen K25 4
            have c25 : w5.cell? ⟨g2, 5, none⟩ = some (.string ⟨#[]⟩) := (blk_cell K25 5).trans rfl
            have f25 := blk_frozen K25 5
            have c26 : w5.cell? ⟨g2, 6, none⟩ = some (.slice none 0 0) := (blk_cell K25 6).trans rfl
            have f26 := blk_frozen K25 6
            have np1 : p ≠ g2 := blk_ne HI5.out.blk K25 (by decide)
            have np2 := Ne.symm np1
            have K2A := Aside0.mk K25
            clear K25
            have hb0 : w5.drew.heap[p]? = _ := HI5.out.blk
            have hk0 : w5.drew.cell? ⟨p, 8, none⟩ = some (.int .i64 b2.pos) := (blk_cell hb0 8).trans rfl
            have HK0 := Aside0.mk hk0
            have hk7 : ((((((((w5.setCell ⟨g2, 0, none⟩ (.int .i64 0)).setCell ⟨g2, 1, none⟩ (.int .i64 0)).setCell ⟨g2, 2, none⟩ (.int .i64 0)).setCell ⟨g2, 3, none⟩ (.bool false)).setCell ⟨g2, 4, none⟩ (.string ⟨#[]⟩)).setCell ⟨g2, 5, none⟩ (.string ⟨#[]⟩)).setCell ⟨g2, 6, none⟩ (.slice none 0 0))).drew.cell? ⟨p, 8, none⟩ = some (.int .i64 b2.pos) := (cell_drew_it _ _).trans ((blk_cell (blk_far (blk_far (blk_far (blk_far (blk_far (blk_far (blk_far HI5.out.blk np1 (.int .i64 0)) np1 (.int .i64 0)) np1 (.int .i64 0)) np1 (.bool false)) np1 (.string ⟨#[]⟩)) np1 (.string ⟨#[]⟩)) np1 (.slice none 0 0)) 8).trans rfl)
            have HK7 := Aside0.mk hk7
            clear hb0 hk0 hk7 d1 de
            go_region_held3 (fun w' => w'.cell? ⟨p, 8, none⟩ = some (.int .i64 b2.pos)) (first | with_reducible exact HK0.out | with_reducible exact HK7.out) (first | fail)
            all_goals go_wp2
            all_goals (refine bodyPost_ret (results_list (rs := [.cell 2 33, .tmp 3, .tmp 4]) rfl (by simp) (.cell g2 33 #[.int .i64 0, .int .i64 0, .int .i64 0, .bool false, .string ⟨#[]⟩, .string ⟨#[]⟩, .slice none 0 0] (0, 0) _ rfl ((blk_drew_it _ _).trans (blk_put (cs := #[.int .i64 0, .int .i64 0, .int .i64 0, .bool false, .string ⟨#[]⟩, .string ⟨#[]⟩, .slice none 0 0]) (blk_put (cs := #[.int .i64 0, .int .i64 0, .int .i64 0, .bool false, .string ⟨#[]⟩, .string ⟨#[]⟩, .slice none 0 0]) (blk_put (cs := #[.int .i64 0, .int .i64 0, .int .i64 0, .bool false, .string ⟨#[]⟩, .string ⟨#[]⟩, .slice none 0 0]) (blk_put (cs := #[.int .i64 0, .int .i64 0, .int .i64 0, .bool false, .string ⟨#[]⟩, .string ⟨#[]⟩, .slice none 0 0]) (blk_put (cs := #[.int .i64 0, .int .i64 0, .int .i64 0, .bool false, .string ⟨#[]⟩, .string ⟨#[]⟩, .slice none 0 0]) (blk_put (cs := #[.int .i64 0, .int .i64 0, .int .i64 0, .bool false, .string ⟨#[]⟩, .string ⟨#[]⟩, .slice none 0 0]) (blk_put (cs := #[.int .i64 0, .int .i64 0, .int .i64 0, .bool false, .string ⟨#[]⟩, .string ⟨#[]⟩, .slice none 0 0]) K2A.out 0 (.int .i64 0) rfl) 1 (.int .i64 0) rfl) 2 (.int .i64 0) rfl) 3 (.bool false) rfl) 4 (.string ⟨#[]⟩) rfl) 5 (.string ⟨#[]⟩) rfl) 6 (.slice none 0 0) rfl)) Tryz.underlying33 rfl (by kernel_rfl) (.tmp (.tmp .nil)))) rfl ?_)
            all_goals exact ⟨.slice none 0 0, rfl, Kd.R_nil _ _ _ _ _, (below_set (below_set (below_set (below_set (below_set (below_set (below_set (HB1.out.trans (HB5.out.mono N1.out)) G2.out) G2.out) G2.out) G2.out) G2.out) G2.out) G2.out).drew⟩
        · rw [if_neg h1] at h
          simp only [Option.some.injEq, Prod.mk.injEq] at h
          obtain ⟨rfl, rfl, rfl, rfl, rfl, rfl, rfl, rfl, rfl⟩ := h
          have d1 : decide (b.pos < (l0.length : Int)) = false := decide_eq_false h1
          obtain ⟨Ai, ci, rfl⟩ := Kd.R_slice HI.out.row
          have k6 : wr.cell? ⟨p, 6, none⟩ = some (.slice Ai b.items.length ci) := (blk_cell HI.out.blk 6).trans rfl
          clear h1 h0
          go_wp2_with (first | (go_at_call 28; (with_reducible refine (minutes_calls (.slice Ai b.items.length ci) b.items HI.out.row HB.out HB.out.size).mono ?_); rintro e w5 ⟨rfl, hB5, hR5, hO5⟩; have HB5 := Aside0.mk hB5; have HR5 := Aside0.mk hR5; have KP5 := Aside0.mk ((hO5.2 p (blk_lt HI.out.blk) (Kd.R_ne HI.out.row HI.out.blk (by decide))).trans HI.out.blk); have K25 : w5.heap[g2]? = some (.cells #[.int .i64 0, .int .i64 0, .int .i64 0, .bool false, .string ⟨#[]⟩, .string ⟨#[]⟩, .slice none 0 0] 33 (0, 0)) := (hB5.block g2 LG.out).trans K2.out; have K2A := Aside0.mk K25; have p0 : w5.cell? ⟨p, 0, none⟩ = some (.int .i64 b.sort) := (blk_cell KP5.out 0).trans rfl; have p1 : w5.cell? ⟨p, 1, none⟩ = some (.int .i64 b.colour) := (blk_cell KP5.out 1).trans rfl; have p2 : w5.cell? ⟨p, 2, none⟩ = some (.int .i64 b.op) := (blk_cell KP5.out 2).trans rfl; have p3 : w5.cell? ⟨p, 3, none⟩ = some (.bool b.neg) := (blk_cell KP5.out 3).trans rfl; have p4 : w5.cell? ⟨p, 4, none⟩ = some (.string b.whole) := (blk_cell KP5.out 4).trans rfl; have p5 : w5.cell? ⟨p, 5, none⟩ = some (.string b.part) := (blk_cell KP5.out 5).trans rfl; have p6 : w5.cell? ⟨p, 6, none⟩ = some (.slice Ai b.items.length ci) := (blk_cell KP5.out 6).trans rfl; have c20 : w5.cell? ⟨g2, 0, none⟩ = some (.int .i64 0) := (blk_cell K25 0).trans rfl; have f20 := blk_frozen K25 0; have c21 : w5.cell? ⟨g2, 1, none⟩ = some (.int .i64 0) := (blk_cell K25 1).trans rfl; have f21 := blk_frozen K25 1; have c22 : w5.cell? ⟨g2, 2, none⟩ = some (.int .i64 0) := (blk_cell K25 2).trans rfl; have f22 := blk_frozen K25 2; have c23 : w5.cell? ⟨g2, 3, none⟩ = some (.bool false) := (blk_cell K25 3).trans rfl; have f23 := blk_frozen K25 3; have c24 : w5.cell? ⟨g2, 4, none⟩ = some (.string ⟨#[]⟩) := (blk_cell K25 4).trans rfl; have f24 := blk_frozen K25 4; have c25 : w5.cell? ⟨g2, 5, none⟩ = some (.string ⟨#[]⟩) := (blk_cell K25 5).trans rfl; have f25 := blk_frozen K25 5; have c26 : w5.cell? ⟨g2, 6, none⟩ = some (.slice none 0 0) := (blk_cell K25 6).trans rfl; have f26 := blk_frozen K25 6; have np1 : p ≠ g2 := blk_ne KP5.out K25 (by decide); have np2 := Ne.symm np1; clear hB5 hR5 hO5 K25 k6 k8))
          refine bodyPost_ret (results_list (rs := [.cell 2 33, .tmp 3, .tmp 4]) rfl (by simp) (.cell g2 33 #[.int .i64 b.sort, .int .i64 b.colour, .int .i64 b.op, .bool b.neg, .string b.whole, .string b.part, .slice Ai b.items.length ci] (0, 0) _ rfl (blk_put (cs := #[.int .i64 b.sort, .int .i64 b.colour, .int .i64 b.op, .bool b.neg, .string b.whole, .string b.part, .slice none 0 0]) (blk_put (cs := #[.int .i64 b.sort, .int .i64 b.colour, .int .i64 b.op, .bool b.neg, .string b.whole, .string ⟨#[]⟩, .slice none 0 0]) (blk_put (cs := #[.int .i64 b.sort, .int .i64 b.colour, .int .i64 b.op, .bool b.neg, .string ⟨#[]⟩, .string ⟨#[]⟩, .slice none 0 0]) (blk_put (cs := #[.int .i64 b.sort, .int .i64 b.colour, .int .i64 b.op, .bool false, .string ⟨#[]⟩, .string ⟨#[]⟩, .slice none 0 0]) (blk_put (cs := #[.int .i64 b.sort, .int .i64 b.colour, .int .i64 0, .bool false, .string ⟨#[]⟩, .string ⟨#[]⟩, .slice none 0 0]) (blk_put (cs := #[.int .i64 b.sort, .int .i64 0, .int .i64 0, .bool false, .string ⟨#[]⟩, .string ⟨#[]⟩, .slice none 0 0]) (blk_put (cs := #[.int .i64 0, .int .i64 0, .int .i64 0, .bool false, .string ⟨#[]⟩, .string ⟨#[]⟩, .slice none 0 0]) K2A.out 0 (.int .i64 b.sort) rfl) 1 (.int .i64 b.colour) rfl) 2 (.int .i64 b.op) rfl) 3 (.bool b.neg) rfl) 4 (.string b.whole) rfl) 5 (.string b.part) rfl) 6 (.slice Ai b.items.length ci) rfl) Tryz.underlying33 rfl (by kernel_rfl) (.tmp (.tmp .nil)))) rfl ?_
          exact ⟨.slice Ai b.items.length ci, rfl, Kd.R_lower (Kd.R_set (Kd.R_set (Kd.R_set (Kd.R_set (Kd.R_set (Kd.R_set (Kd.R_set HR5.out K2A.out (by decide) 0 (.int .i64 b.sort)) (blk_put (cs := #[.int .i64 0, .int .i64 0, .int .i64 0, .bool false, .string ⟨#[]⟩, .string ⟨#[]⟩, .slice none 0 0]) K2A.out 0 (.int .i64 b.sort) rfl) (by decide) 1 (.int .i64 b.colour)) (blk_put (cs := #[.int .i64 b.sort, .int .i64 0, .int .i64 0, .bool false, .string ⟨#[]⟩, .string ⟨#[]⟩, .slice none 0 0]) (blk_put (cs := #[.int .i64 0, .int .i64 0, .int .i64 0, .bool false, .string ⟨#[]⟩, .string ⟨#[]⟩, .slice none 0 0]) K2A.out 0 (.int .i64 b.sort) rfl) 1 (.int .i64 b.colour) rfl) (by decide) 2 (.int .i64 b.op)) (blk_put (cs := #[.int .i64 b.sort, .int .i64 b.colour, .int .i64 0, .bool false, .string ⟨#[]⟩, .string ⟨#[]⟩, .slice none 0 0]) (blk_put (cs := #[.int .i64 b.sort, .int .i64 0, .int .i64 0, .bool false, .string ⟨#[]⟩, .string ⟨#[]⟩, .slice none 0 0]) (blk_put (cs := #[.int .i64 0, .int .i64 0, .int .i64 0, .bool false, .string ⟨#[]⟩, .string ⟨#[]⟩, .slice none 0 0]) K2A.out 0 (.int .i64 b.sort) rfl) 1 (.int .i64 b.colour) rfl) 2 (.int .i64 b.op) rfl) (by decide) 3 (.bool b.neg)) (blk_put (cs := #[.int .i64 b.sort, .int .i64 b.colour, .int .i64 b.op, .bool false, .string ⟨#[]⟩, .string ⟨#[]⟩, .slice none 0 0]) (blk_put (cs := #[.int .i64 b.sort, .int .i64 b.colour, .int .i64 0, .bool false, .string ⟨#[]⟩, .string ⟨#[]⟩, .slice none 0 0]) (blk_put (cs := #[.int .i64 b.sort, .int .i64 0, .int .i64 0, .bool false, .string ⟨#[]⟩, .string ⟨#[]⟩, .slice none 0 0]) (blk_put (cs := #[.int .i64 0, .int .i64 0, .int .i64 0, .bool false, .string ⟨#[]⟩, .string ⟨#[]⟩, .slice none 0 0]) K2A.out 0 (.int .i64 b.sort) rfl) 1 (.int .i64 b.colour) rfl) 2 (.int .i64 b.op) rfl) 3 (.bool b.neg) rfl) (by decide) 4 (.string b.whole)) (blk_put (cs := #[.int .i64 b.sort, .int .i64 b.colour, .int .i64 b.op, .bool b.neg, .string ⟨#[]⟩, .string ⟨#[]⟩, .slice none 0 0]) (blk_put (cs := #[.int .i64 b.sort, .int .i64 b.colour, .int .i64 b.op, .bool false, .string ⟨#[]⟩, .string ⟨#[]⟩, .slice none 0 0]) (blk_put (cs := #[.int .i64 b.sort, .int .i64 b.colour, .int .i64 0, .bool false, .string ⟨#[]⟩, .string ⟨#[]⟩, .slice none 0 0]) (blk_put (cs := #[.int .i64 b.sort, .int .i64 0, .int .i64 0, .bool false, .string ⟨#[]⟩, .string ⟨#[]⟩, .slice none 0 0]) (blk_put (cs := #[.int .i64 0, .int .i64 0, .int .i64 0, .bool false, .string ⟨#[]⟩, .string ⟨#[]⟩, .slice none 0 0]) K2A.out 0 (.int .i64 b.sort) rfl) 1 (.int .i64 b.colour) rfl) 2 (.int .i64 b.op) rfl) 3 (.bool b.neg) rfl) 4 (.string b.whole) rfl) (by decide) 5 (.string b.part)) (blk_put (cs := #[.int .i64 b.sort, .int .i64 b.colour, .int .i64 b.op, .bool b.neg, .string b.whole, .string ⟨#[]⟩, .slice none 0 0]) (blk_put (cs := #[.int .i64 b.sort, .int .i64 b.colour, .int .i64 b.op, .bool b.neg, .string ⟨#[]⟩, .string ⟨#[]⟩, .slice none 0 0]) (blk_put (cs := #[.int .i64 b.sort, .int .i64 b.colour, .int .i64 b.op, .bool false, .string ⟨#[]⟩, .string ⟨#[]⟩, .slice none 0 0]) (blk_put (cs := #[.int .i64 b.sort, .int .i64 b.colour, .int .i64 0, .bool false, .string ⟨#[]⟩, .string ⟨#[]⟩, .slice none 0 0]) (blk_put (cs := #[.int .i64 b.sort, .int .i64 0, .int .i64 0, .bool false, .string ⟨#[]⟩, .string ⟨#[]⟩, .slice none 0 0]) (blk_put (cs := #[.int .i64 0, .int .i64 0, .int .i64 0, .bool false, .string ⟨#[]⟩, .string ⟨#[]⟩, .slice none 0 0]) K2A.out 0 (.int .i64 b.sort) rfl) 1 (.int .i64 b.colour) rfl) 2 (.int .i64 b.op) rfl) 3 (.bool b.neg) rfl) 4 (.string b.whole) rfl) 5 (.string b.part) rfl) (by decide) 6 (.slice Ai b.items.length ci)) N1.out, (below_set (below_set (below_set (below_set (below_set (below_set (below_set (HB1.out.trans (HB5.out.mono N1.out)) G2.out) G2.out) G2.out) G2.out) G2.out) G2.out) G2.out)⟩
      · rw [if_neg h0] at h
        cases h
end Go.Proofs.YtiidpicgdjjikaaGreatDoor.G
