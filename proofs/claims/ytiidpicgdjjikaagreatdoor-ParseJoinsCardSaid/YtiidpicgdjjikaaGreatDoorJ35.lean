import Derived.Test.YtiidpicgdjjikaaGreatDoorJ4
import Derived.Test.YtiidpicgdjjikaaGreatDoorJ11
import Derived.Test.YtiidpicgdjjikaaGreatDoorJ33
namespace Go.Proofs.YtiidpicgdjjikaaGreatDoor.G
open Go.RowKit Go.Lib Go.Maps Go.ChangeMaps Go.MapKept Go.Proofs Go.Proofs.YtiidpicgdjjikaaGreatDoor.P Go.Proofs.YtiidpicgdjjikaaGreatDoorW.PrintWords Go.Proofs.YtiidpicgdjjikaaGreatDoorW.PrintLast Go.Proofs.YtiidpicgdjjikaaGreatDoorW.PrintMore
set_option linter.unusedVariables false
set_option linter.unusedSimpArgs false
attribute [local go_sem] isSome_setCell_eq
def bA (h : List Bool) : Array Value := (h.map Value.bool).toArray
def sortL (k : Nat) : List S53 → List Bool → Bool → Bool → Option (List Bool × Bool × Bool)
  | [], h, sl, po => some (h, sl, po)
  | t :: l, h, sl, po => (item_sorts.f k t.f0 t.f1 t.f2 t.f3).bind fun s => if 0 ≤ s ∧ s < 8 then sortL k l (h.set s.toNat true) (sl || t.f0 == 10) (po || t.f0 == 13) else none
def sortR (h : List Bool) (sl po : Bool) : Int :=
  if h.getD 5 false = true then 5 else if h.getD 6 false = true then 6 else if h.getD 7 false = true then 7 else if h.getD 2 false = true then (if sl = true then 4 else if po = true then 3 else 2) else 1
def sortF (k : Nat) (l : List S53) : Option Int := (sortL k l (List.replicate 8 false) false false).bind fun x => some (sortR x.1 x.2.1 x.2.2)
theorem bA_cell {w : World} {g : Nat} {h : List Bool} {t : TypeId} (hk : w.heap[g]? = some (.cells (bA h) t (0, 0))) (i : Nat) (hi : i < h.length) : w.cell? ⟨g, i, none⟩ = some (.bool (h.getD i false)) := by
  rw [blk_cell hk i]
  simp [bA, List.getD_eq_getElem?_getD, List.getElem?_eq_getElem hi]
theorem bA_set (h : List Bool) (i : Nat) : (bA h).setIfInBounds i (.bool true) = bA (h.set i true) := by
  apply Array.ext'
  simp [bA, List.map_set]
set_option maxHeartbeats 8000000 in
set_option maxRecDepth 1000000 in
theorem sort_calls (k : Nat) (A : Option Addr) (c : Nat) (l : List S53) (r : Int) (w : World) (hC : Kd.C k53 w A l.length l) (h : sortF k l = some r) (HLW_ : LW w) :
    Calls Tryz.prog 26 #[.slice A l.length c] w fun e w' => e = .returned (.int .i64 r) ∧ Below w.heap.size w w' := by
  have hmx := Kd.C_max hC
  have HC := Aside0.mk hC
  have HL := Aside0.mk HLW_
  have HM := Aside0.mk hmx
  obtain ⟨⟨hf, sf, pf⟩, h2, h3⟩ := Option.bind_eq_some_iff.mp h
  have HR : Aside0 (sortR hf sf pf = r) := ⟨Option.some.inj h3⟩
  have H2 := Aside0.mk h2
  clear hC HLW_ hmx h h2 h3
  go_enter Tryz.func26, Tryz.ntmps26
  go_wp2_with (first
    | ((with_reducible refine gate_dst (N := 3) rfl ?_); refine box_event ?hg (N := 3) ?hd (cs := #[.bool false, .bool false, .bool false, .bool false, .bool false, .bool false, .bool false, .bool false]) (t := 121) ?hr ?_; (case hd => rfl); (case hg => rfl); (case hr => first | (go_simp; done) | (go_simp; rfl)); intro g3 hg w1 hbox hb; have G3 := Aside0.mk (Nat.le_of_eq hg.symm); have K3 := Aside0.mk hbox; have HB1 := Aside0.mk hb; clear hg hbox hb))
  go_loopg [4, 5, 10] l.length (fun g v4 v5 v10 wx => ∃ (i : Nat) (h : List Bool) (sl po : Bool), v4 = .bool sl ∧ v5 = .bool po ∧ v10 = .int .i64 (i : Int) ∧ Aside0 (i + g = l.length) ∧ Aside0 (h.length = 8) ∧ Aside0 (sortL k (l.drop i) h sl po = some (hf, sf, pf)) ∧ Aside0 (wx.heap[g3]? = some (.cells (bA h) 121 (0, 0))) ∧ Aside0 (Below w.heap.size w wx))
  case atStart => exact ⟨0, List.replicate 8 false, false, false, rfl, rfl, rfl, ⟨Nat.zero_add _⟩, ⟨rfl⟩, H2, K3, HB1⟩
  case round =>
    clear H2 K3 HB1
    obtain ⟨i, h, sl, po, rfl, rfl, rfl, HG, H8, HS, HK, HB⟩ := hrel
    cases gk with
    | zero =>
      have hi : i = l.length := by have := HG.out; simpa using this
      have y1 : decide ((i : Int) < (l.length : Int)) = false := decide_eq_false (by rw [hi]; exact Int.lt_irrefl _)
      have y2 : decide (i < l.length) = false := decide_eq_false (by rw [hi]; exact Nat.lt_irrefl _)
      have hs := HS.out
      rw [List.drop_of_length_le (by rw [hi]; exact Nat.le_refl _)] at hs
      simp only [sortL, Option.some.injEq, Prod.mk.injEq] at hs
      obtain ⟨rfl, rfl, rfl⟩ := hs
      have c5 := bA_cell HK.out 5 (by rw [H8.out]; decide)
      have c6 := bA_cell HK.out 6 (by rw [H8.out]; decide)
      have c7 := bA_cell HK.out 7 (by rw [H8.out]; decide)
      have c2 := bA_cell HK.out 2 (by rw [H8.out]; decide)
      have hr := HR.out
      unfold sortR at hr
      generalize h.getD 5 false = x5 at c5 hr
      generalize h.getD 6 false = x6 at c6 hr
      generalize h.getD 7 false = x7 at c7 hr
      generalize h.getD 2 false = x2 at c2 hr
      clear hi HS HR
      cases x5
      · cases x6
        · cases x7
          · cases x2
            · obtain rfl : (1 : Int) = r := hr
              go_wp2
              go_ret
              exact ⟨rfl, HB.out⟩
            · cases sl
              · cases po
                · obtain rfl : (2 : Int) = r := hr
                  go_wp2
                  go_ret
                  exact ⟨rfl, HB.out⟩
                · obtain rfl : (3 : Int) = r := hr
                  go_wp2
                  go_ret
                  exact ⟨rfl, HB.out⟩
              · obtain rfl : (4 : Int) = r := hr
                go_wp2
                go_ret
                exact ⟨rfl, HB.out⟩
          · obtain rfl : (7 : Int) = r := hr
            go_wp2
            go_ret
            exact ⟨rfl, HB.out⟩
        · obtain rfl : (6 : Int) = r := hr
          go_wp2
          go_ret
          exact ⟨rfl, HB.out⟩
      · obtain rfl : (5 : Int) = r := hr
        go_wp2
        go_ret
        exact ⟨rfl, HB.out⟩
    | succ g1 =>
      have hi : i < l.length := by have := HG.out; omega
      have y1 : decide ((i : Int) < (l.length : Int)) = true := decide_eq_true (Int.ofNat_lt.2 hi)
      have y2 : decide (i < l.length) = true := decide_eq_true hi
      have y3 : ((i : Int) < (l.length : Int)) = True := eq_true (Int.ofNat_lt.2 hi)
      have y4 : (i < l.length) = True := eq_true hi
      obtain ⟨ae, eA, t0, t1, t2, t3⟩ := at_T53 (Kd.C_below HC.out HB.out) (i : Int) (Int.natCast_nonneg i) (Int.ofNat_lt.2 hi)
      subst eA
      rw [Int.toNat_natCast] at t0 t1 t2 t3
      have hs := HS.out
      rw [List.drop_eq_getElem_cons hi] at hs
      have er : rd_T53 l (i : Int) = l[i] := by
        unfold rd_T53
        rw [Int.toNat_natCast, List.getD_eq_getElem?_getD, List.getElem?_eq_getElem hi]
        rfl
      rw [← er] at hs
      simp only [sortL] at hs
      generalize rd_T53 l (i : Int) = T at hs t0 t1 t2 t3
      obtain ⟨s, a1, hs⟩ := Option.bind_eq_some_iff.mp hs
      have AS := Aside0.mk a1
      by_cases h8 : 0 ≤ s ∧ s < 8
      · rw [if_pos h8] at hs
        obtain ⟨sn, hsn⟩ : ∃ sn : Nat, s = (sn : Int) := ⟨s.toNat, (Int.toNat_of_nonneg h8.1).symm⟩
        subst hsn
        rw [Int.toNat_natCast] at hs
        have hs8 : sn < 8 := Int.ofNat_lt.1 h8.2
        have z1 : (0 ≤ (sn : Int)) = True := eq_true h8.1
        have z2 : ((sn : Int) < 8) = True := eq_true h8.2
        have z3 : (sn < 8) = True := eq_true hs8
        have HS8 := Aside0.mk hs8
        have HS2 := Aside0.mk hs
        have hwi : wrap64 ((i : Int) + 1) = ((i + 1 : Nat) : Int) := (i64_w _).symm.trans (IntWalk.i64_in ((i + 1 : Nat) : Int) ⟨Int.le_trans (by decide) (Int.natCast_nonneg _), Int.le_trans (Int.ofNat_le.2 hi) (Int.ofNat_le.2 HM.out)⟩)
        have HWI := Aside0.mk hwi
        clear hs er hi h8 hs8 a1 hwi
        have ng1 : g3 ≠ wr.heap.size := Nat.ne_of_lt (blk_lt HK.out)
        have ng2 : wr.heap.size ≠ g3 := Nat.ne_of_gt (blk_lt HK.out)
        cases sl <;> cases po
        · go_wp2_with (first | (go_at_call 53; (with_reducible refine (item_sorts.calls k T.f0 T.f1 T.f2 T.f3 _ _ AS.out (LW.below HL.out (below_alloc HB.out _))).mono ?_); rintro e w2 ⟨rfl, hb2⟩; have HB2 := Aside0.mk ((below_alloc HB.out _).trans (hb2.mono (below_alloc HB.out _).size)); have K2 := Aside0.mk ((hb2.block g3 (Nat.lt_of_lt_of_le (blk_lt HK.out) (below_alloc (Below.refl _ _) _).size)).trans ((Below.heap_alloc wr _ _ (blk_lt HK.out)).trans HK.out)); have K7 := Aside0.mk ((hb2.block wr.heap.size (blk_lt (World.alloc_heap_new wr _))).trans (World.alloc_heap_new wr _)); have c3 : w2.cell? ⟨g3, sn, none⟩ = some (.bool (h.getD sn false)) := bA_cell K2.out sn (by rw [H8.out]; exact HS8.out); have f3 : w2.frozen? ⟨g3, sn, none⟩ = false := blk_frozen K2.out sn; have k70 : w2.cell? ⟨wr.heap.size, 0, none⟩ = some (.int .i64 T.f0) := (blk_cell K7.out 0).trans rfl; clear hb2))
          go_roundg g1
          case measure => omega
          case rel => exact ⟨i + 1, h.set sn true, _, _, rfl, rfl, by first | exact congrArg (Value.int .i64) HWI.out | rfl | simp, ⟨by have := HG.out; omega⟩, ⟨by rw [List.length_set]; exact H8.out⟩, ⟨by have h_ := HS2.out; simpa using h_⟩, ⟨blk_put K2.out sn (.bool true) (bA_set h sn)⟩, ⟨below_set HB2.out G3.out⟩⟩
        · go_wp2_with (first | (go_at_call 53; (with_reducible refine (item_sorts.calls k T.f0 T.f1 T.f2 T.f3 _ _ AS.out (LW.below HL.out (below_alloc HB.out _))).mono ?_); rintro e w2 ⟨rfl, hb2⟩; have HB2 := Aside0.mk ((below_alloc HB.out _).trans (hb2.mono (below_alloc HB.out _).size)); have K2 := Aside0.mk ((hb2.block g3 (Nat.lt_of_lt_of_le (blk_lt HK.out) (below_alloc (Below.refl _ _) _).size)).trans ((Below.heap_alloc wr _ _ (blk_lt HK.out)).trans HK.out)); have K7 := Aside0.mk ((hb2.block wr.heap.size (blk_lt (World.alloc_heap_new wr _))).trans (World.alloc_heap_new wr _)); have c3 : w2.cell? ⟨g3, sn, none⟩ = some (.bool (h.getD sn false)) := bA_cell K2.out sn (by rw [H8.out]; exact HS8.out); have f3 : w2.frozen? ⟨g3, sn, none⟩ = false := blk_frozen K2.out sn; have k70 : w2.cell? ⟨wr.heap.size, 0, none⟩ = some (.int .i64 T.f0) := (blk_cell K7.out 0).trans rfl; clear hb2))
          go_roundg g1
          case measure => omega
          case rel => exact ⟨i + 1, h.set sn true, _, _, rfl, rfl, by first | exact congrArg (Value.int .i64) HWI.out | rfl | simp, ⟨by have := HG.out; omega⟩, ⟨by rw [List.length_set]; exact H8.out⟩, ⟨by have h_ := HS2.out; simpa using h_⟩, ⟨blk_put K2.out sn (.bool true) (bA_set h sn)⟩, ⟨below_set HB2.out G3.out⟩⟩
        · go_wp2_with (first | (go_at_call 53; (with_reducible refine (item_sorts.calls k T.f0 T.f1 T.f2 T.f3 _ _ AS.out (LW.below HL.out (below_alloc HB.out _))).mono ?_); rintro e w2 ⟨rfl, hb2⟩; have HB2 := Aside0.mk ((below_alloc HB.out _).trans (hb2.mono (below_alloc HB.out _).size)); have K2 := Aside0.mk ((hb2.block g3 (Nat.lt_of_lt_of_le (blk_lt HK.out) (below_alloc (Below.refl _ _) _).size)).trans ((Below.heap_alloc wr _ _ (blk_lt HK.out)).trans HK.out)); have K7 := Aside0.mk ((hb2.block wr.heap.size (blk_lt (World.alloc_heap_new wr _))).trans (World.alloc_heap_new wr _)); have c3 : w2.cell? ⟨g3, sn, none⟩ = some (.bool (h.getD sn false)) := bA_cell K2.out sn (by rw [H8.out]; exact HS8.out); have f3 : w2.frozen? ⟨g3, sn, none⟩ = false := blk_frozen K2.out sn; have k70 : w2.cell? ⟨wr.heap.size, 0, none⟩ = some (.int .i64 T.f0) := (blk_cell K7.out 0).trans rfl; clear hb2))
          go_roundg g1
          case measure => omega
          case rel => exact ⟨i + 1, h.set sn true, _, _, rfl, rfl, by first | exact congrArg (Value.int .i64) HWI.out | rfl | simp, ⟨by have := HG.out; omega⟩, ⟨by rw [List.length_set]; exact H8.out⟩, ⟨by have h_ := HS2.out; simpa using h_⟩, ⟨blk_put K2.out sn (.bool true) (bA_set h sn)⟩, ⟨below_set HB2.out G3.out⟩⟩
        · go_wp2_with (first | (go_at_call 53; (with_reducible refine (item_sorts.calls k T.f0 T.f1 T.f2 T.f3 _ _ AS.out (LW.below HL.out (below_alloc HB.out _))).mono ?_); rintro e w2 ⟨rfl, hb2⟩; have HB2 := Aside0.mk ((below_alloc HB.out _).trans (hb2.mono (below_alloc HB.out _).size)); have K2 := Aside0.mk ((hb2.block g3 (Nat.lt_of_lt_of_le (blk_lt HK.out) (below_alloc (Below.refl _ _) _).size)).trans ((Below.heap_alloc wr _ _ (blk_lt HK.out)).trans HK.out)); have K7 := Aside0.mk ((hb2.block wr.heap.size (blk_lt (World.alloc_heap_new wr _))).trans (World.alloc_heap_new wr _)); have c3 : w2.cell? ⟨g3, sn, none⟩ = some (.bool (h.getD sn false)) := bA_cell K2.out sn (by rw [H8.out]; exact HS8.out); have f3 : w2.frozen? ⟨g3, sn, none⟩ = false := blk_frozen K2.out sn; have k70 : w2.cell? ⟨wr.heap.size, 0, none⟩ = some (.int .i64 T.f0) := (blk_cell K7.out 0).trans rfl; clear hb2))
          go_roundg g1
          case measure => omega
          case rel => exact ⟨i + 1, h.set sn true, _, _, rfl, rfl, by first | exact congrArg (Value.int .i64) HWI.out | rfl | simp, ⟨by have := HG.out; omega⟩, ⟨by rw [List.length_set]; exact H8.out⟩, ⟨by have h_ := HS2.out; simpa using h_⟩, ⟨blk_put K2.out sn (.bool true) (bA_set h sn)⟩, ⟨below_set HB2.out G3.out⟩⟩
      · rw [if_neg h8] at hs
        cases hs
end Go.Proofs.YtiidpicgdjjikaaGreatDoor.G
