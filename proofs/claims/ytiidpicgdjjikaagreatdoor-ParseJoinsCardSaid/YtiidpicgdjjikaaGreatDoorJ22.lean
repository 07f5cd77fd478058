import Derived.Test.YtiidpicgdjjikaaGreatDoorJ20
import Derived.Test.YtiidpicgdjjikaaGreatDoorJ21
namespace Go.Proofs.YtiidpicgdjjikaaGreatDoor.G
open Go.RowKit Go.Lib Go.Proofs Go.Proofs.YtiidpicgdjjikaaGreatDoor.P Go.Proofs.YtiidpicgdjjikaaGreatDoorW.PrintWords Go.Proofs.YtiidpicgdjjikaaGreatDoorW.PrintLast Go.Proofs.YtiidpicgdjjikaaGreatDoorW.PrintMore
set_option linter.unusedVariables false
set_option linter.unusedSimpArgs false
def times_Pow.l0 : Nat → Int → List Int → List Int → Option (List Int)
  | 0, _, _, _ => none
  | k + 1, x, a, o => if x > 0 then (if (Go.bits .and .i64 x 1) = 1 then ((times_Mul.f k o a).bind fun t => (if x > 1 then ((times_Mul.f k a a).bind fun u => (times_Pow.l0 k (x / 2) u t)) else (times_Pow.l0 k (x / 2) a t))) else (if x > 1 then ((times_Mul.f k a a).bind fun u => (times_Pow.l0 k (x / 2) u o)) else (times_Pow.l0 k (x / 2) a o))) else (some o)
def times_Pow.f (k : Nat) (l : List Int) (a1 : Int) : Option (List Int) := (nat_Of.f k 1).bind fun t => (times_Pow.l0 k a1 l t)
theorem times_Pow.mono_l : ∀ k, (∀ y0 y1 y2, LeO (times_Pow.l0 k y0 y1 y2) (times_Pow.l0 (k + 1) y0 y1 y2))
  | 0 => fun _ _ _ r h => by simp [times_Pow.l0] at h
  | k + 1 => by
    have ih0 := times_Pow.mono_l k
    · intro y0 y1 y2
      unfold times_Pow.l0
      repeat' first
      | (with_reducible exact ih0 _ _ _)
      | (with_reducible exact nat_Of.mono _ _)
      | (with_reducible exact times_Mul.mono _ _ _)
      | (with_reducible exact LeO.refl _)
      | (with_reducible exact LeO.none _)
      | (with_reducible refine LeO.ite ?_ ?_)
      | (with_reducible refine LeO.bind ?_ (fun _ => ?_))
      | exact ih0 _ _ _
      | exact LeO.none _
      | refine LeO.ite ?_ ?_
      | refine LeO.bind ?_ (fun _ => ?_)
theorem times_Pow.mono : ∀ a0 a1 k, LeO (times_Pow.f k a0 a1) (times_Pow.f (k + 1) a0 a1) := by
  intro a0 a1 k
  have ih0 := times_Pow.mono_l k
  unfold times_Pow.f
  exact LeO.bind (nat_Of.mono _ _) (fun _ => ih0 _ _ _)
def PowC (w : World) (g2 g4 g5 : Nat) (v : Value) (l : List Int) : Prop := ∃ A c, v = .slice A l.length c ∧ l.length ≤ c ∧ Kd.C (Kd.int .u32) w A l.length l ∧ (∀ ad, A = some ad → 0 < l.length → ad.block ≠ g2 ∧ ad.block ≠ g4 ∧ ad.block ≠ g5)
theorem keepBut_set (w : World) (g j : Nat) (u : Value) : KeepBut w (w.setCell ⟨g, j, none⟩ u) g none := ⟨by simp [World.setCell], fun i hi hg hr => Below.heap_setCell w ⟨g, j, none⟩ u i hg⟩
theorem PowC.set {w : World} {g2 g4 g5 g j : Nat} {v u : Value} {l : List Int} (h : PowC w g2 g4 g5 v l) (hg : g = g2 ∨ g = g4 ∨ g = g5) : PowC (w.setCell ⟨g, j, none⟩ u) g2 g4 g5 v l := by
  obtain ⟨A, c, h1, h2, h3, h4⟩ := h
  refine ⟨A, c, h1, h2, Kd.C_keep (0 : Int) h3 (keepBut_set w g j u) (fun ad ha hp => ?_), h4⟩
  rcases hg with rfl | rfl | rfl
  · exact (h4 ad ha hp).1
  · exact (h4 ad ha hp).2.1
  · exact (h4 ad ha hp).2.2
theorem PowC.below {w w1 : World} {g2 g4 g5 : Nat} {v : Value} {l : List Int} (h : PowC w g2 g4 g5 v l) (hb : Below w.heap.size w w1) : PowC w1 g2 g4 g5 v l := by
  obtain ⟨A, c, h1, h2, h3, h4⟩ := h
  exact ⟨A, c, h1, h2, Kd.C_below h3 hb, h4⟩
theorem PowC.of_R {w : World} {g2 g4 g5 base e : Nat} {ok : Nat → Prop} {v : Value} {l : List Int} (h : Kd.R (Kd.int .u32) e w base ok v l) (h2 : g2 < base) (h4 : g4 < base) (h5 : g5 < base) : PowC w g2 g4 g5 v l := by
  obtain ⟨A, c, rfl, hc, hC⟩ := Kd.R_reads h
  refine ⟨A, c, rfl, hc, hC, fun ad ha hp => ?_⟩
  obtain ⟨g, cap, e1, hb, _, _⟩ := Kd.R_form h hp
  subst ha
  injection e1 with e2 _ _
  injection e2 with e3
  subst e3
  exact ⟨by simp only []; omega, by simp only []; omega, by simp only []; omega⟩
theorem PowC.of_C {w : World} {g2 g4 g5 : Nat} {A : Option Addr} {c : Nat} {l : List Int} (h : Kd.C (Kd.int .u32) w A l.length l) (hc : l.length ≤ c) (h2 : w.heap.size ≤ g2) (h4 : w.heap.size ≤ g4) (h5 : w.heap.size ≤ g5) : PowC w g2 g4 g5 (.slice A l.length c) l := by
  refine ⟨A, c, rfl, hc, h, fun ad ha hp => ?_⟩
  obtain ⟨ad', cs, e, _, hK, hcell⟩ := Kd.C_get h (0 : Int) 0 (by omega) (by omega)
  obtain rfl := Option.some.inj (ha.symm.trans e)
  have hlt : ad.block < w.heap.size := by
    have h0 : ∃ u, cs[0]? = some u := by
      cases hK
      exact ⟨_, rfl⟩
    obtain ⟨u, hu⟩ := h0
    have := hcell 0 u hu
    apply Classical.byContradiction
    intro hn
    unfold World.cell? at this
    rw [Array.getElem?_eq_none (by simpa [Addr.add] using hn)] at this
    simp at this
  exact ⟨by omega, by omega, by omega⟩
theorem PowC.C {w : World} {g2 g4 g5 n c : Nat} {A : Option Addr} {l : List Int} (h : PowC w g2 g4 g5 (.slice A n c) l) : Kd.C (Kd.int .u32) w A l.length l := by
  obtain ⟨A', c', e, _, h3, _⟩ := h
  injection e with e1 e2 e3
  subst e1
  exact h3
theorem setCell_size (w : World) (a : Addr) (v : Value) : (w.setCell a v).heap.size = w.heap.size := by simp [World.setCell]
attribute [local go_sem] isSome_setCell_eq
set_option maxHeartbeats 8000000 in
set_option maxRecDepth 1000000 in
theorem times_Pow.calls (k : Nat) (A0 : Option Addr) (c0 : Nat) (l0 : List Int) (a1 : Int) (r : List Int) (w : World) (hr0 : Kd.C (Kd.int .u32) w A0 l0.length l0) (hc0 : l0.length ≤ c0) (h : times_Pow.f k l0 a1 = some r) :
    Calls Tryz.prog 191 #[.agg #[.slice A0 l0.length c0], .int .i64 a1] w fun e w' => ∃ v0_ : Value, e = .returned (.agg #[v0_]) ∧ Kd.R (Kd.int .u32) 96 w' w.heap.size (fun _ => True) v0_ r ∧ Below w.heap.size w w' := by
  unfold times_Pow.f at h
  obtain ⟨t0, h0, h⟩ := Option.bind_eq_some_iff.mp h
  have A0_ := Aside0.mk h0
  have H := Aside0.mk h
  have HC := Aside0.mk hr0
  have HB := Aside0.mk (Below.refl w.heap.size w)
  clear h0 h hr0
  have hu := Tryz.underlying217
  go_enter Tryz.func191, Tryz.ntmps191
  go_wp2_with (first
    | ((with_reducible refine gate_dst (N := 2) rfl ?_); refine box_event ?hg (N := 2) ?hd (cs := #[.slice A0 l0.length c0]) (t := 217) ?hr ?_; (case hd => rfl); (case hg => rfl); (case hr => first | (go_simp; done) | (go_simp; rfl)); intro g2 hg w2 hbox hb; have B2 := Aside0.mk hbox; have G2 := Aside0.mk (Nat.le_of_eq hg.symm); have L2 := Aside0.mk (blk_lt hbox); have HB2 := Aside0.mk hb; clear hg hb hbox)
    | ((with_reducible refine gate_dst (N := 4) rfl ?_); refine box_event ?hg (N := 4) ?hd (cs := #[.slice none 0 0]) (t := 217) ?hr ?_; (case hd => rfl); (case hg => rfl); (case hr => first | (go_simp; done) | (go_simp; rfl)); intro g4 hg w4 hbox hb; have G4 := Aside0.mk (Nat.le_of_eq hg.symm); have L4 := Aside0.mk (blk_lt hbox); have B4 := Aside0.mk hbox; have HB4 := Aside0.mk hb; clear hg hb hbox)
    | (go_at_call 171; refine (nat_Of.calls k 1 t0 _ A0_.out).mono ?_; rintro e w5 ⟨v0, rfl, hR, hb⟩; obtain ⟨Aq, cq, rfl⟩ := Kd.R_slice hR; have HR := Aside0.mk hR; have HB5 := Aside0.mk hb; clear hR hb)
    | ((with_reducible refine gate_dst (N := 5) rfl ?_); refine box_event ?hg (N := 5) ?hd (cs := #[.slice none 0 0]) (t := 217) ?hr ?_; (case hd => rfl); (case hg => rfl); (case hr => first | (go_simp; done) | (go_simp; rfl)); intro g5 hg w6 hbox hb; have G5 := Aside0.mk (Nat.le_of_eq hg.symm); have B5 := Aside0.mk hbox; have HB6 := Aside0.mk hb; have hc5 : w6.cell? ⟨g5, 0, none⟩ = some (.slice none 0 0) := (blk_cell hbox 0).trans rfl; have hf5 := blk_frozen hbox 0; clear hg hb hbox))
  have n24 : g2 < g4 := Nat.lt_of_lt_of_le L2.out G4.out
  have n45 : g4 < g5 := Nat.lt_of_lt_of_le L4.out (Nat.le_trans HB5.out.size G5.out)
  have n0 : w.heap.size ≤ g2 := G2.out
  have z24 : w2.heap.size ≤ w4.heap.size := HB4.out.size
  have z02 : w.heap.size ≤ w2.heap.size := HB2.out.size
  have z45 : w4.heap.size ≤ w5.heap.size := HB5.out.size
  have b4 : Below w.heap.size w w4 := HB2.out.trans (HB4.out.mono z02)
  have b5 : Below w.heap.size w w5 := b4.trans (HB5.out.mono (by omega))
  have b6 : Below w.heap.size w w6 := b5.trans (HB6.out.mono (by omega))
  have l2 := L2.out
  have l4 := L4.out
  have k2 : w6.heap[g2]? = some (.cells #[.slice A0 l0.length c0] 217 (0, 0)) := (HB6.out.block g2 (by omega)).trans ((HB5.out.block g2 (by omega)).trans ((HB4.out.block g2 (by omega)).trans B2.out))
  have k4 : w6.heap[g4]? = some (.cells #[.slice none 0 0] 217 (0, 0)) := (HB6.out.block g4 (by omega)).trans ((HB5.out.block g4 (by omega)).trans B4.out)
  have kC : PowC w6 g2 g4 g5 (.slice A0 l0.length c0) l0 := (PowC.of_C HC.out hc0 (by omega) (by omega) (by omega)).below (b6.mono (Nat.le_refl _))
  have kR : Kd.R (Kd.int .u32) 96 w6 w.heap.size (fun _ => True) (.slice Aq t0.length cq) t0 := Kd.R_lower (Kd.R_below HR.out HB6.out) (by omega)
  have HN : Aside0 (g2 < g4 ∧ g4 < g5 ∧ w.heap.size ≤ g2) := ⟨n24, n45, n0⟩
  have HS : Aside0 (PowC (w6.setCell ⟨g5, 0, none⟩ (.slice Aq t0.length cq)) g2 g4 g5 (.slice A0 l0.length c0) l0 ∧ Kd.R (Kd.int .u32) 96 (w6.setCell ⟨g5, 0, none⟩ (.slice Aq t0.length cq)) w.heap.size (fun _ => True) (.slice Aq t0.length cq) t0 ∧ (w6.setCell ⟨g5, 0, none⟩ (.slice Aq t0.length cq)).heap[g2]? = some (.cells #[.slice A0 l0.length c0] 217 (0, 0)) ∧ (w6.setCell ⟨g5, 0, none⟩ (.slice Aq t0.length cq)).heap[g4]? = some (.cells #[.slice none 0 0] 217 (0, 0)) ∧ (w6.setCell ⟨g5, 0, none⟩ (.slice Aq t0.length cq)).heap[g5]? = some (.cells #[.slice Aq t0.length cq] 217 (0, 0)) ∧ Below w.heap.size w (w6.setCell ⟨g5, 0, none⟩ (.slice Aq t0.length cq))) :=
    ⟨kC.set (by simp), Kd.R_set kR B5.out (by decide) 0 _, blk_far k2 (by simp only [ne_eq]; omega) _, blk_far k4 (by simp only [ne_eq]; omega) _, blk_put (cs := #[.slice none 0 0]) B5.out 0 _ rfl, below_set b6 (by omega)⟩
  clear n24 n45 n0 z24 z02 z45 b4 b5 b6 l2 l4 k2 k4 kC kR B2 B4 B5 HB2 HB4 HB5 HB6 HR HC HB G2 G4 G5 L2 L4 hc5 hf5
  go_loopg [1] k (fun kq v1 wx => ∃ (x : Int) (la lo : List Int) (va vo : Value), v1 = .int .i64 x ∧ Aside0 (times_Pow.l0 kq x la lo = some r) ∧ Aside0 (kq ≤ k) ∧ Aside0 (PowC wx g2 g4 g5 va la ∧ Kd.R (Kd.int .u32) 96 wx w.heap.size (fun _ => True) vo lo ∧ wx.heap[g2]? = some (.cells #[va] 217 (0, 0)) ∧ wx.heap[g4]? = some (.cells #[.slice none 0 0] 217 (0, 0)) ∧ wx.heap[g5]? = some (.cells #[vo] 217 (0, 0)) ∧ Below w.heap.size w wx))
  case atStart => exact ⟨a1, l0, t0, _, _, rfl, H, ⟨Nat.le_refl _⟩, HS⟩
  case round =>
    clear H HS A0_
    obtain ⟨x, la, lo, va, vo, rfl, HA, HK1, HS⟩ := hrel
    obtain ⟨hP, hO, hk2, hk4, hk5, hb⟩ := HS.out
    clear HS
    obtain ⟨Aa, ca, rfl, hA2, hA3, hA4⟩ := hP
    obtain ⟨Ao, co, rfl⟩ := Kd.R_slice hO
    obtain ⟨n24, n45, n0⟩ := HN.out
    have HP : Aside0 (PowC wr g2 g4 g5 (.slice Aa la.length ca) la) := ⟨⟨Aa, ca, rfl, hA2, hA3, hA4⟩⟩
    have HO := Aside0.mk hO
    have K2 := Aside0.mk hk2
    have K4 := Aside0.mk hk4
    have K5 := Aside0.mk hk5
    have HB := Aside0.mk hb
    have hc5w : wr.cell? ⟨g5, 0, none⟩ = some (.slice Ao lo.length co) := (blk_cell hk5 0).trans rfl
    have hf5w := blk_frozen hk5 0
    have hc2w : wr.cell? ⟨g2, 0, none⟩ = some (.slice Aa la.length ca) := (blk_cell hk2 0).trans rfl
    have hf2w := blk_frozen hk2 0
    have n25 : g2 ≠ g5 := by omega
    have n52 : g5 ≠ g2 := by omega
    have HC3 := Aside0.mk hA3
    have HL := Aside0.mk (blk_lt hk5)
    clear hO hk2 hk4 hk5 hb hA4 hA3 n24 n45 n0
    cases gk with
    | zero => exact absurd HA.out (by simp [times_Pow.l0])
    | succ k1 =>
      have H := HA.out
      clear HA
      simp only [times_Pow.l0] at H
      by_cases c1 : x > 0
      · rw [if_pos c1] at H
        have c1b : decide (0 < x) = true := decide_eq_true c1
        by_cases c2 : Go.bits .and .i64 x 1 = 1
        · rw [if_pos c2] at H
          have c2b : (Go.bits .and .i64 x 1 == 1) = true := beq_iff_eq.mpr c2
          obtain ⟨t1, m1, H⟩ := Option.bind_eq_some_iff.mp H
          have M1 := Aside0.mk m1
          clear m1
          by_cases c3 : x > 1
          · rw [if_pos c3] at H
            have c3b : decide (1 < x) = true := decide_eq_true c3
            obtain ⟨u1, m2, H⟩ := Option.bind_eq_some_iff.mp H
            have M2 := Aside0.mk m2
            have H' := Aside0.mk H
            clear m2 H
            go_wp2_with (first | (go_at_call 169; (with_reducible refine (times_Mul.calls k1 Ao co lo Aa ca la t1 _ (Kd.R_reads' HO.out).2.2 (Kd.R_reads' HO.out).2.1 HC3.out hA2 M1.out).mono ?_); rintro e w7 ⟨v7, rfl, hR7, hb7⟩; obtain ⟨A7, c7, rfl⟩ := Kd.R_slice hR7; have HR7 := Aside0.mk hR7; have HB7 := Aside0.mk hb7; have K57 := Aside0.mk ((hb7.block g5 HL.out).trans K5.out); have K27 := Aside0.mk ((hb7.block g2 (blk_lt K2.out)).trans K2.out); have K47 := Aside0.mk ((hb7.block g4 (blk_lt K4.out)).trans K4.out); have hc5 : w7.cell? ⟨g5, 0, none⟩ = some (.slice Ao lo.length co) := (blk_cell K57.out 0).trans rfl; have hf5 := blk_frozen K57.out 0; have hc2 : w7.cell? ⟨g2, 0, none⟩ = some (.slice Aa la.length ca) := (blk_cell K27.out 0).trans rfl; have hf2 := blk_frozen K27.out 0; have HP7 : Aside0 (PowC (w7.setCell ⟨g5, 0, none⟩ (.slice A7 t1.length c7)) g2 g4 g5 (.slice Aa la.length ca) la) := ⟨(HP.out.below hb7).set (by simp)⟩; clear hR7 hb7 hc5w hf5w hc2w hf2w) | (go_at_call 169; (with_reducible refine (times_Mul.calls k1 Aa ca la Aa ca la u1 _ HP7.out.C hA2 HP7.out.C hA2 M2.out).mono ?_); rintro e w8 ⟨v8, rfl, hR8, hb8⟩; obtain ⟨A8, c8, rfl⟩ := Kd.R_slice hR8; have HR8 := Aside0.mk hR8; have HB8 := Aside0.mk hb8; have K58 := Aside0.mk ((hb8.block g5 (by simp only [setCell_size]; exact blk_lt K57.out)).trans (blk_put (cs := #[.slice Ao lo.length co]) K57.out 0 (.slice A7 t1.length c7) rfl)); have K28 := Aside0.mk ((hb8.block g2 (by simp only [setCell_size]; exact blk_lt K27.out)).trans (blk_far K27.out (by simp only [ne_eq]; have := HN.out; omega) (.slice A7 t1.length c7))); have K48 := Aside0.mk ((hb8.block g4 (by simp only [setCell_size]; exact blk_lt K47.out)).trans (blk_far K47.out (by simp only [ne_eq]; have := HN.out; omega) (.slice A7 t1.length c7))); have hc2 : w8.cell? ⟨g2, 0, none⟩ = some (.slice Aa la.length ca) := (blk_cell K28.out 0).trans rfl; have hf2 := blk_frozen K28.out 0; clear hR8 hb8))
            have hn := HN.out
            have s7 := HB7.out.size
            have s8 := HB8.out.size
            simp only [setCell_size] at s8
            have hl := HL.out
            go_roundg k1
            case measure => have := HK1.out; omega
            case rel => exact ⟨x / 2, u1, t1, _, _, rfl, H', ⟨by have := HK1.out; omega⟩, ⟨(PowC.of_R HR8.out (by simp only [setCell_size]; omega) (by simp only [setCell_size]; omega) (by simp only [setCell_size]; omega)).set (by simp), Kd.R_set (Kd.R_below (Kd.R_set (Kd.R_lower HR7.out (by have := HB.out.size; omega)) K57.out (by decide) 0 _) HB8.out) K28.out (by decide) 0 _, blk_put (cs := #[.slice Aa la.length ca]) K28.out 0 _ rfl, blk_far K48.out (by simp only [ne_eq]; omega) _, blk_far K58.out (by simp only [ne_eq]; omega) _, below_set ((below_set (HB.out.trans (HB7.out.mono HB.out.size)) (by omega)).trans (HB8.out.mono (by simp only [setCell_size]; have := HB.out.size; omega))) (by omega)⟩⟩
          · rw [if_neg c3] at H
            have c3b : decide (1 < x) = false := decide_eq_false c3
            have H' := Aside0.mk H
            clear H
            go_wp2_with (first | (go_at_call 169; (with_reducible refine (times_Mul.calls k1 Ao co lo Aa ca la t1 _ (Kd.R_reads' HO.out).2.2 (Kd.R_reads' HO.out).2.1 HC3.out hA2 M1.out).mono ?_); rintro e w7 ⟨v7, rfl, hR7, hb7⟩; obtain ⟨A7, c7, rfl⟩ := Kd.R_slice hR7; have HR7 := Aside0.mk hR7; have HB7 := Aside0.mk hb7; have K57 := Aside0.mk ((hb7.block g5 HL.out).trans K5.out); have K27 := Aside0.mk ((hb7.block g2 (blk_lt K2.out)).trans K2.out); have K47 := Aside0.mk ((hb7.block g4 (blk_lt K4.out)).trans K4.out); have hc5 : w7.cell? ⟨g5, 0, none⟩ = some (.slice Ao lo.length co) := (blk_cell K57.out 0).trans rfl; have hf5 := blk_frozen K57.out 0; have hc2 : w7.cell? ⟨g2, 0, none⟩ = some (.slice Aa la.length ca) := (blk_cell K27.out 0).trans rfl; have hf2 := blk_frozen K27.out 0; have HP7 : Aside0 (PowC (w7.setCell ⟨g5, 0, none⟩ (.slice A7 t1.length c7)) g2 g4 g5 (.slice Aa la.length ca) la) := ⟨(HP.out.below hb7).set (by simp)⟩; clear hR7 hb7 hc5w hf5w hc2w hf2w))
            have hn := HN.out
            have s7 := HB7.out.size
            have hl := HL.out
            go_roundg k1
            case measure => have := HK1.out; omega
            case rel => exact ⟨x / 2, la, t1, _, _, rfl, H', ⟨by have := HK1.out; omega⟩, ⟨HP7.out, Kd.R_set (Kd.R_lower HR7.out (by have := HB.out.size; omega)) K57.out (by decide) 0 _, (blk_far K27.out (by simp only [ne_eq]; have := HN.out; omega) (.slice A7 t1.length c7)), (blk_far K47.out (by simp only [ne_eq]; have := HN.out; omega) (.slice A7 t1.length c7)), (blk_put (cs := #[.slice Ao lo.length co]) K57.out 0 (.slice A7 t1.length c7) rfl), below_set (HB.out.trans (HB7.out.mono HB.out.size)) (by omega)⟩⟩
        · rw [if_neg c2] at H
          have c2b : (Go.bits .and .i64 x 1 == 1) = false := beq_eq_false_iff_ne.mpr c2
          by_cases c3 : x > 1
          · rw [if_pos c3] at H
            have c3b : decide (1 < x) = true := decide_eq_true c3
            obtain ⟨u1, m2, H⟩ := Option.bind_eq_some_iff.mp H
            have M2 := Aside0.mk m2
            have H' := Aside0.mk H
            clear m2 H
            go_wp2_with (first | (go_at_call 169; (with_reducible refine (times_Mul.calls k1 Aa ca la Aa ca la u1 _ HC3.out hA2 HC3.out hA2 M2.out).mono ?_); rintro e w8 ⟨v8, rfl, hR8, hb8⟩; obtain ⟨A8, c8, rfl⟩ := Kd.R_slice hR8; have HR8 := Aside0.mk hR8; have HB8 := Aside0.mk hb8; have K58 := Aside0.mk ((hb8.block g5 (blk_lt K5.out)).trans K5.out); have K28 := Aside0.mk ((hb8.block g2 (blk_lt K2.out)).trans K2.out); have K48 := Aside0.mk ((hb8.block g4 (blk_lt K4.out)).trans K4.out); have hc2 : w8.cell? ⟨g2, 0, none⟩ = some (.slice Aa la.length ca) := (blk_cell K28.out 0).trans rfl; have hf2 := blk_frozen K28.out 0; clear hR8 hb8))
            have hn := HN.out
            have s8 := HB8.out.size
            have hl := HL.out
            go_roundg k1
            case measure => have := HK1.out; omega
            case rel => exact ⟨x / 2, u1, lo, _, _, rfl, H', ⟨by have := HK1.out; omega⟩, ⟨(PowC.of_R HR8.out (by omega) (by omega) (by omega)).set (by simp), Kd.R_set (Kd.R_below HO.out HB8.out) K28.out (by decide) 0 _, blk_put (cs := #[.slice Aa la.length ca]) K28.out 0 _ rfl, blk_far K48.out (by simp only [ne_eq]; omega) _, blk_far K58.out (by simp only [ne_eq]; omega) _, below_set (HB.out.trans (HB8.out.mono HB.out.size)) (by omega)⟩⟩
          · rw [if_neg c3] at H
            have c3b : decide (1 < x) = false := decide_eq_false c3
            have H' := Aside0.mk H
            clear H
            go_wp2
            go_roundg k1
            case measure => have := HK1.out; omega
            case rel => exact ⟨x / 2, la, lo, _, _, rfl, H', ⟨by have := HK1.out; omega⟩, ⟨HP.out, HO.out, K2.out, K4.out, K5.out, HB.out⟩⟩
      · rw [if_neg c1] at H
        obtain rfl := Option.some.inj H
        have c1b : decide (0 < x) = false := decide_eq_false c1
        have hc4w : wr.cell? ⟨g4, 0, none⟩ = some (.slice none 0 0) := (blk_cell K4.out 0).trans rfl
        have hf4w := blk_frozen K4.out 0
        go_wp2
        refine bodyPost_ret (results_single rfl (.cell g4 217 #[.slice Ao lo.length co] (0, 0) _ rfl (by refine blk_put (cs := #[.slice none 0 0]) ?_ 0 _ rfl; exact K4.out) Tryz.underlying217 rfl (by kernel_rfl) .nil)) rfl ?_
        exact ⟨_, rfl, Kd.R_set HO.out K4.out (by decide) 0 _, below_set HB.out (by have := HN.out; omega)⟩
end Go.Proofs.YtiidpicgdjjikaaGreatDoor.G
