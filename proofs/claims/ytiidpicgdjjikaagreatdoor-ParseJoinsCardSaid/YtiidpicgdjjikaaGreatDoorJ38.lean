import Derived.RangeFuncRecord
import Derived.Test.YtiidpicgdjjikaaGreatDoorJ37
namespace Go.Proofs.YtiidpicgdjjikaaGreatDoor.G
open Go.RowKit Go.Lib Go.Maps Go.ChangeMaps Go.MapKept Go.Proofs Go.Proofs.YtiidpicgdjjikaaGreatDoor.P Go.Proofs.YtiidpicgdjjikaaGreatDoorW.PrintWords Go.Proofs.YtiidpicgdjjikaaGreatDoorW.PrintLast Go.Proofs.YtiidpicgdjjikaaGreatDoorW.PrintMore
set_option linter.unusedVariables false
set_option linter.unusedSimpArgs false
attribute [local go_sem] isSome_setCell_eq
def isMin (ah : ByteArray) (x : S55) (r : List S55) : Prop := x.f0 = 12 ∧ x.f1.toList = [109] ∧ x.f2 ≤ 2 ∧ (ah.toList = [104] ∨ (nextF r).toList = [115])
instance (ah : ByteArray) (x : S55) (r : List S55) : Decidable (isMin ah x r) := by unfold isMin; infer_instance
def minL (ah : ByteArray) : List S55 → List S55
  | [] => []
  | x :: r => if unitB x = true then (if isMin ah x r then ⟨x.f0, ⟨#[110]⟩, x.f2⟩ else x) :: minL x.f1 r else x :: minL ah r
def KOther (w wx : World) (vi : Value) : Prop := w.heap.size ≤ wx.heap.size ∧ ∀ k, k < w.heap.size → some k ≠ vi.ownBlock → wx.heap[k]? = w.heap[k]?
theorem KOther.below {w wx wy : World} {vi : Value} (h : KOther w wx vi) (hb : Below wx.heap.size wx wy) : KOther w wy vi := ⟨Nat.le_trans h.1 hb.size, fun k hk hn => (hb.block k (Nat.lt_of_lt_of_le hk h.1)).trans (h.2 k hk hn)⟩
theorem KOther.set {w wx : World} {vi : Value} {g j : Nat} {u : Value} (h : KOther w wx vi) (hg : vi.ownBlock = some g) : KOther w (wx.setCell ⟨g, j, none⟩ u) vi := ⟨by rw [show (wx.setCell ⟨g, j, none⟩ u).heap.size = wx.heap.size from by simp [World.setCell]]; exact h.1, fun k hk hn => (Below.heap_setCell wx ⟨g, j, none⟩ u k (fun e => hn (by rw [hg, e]))).trans (h.2 k hk hn)⟩
theorem next_calls_n (A : Option Addr) (c n : Nat) (xs : List S55) (w : World) (hn : xs.length = n) (hC : Kd.C k55 w A xs.length xs) :
    Calls Tryz.prog 59 #[.slice A n c] w fun e w' => e = .returned (.string (nextF xs)) ∧ Below w.heap.size w w' := by
  subst hn
  exact next_calls A c xs w hC
theorem row_cell {w : World} {n0 g0 N c i : Nat} {ys : List S55} (h : Kd.R k55 55 w n0 (fun _ => True) (.slice (some ⟨g0, 0, none⟩) N c) ys) (hi : i < N) : w.cell? ⟨g0, (i : Int).toNat * 3 + 1, none⟩ = some (.string (rd_T55 ys (i : Int)).f1) := by
  obtain ⟨ce, hcl, hM, hcc, hfr⟩ := Kd.R_elem h z55 (i : Int) (Int.natCast_nonneg i) (Int.ofNat_lt.2 hi)
  obtain rfl := k55_openM hM
  exact hcc 1 _ rfl
theorem row_frozen {w : World} {n0 g0 N c i : Nat} {ys : List S55} (h : Kd.R k55 55 w n0 (fun _ => True) (.slice (some ⟨g0, 0, none⟩) N c) ys) (hi : i < N) : w.frozen? ⟨g0, (i : Int).toNat * 3 + 1, none⟩ = false := by
  obtain ⟨ce, hcl, hM, hcc, hfr⟩ := Kd.R_elem h z55 (i : Int) (Int.natCast_nonneg i) (Int.ofNat_lt.2 hi)
  exact hfr 1
theorem row_text {w : World} {n0 g0 N c i : Nat} {ys : List S55} (h : Kd.R k55 55 w n0 (fun _ => True) (.slice (some ⟨g0, 0, none⟩) N c) ys) (hi : i < N) (v : ByteArray) : Kd.R k55 55 (w.setCell ⟨g0, i * 3 + 1, none⟩ (.string v)) n0 (fun _ => True) (.slice (some ⟨g0, 0, none⟩) N c) (ys.set i ⟨(rd_T55 ys (i : Int)).f0, v, (rd_T55 ys (i : Int)).f2⟩) := by
  have h0 : 0 ≤ (i : Int) := Int.natCast_nonneg i
  have h1 : (i : Int) < (N : Int) := Int.ofNat_lt.2 hi
  obtain ⟨ce, hcl, hM, hcc, hfr⟩ := Kd.R_elem h z55 (i : Int) h0 h1
  obtain rfl := k55_openM hM
  have hs := (Kd.R_seg h (i : Int) h0 h1 (seg := [.string v]) (j := 1) hcl hcc (show 2 ≤ 3 from by decide) (x' := (⟨(rd_T55 ys (i : Int)).f0, v, (rd_T55 ys (i : Int)).f2⟩ : S55)) (k55_mkM _ _ (fun _ => False) (⟨(rd_T55 ys (i : Int)).f0, v, (rd_T55 ys (i : Int)).f2⟩ : S55)) (fun _ hk => hk.elim)).1
  have hs2 : Kd.R k55 55 (w.setCell ⟨g0, (i : Int).toNat * 3 + 1, none⟩ (.string v)) n0 (fun _ => True) (.slice (some ⟨g0, 0, none⟩) N c) (ys.set (i : Int).toNat ⟨(rd_T55 ys (i : Int)).f0, v, (rd_T55 ys (i : Int)).f2⟩) := hs
  rw [Int.toNat_natCast] at hs2
  exact hs2
theorem take_keep (ys : List S55) (i : Nat) (hi : i < ys.length) (r : List S55) : ys.take i ++ rd_T55 ys (i : Int) :: r = ys.take (i + 1) ++ r := by
  have h := rd_drop ys i hi
  have h2 : ys.take (i + 1) = ys.take i ++ [rd_T55 ys (i : Int)] := by
    rw [List.take_add_one, List.getElem?_eq_getElem hi]
    rw [List.drop_eq_getElem_cons hi] at h
    rw [← (List.cons.inj h).1]
    rfl
  rw [h2]
  simp
theorem take_set' (ys : List S55) (i : Nat) (hi : i < ys.length) (a : S55) (r : List S55) : ys.take i ++ a :: r = (ys.set i a).take (i + 1) ++ r := by
  have h := take_keep (ys.set i a) i (by rw [List.length_set]; exact hi) r
  have e : rd_T55 (ys.set i a) (i : Int) = a := by
    unfold rd_T55
    rw [Int.toNat_natCast, List.getD_eq_getElem?_getD, List.getElem?_set_self hi]
    rfl
  rw [e, List.take_set_of_le (Nat.le_refl i)] at h
  exact h
set_option maxHeartbeats 16000000 in
set_option maxRecDepth 1000000 in
theorem minutes_calls {n0 : Nat} {w0 w : World} (vi : Value) (xs : List S55) (hR : Kd.R k55 55 w n0 (fun _ => True) vi xs) (hB : Below n0 w0 w) (hn : n0 ≤ w.heap.size) :
    Calls Tryz.prog 28 #[vi] w fun e w' => e = .returned (.tuple #[]) ∧ Below n0 w0 w' ∧ Kd.R k55 55 w' n0 (fun _ => True) vi (minL ⟨#[]⟩ xs) ∧ KOther w w' vi := by
  obtain ⟨A, c, rfl, hlc, hC⟩ := Kd.R_reads hR
  have HM := Aside0.mk (Kd.C_max hC)
  have HLC := Aside0.mk hlc
  have HRS := Aside0.mk hR
  have HBS := Aside0.mk hB
  have HNS := Aside0.mk hn
  clear hR hC hB hlc hn
  obtain ⟨N, hN⟩ : ∃ N, xs.length = N := ⟨_, rfl⟩
  have HNX := Aside0.mk hN
  rw [hN] at HRS HM HLC
  rw [hN]
  clear hN
  go_enter Tryz.func28, Tryz.ntmps28
  go_wp2
  go_loopg [2, 7] N (fun g v2 v7 wx => ∃ (i : Nat) (ah : ByteArray) (ys : List S55), v2 = .string ah ∧ v7 = .int .i64 (i : Int) ∧ Aside0 (i + g = N) ∧ Aside0 (ys.length = N) ∧ Aside0 (ys.take i ++ minL ah (ys.drop i) = minL ⟨#[]⟩ xs) ∧ Aside0 (Kd.R k55 55 wx n0 (fun _ => True) (.slice A N c) ys) ∧ Aside0 (KOther w wx (.slice A N c)) ∧ Aside0 (Below n0 w0 wx))
  case atStart => exact ⟨0, ⟨#[]⟩, xs, rfl, rfl, ⟨Nat.zero_add _⟩, HNX, ⟨rfl⟩, HRS, ⟨Nat.le_refl _, fun _ _ _ => rfl⟩, HBS⟩
  case round =>
    clear HRS HBS HNX
    obtain ⟨i, ah, ys, rfl, rfl, HG, HY, HF, HR, HO, HB⟩ := hrel
    cases gk with
    | zero =>
      have hi : i = N := by have := HG.out; simpa using this
      have y1 : decide ((i : Int) < (N : Int)) = false := decide_eq_false (by rw [hi]; exact Int.lt_irrefl _)
      have y2 : decide (i < N) = false := decide_eq_false (by rw [hi]; exact Nat.lt_irrefl _)
      have hf := HF.out
      rw [List.drop_of_length_le (by rw [hi, HY.out]; exact Nat.le_refl _), List.take_of_length_le (by rw [hi, HY.out]; exact Nat.le_refl _)] at hf
      simp only [minL, List.append_nil] at hf
      subst hf
      clear hi
      go_wp2
      go_end0
      exact ⟨rfl, HB.out, HR.out, HO.out⟩
    | succ g1 =>
      have hi : i < N := by have := HG.out; omega
      have hiy : i < ys.length := by rw [HY.out]; exact hi
      have y1 : decide ((i : Int) < (N : Int)) = true := decide_eq_true (Int.ofNat_lt.2 hi)
      have y2 : decide (i < N) = true := decide_eq_true hi
      have y3 : ((i : Int) < (N : Int)) = True := eq_true (Int.ofNat_lt.2 hi)
      have y4 : (i < N) = True := eq_true hi
      have y5 : ((i : Int) + 1 ≤ (N : Int)) = True := eq_true (Int.ofNat_le.2 hi)
      have y6 : (((i + 1 : Nat) : Int) ≤ (N : Int)) = True := eq_true (Int.ofNat_le.2 hi)
      have y7 : (i + 1 ≤ N) = True := eq_true hi
      have HI := Aside0.mk hi
      obtain ⟨g0, cap, e1, gb, gl, cells0, hg0⟩ := Kd.R_form HR.out (Nat.lt_of_le_of_lt (Nat.zero_le i) hiy)
      injection e1 with e2 e4 e3
      clear e4
      subst e2
      have GB := Aside0.mk gb
      have HOW : Aside0 ((Value.slice (some ⟨g0, 0, none⟩) N c).ownBlock = some g0) := ⟨by simp [Value.ownBlock]⟩
      have ng1 : g0 ≠ wr.heap.size := Nat.ne_of_lt gl
      have ng2 : wr.heap.size ≠ g0 := Nat.ne_of_gt gl
      obtain ⟨ad, eA, t0, t1, t2⟩ := at_T55 (Kd.R_reads' HR.out).2.2 (i : Int) (Int.natCast_nonneg i) (Int.ofNat_lt.2 hiy)
      cases eA
      simp only [add_plain, Int.toNat_natCast] at t0 t1 t2
      have hf := HF.out
      rw [rd_drop ys i hiy] at hf
      have hwi : wrap64 ((i : Int) + 1) = ((i + 1 : Nat) : Int) := (i64_w _).symm.trans (IntWalk.i64_in ((i + 1 : Nat) : Int) ⟨Int.le_trans (by decide) (Int.natCast_nonneg _), Int.le_trans (Int.ofNat_le.2 hi) (Int.ofNat_le.2 HM.out)⟩)
      have HWI := Aside0.mk hwi
      simp only [minL] at hf
      have HCN := Aside0.mk (Kd.C_drop (m := i + 1) (Kd.R_reads' HR.out).2.2 hiy (Nat.le_trans (Nat.le_of_eq HY.out) HLC.out))
      have HIY := Aside0.mk hiy
      have HTK := take_keep ys i hiy
      have HTS := take_set' ys i hiy
      have HRT : Aside0 (∀ W, Kd.R k55 55 W n0 (fun _ => True) (.slice (some ⟨g0, 0, none⟩) N c) ys → Kd.R k55 55 (W.setCell ⟨g0, i * 3 + 1, none⟩ (.string ⟨#[110]⟩)) n0 (fun _ => True) (.slice (some ⟨g0, 0, none⟩) N c) (ys.set i ⟨(rd_T55 ys (i : Int)).f0, ⟨#[110]⟩, (rd_T55 ys (i : Int)).f2⟩)) := ⟨fun W h => row_text h hi _⟩
      have HT1 := Aside0.mk HTK
      have HT2 := Aside0.mk HTS
      clear hi hiy hwi gb gl hg0 e3 HTK HTS
      have HLN : Aside0 ((ys.drop (i + 1)).length = N - (i + 1)) := ⟨by rw [List.length_drop, HY.out]⟩
      rw [show k55.sz = 3 from rfl, Option.map_some] at HCN
      obtain ⟨X, hX⟩ : ∃ X, rd_T55 ys (i : Int) = X := ⟨_, rfl⟩
      rw [hX] at t0 t1 t2 hf HRT HT1
      have HX := Aside0.mk hX
      clear hX
      have hu := unit_f X
      cases hun : unitB X with
      | false =>
        rw [hun] at hf hu
        rw [if_neg (by simp)] at hf
        have HU := Aside0.mk hu
        have HF2 := Aside0.mk hf
        clear hf hu hun
        go_wp2_with (first | (go_at_call 58; (with_reducible refine (item_unit.calls X.f0 X.f1 X.f2 _ _ HU.out).mono ?_); rintro e w2 ⟨rfl, hb2⟩; have hbb := (below_alloc (Below.refl wr.heap.size wr) (.cells #[.int .i64 X.f0, .string X.f1, .int .i64 X.f2] 55)).trans (hb2.mono (below_alloc (Below.refl _ wr) _).size); have HBB2 := Aside0.mk hbb; have HR2 := Aside0.mk (Kd.R_below HR.out hbb); have HK2 := Aside0.mk ((hb2.block wr.heap.size (blk_lt (World.alloc_heap_new wr _))).trans (World.alloc_heap_new wr _)); have e0 : w2.cell? ⟨g0, (i : Int).toNat * 3 + 1, none⟩ = some (.string X.f1) := (by rw [← HX.out]; exact row_cell HR2.out HI.out); have f0 : w2.frozen? ⟨g0, (i : Int).toNat * 3 + 1, none⟩ = false := row_frozen HR2.out HI.out; rw [Int.toNat_natCast] at e0 f0; have k40 : w2.cell? ⟨wr.heap.size, 0, none⟩ = some (.int .i64 X.f0) := (blk_cell HK2.out 0).trans rfl; have k41 : w2.cell? ⟨wr.heap.size, 1, none⟩ = some (.string X.f1) := (blk_cell HK2.out 1).trans rfl; have k42 : w2.cell? ⟨wr.heap.size, 2, none⟩ = some (.int .i64 X.f2) := (blk_cell HK2.out 2).trans rfl; clear hb2 hbb))
        go_roundg g1
        case measure => omega
        case rel => exact ⟨i + 1, ah, ys, rfl, by first | exact congrArg (Value.int .i64) HWI.out | rfl | (rw [HSQ.out]) | simp, ⟨by have := HG.out; omega⟩, HY, ⟨by rw [← HT1.out]; exact HF2.out⟩, HR2, ⟨HO.out.below HBB2.out⟩, ⟨(HB.out.trans (HBB2.out.mono (Nat.le_trans HNS.out HO.out.1)))⟩⟩
      | true =>
        rw [hun] at hf hu
        rw [if_pos rfl] at hf
        have HU := Aside0.mk hu
        clear hu hun
        by_cases c12 : X.f0 = 12
        · have d12 : (X.f0 == 12) = true := beq_iff_eq.mpr c12
          by_cases cm : X.f1.toList = [109]
          · have dm : (X.f1.toList == ([109] : List UInt8)) = true := beq_iff_eq.mpr cm
            by_cases c2 : X.f2 ≤ 2
            · have d2 : decide (X.f2 ≤ 2) = true := decide_eq_true c2
              by_cases ca : ah.toList = [104]
              · have da : (ah.toList == ([104] : List UInt8)) = true := beq_iff_eq.mpr ca
                rw [if_pos ⟨c12, cm, c2, Or.inl ca⟩] at hf
                have HF2 := Aside0.mk hf
                clear hf c12 cm c2 ca
                go_wp2_with (first | (go_at_call 58; (with_reducible refine (item_unit.calls X.f0 X.f1 X.f2 _ _ HU.out).mono ?_); rintro e w2 ⟨rfl, hb2⟩; have hbb := (below_alloc (Below.refl wr.heap.size wr) (.cells #[.int .i64 X.f0, .string X.f1, .int .i64 X.f2] 55)).trans (hb2.mono (below_alloc (Below.refl _ wr) _).size); have HBB2 := Aside0.mk hbb; have HR2 := Aside0.mk (Kd.R_below HR.out hbb); have HK2 := Aside0.mk ((hb2.block wr.heap.size (blk_lt (World.alloc_heap_new wr _))).trans (World.alloc_heap_new wr _)); have e0 : w2.cell? ⟨g0, (i : Int).toNat * 3 + 1, none⟩ = some (.string X.f1) := (by rw [← HX.out]; exact row_cell HR2.out HI.out); have f0 : w2.frozen? ⟨g0, (i : Int).toNat * 3 + 1, none⟩ = false := row_frozen HR2.out HI.out; rw [Int.toNat_natCast] at e0 f0; have k40 : w2.cell? ⟨wr.heap.size, 0, none⟩ = some (.int .i64 X.f0) := (blk_cell HK2.out 0).trans rfl; have k41 : w2.cell? ⟨wr.heap.size, 1, none⟩ = some (.string X.f1) := (blk_cell HK2.out 1).trans rfl; have k42 : w2.cell? ⟨wr.heap.size, 2, none⟩ = some (.int .i64 X.f2) := (blk_cell HK2.out 2).trans rfl; clear hb2 hbb))
                go_roundg g1
                case measure => omega
                case rel => exact ⟨i + 1, X.f1, ys.set i ⟨X.f0, ⟨#[110]⟩, X.f2⟩, rfl, by first | exact congrArg (Value.int .i64) HWI.out | rfl | (rw [HSQ.out]) | simp, ⟨by have := HG.out; omega⟩, ⟨by rw [List.length_set]; exact HY.out⟩, ⟨by rw [List.drop_set_of_lt (Nat.lt_succ_self i)]; rw [← HT2.out]; exact HF2.out⟩, ⟨HRT.out _ HR2.out⟩, ⟨(HO.out.below HBB2.out).set HOW.out⟩, ⟨Below.setCell (HB.out.trans (HBB2.out.mono (Nat.le_trans HNS.out HO.out.1))) GB.out _⟩⟩
              · have da : (ah.toList == ([104] : List UInt8)) = false := beq_eq_false_iff_ne.mpr ca
                obtain ⟨s, hs⟩ : ∃ s : Nat, i + 1 = s := ⟨_, rfl⟩
                have vw1 : wrap64 ((i : Int) + 1) = (s : Int) := by rw [← hs]; exact HWI.out
                have vw2 : IntKind.i64.wrap ((i : Int) + 1) = (s : Int) := (i64_w _).trans vw1
                have vw3 : wrap64 (s : Int) = (s : Int) := by rw [← vw1]; exact (i64_w _).symm.trans (by rw [vw1]; exact IntWalk.i64_in _ ⟨Int.le_trans (by decide) (Int.natCast_nonneg _), by rw [← hs]; exact Int.le_trans (Int.ofNat_le.2 HI.out) (Int.ofNat_le.2 HM.out)⟩)
                have u1 : (0 ≤ (s : Int)) = True := eq_true (Int.natCast_nonneg s)
                have u2 : ((s : Int) ≤ (N : Int)) = True := eq_true (by rw [← hs]; exact Int.ofNat_le.2 HI.out)
                have u3 : (s ≤ N) = True := eq_true (by rw [← hs]; exact HI.out)
                have u4 : ((N : Int) ≤ (c : Int)) = True := eq_true (Int.ofNat_le.2 HLC.out)
                have u5 : (N ≤ c) = True := eq_true HLC.out
                rw [hs] at HCN HLN
                have HSQ := Aside0.mk hs
                clear hs y5 y6 y7
                by_cases hcs : c = s
                · rw [if_pos hcs] at HCN
                  have ucs := eq_true hcs
                  clear hcs
                  by_cases cn : (nextF (ys.drop s)).toList = [115]
                  · have dn : ((nextF (ys.drop s)).toList == ([115] : List UInt8)) = true := beq_iff_eq.mpr cn
                    rw [if_pos ⟨c12, cm, c2, Or.inr (by rw [HSQ.out]; exact cn)⟩] at hf
                    have HF2 := Aside0.mk hf
                    clear hf c12 cm c2 ca cn
                    go_wp2_with (first | (go_at_call 58; (with_reducible refine (item_unit.calls X.f0 X.f1 X.f2 _ _ HU.out).mono ?_); rintro e w2 ⟨rfl, hb2⟩; have hbb := (below_alloc (Below.refl wr.heap.size wr) (.cells #[.int .i64 X.f0, .string X.f1, .int .i64 X.f2] 55)).trans (hb2.mono (below_alloc (Below.refl _ wr) _).size); have HBB2 := Aside0.mk hbb; have HR2 := Aside0.mk (Kd.R_below HR.out hbb); have HK2 := Aside0.mk ((hb2.block wr.heap.size (blk_lt (World.alloc_heap_new wr _))).trans (World.alloc_heap_new wr _)); have e0 : w2.cell? ⟨g0, (i : Int).toNat * 3 + 1, none⟩ = some (.string X.f1) := (by rw [← HX.out]; exact row_cell HR2.out HI.out); have f0 : w2.frozen? ⟨g0, (i : Int).toNat * 3 + 1, none⟩ = false := row_frozen HR2.out HI.out; rw [Int.toNat_natCast] at e0 f0; have k40 : w2.cell? ⟨wr.heap.size, 0, none⟩ = some (.int .i64 X.f0) := (blk_cell HK2.out 0).trans rfl; have k41 : w2.cell? ⟨wr.heap.size, 1, none⟩ = some (.string X.f1) := (blk_cell HK2.out 1).trans rfl; have k42 : w2.cell? ⟨wr.heap.size, 2, none⟩ = some (.int .i64 X.f2) := (blk_cell HK2.out 2).trans rfl; clear hb2 hbb) | (go_at_call 59; (with_reducible refine (next_calls_n _ _ _ (ys.drop s) _ HLN.out (Kd.C_below HCN.out HBB2.out)).mono ?_); rintro e w3 ⟨rfl, hb3⟩; have hbb := HBB2.out.trans (hb3.mono HBB2.out.size); have HBB3 := Aside0.mk hbb; have HR3 := Aside0.mk (Kd.R_below HR2.out hb3); have HK3 := Aside0.mk ((hb3.block wr.heap.size (blk_lt HK2.out)).trans HK2.out); clear e0 f0 k40 k41 k42; have e0 : w3.cell? ⟨g0, (i : Int).toNat * 3 + 1, none⟩ = some (.string X.f1) := (by rw [← HX.out]; exact row_cell HR3.out HI.out); have f0 : w3.frozen? ⟨g0, (i : Int).toNat * 3 + 1, none⟩ = false := row_frozen HR3.out HI.out; rw [Int.toNat_natCast] at e0 f0; have k40 : w3.cell? ⟨wr.heap.size, 0, none⟩ = some (.int .i64 X.f0) := (blk_cell HK3.out 0).trans rfl; have k41 : w3.cell? ⟨wr.heap.size, 1, none⟩ = some (.string X.f1) := (blk_cell HK3.out 1).trans rfl; have k42 : w3.cell? ⟨wr.heap.size, 2, none⟩ = some (.int .i64 X.f2) := (blk_cell HK3.out 2).trans rfl; clear hb3 hbb))
                    go_roundg g1
                    case measure => omega
                    case rel => exact ⟨i + 1, X.f1, ys.set i ⟨X.f0, ⟨#[110]⟩, X.f2⟩, rfl, by first | exact congrArg (Value.int .i64) HWI.out | rfl | (rw [HSQ.out]) | simp, ⟨by have := HG.out; omega⟩, ⟨by rw [List.length_set]; exact HY.out⟩, ⟨by rw [List.drop_set_of_lt (Nat.lt_succ_self i)]; rw [← HT2.out]; exact HF2.out⟩, ⟨HRT.out _ HR3.out⟩, ⟨(HO.out.below HBB3.out).set HOW.out⟩, ⟨Below.setCell (HB.out.trans (HBB3.out.mono (Nat.le_trans HNS.out HO.out.1))) GB.out _⟩⟩
                  · have dn : ((nextF (ys.drop s)).toList == ([115] : List UInt8)) = false := beq_eq_false_iff_ne.mpr cn
                    rw [if_neg (fun e => by rcases e.2.2.2 with e | e; exact ca e; exact cn (by rw [← HSQ.out]; exact e))] at hf
                    have HF2 := Aside0.mk hf
                    clear hf c12 cm c2 ca cn
                    go_wp2_with (first | (go_at_call 58; (with_reducible refine (item_unit.calls X.f0 X.f1 X.f2 _ _ HU.out).mono ?_); rintro e w2 ⟨rfl, hb2⟩; have hbb := (below_alloc (Below.refl wr.heap.size wr) (.cells #[.int .i64 X.f0, .string X.f1, .int .i64 X.f2] 55)).trans (hb2.mono (below_alloc (Below.refl _ wr) _).size); have HBB2 := Aside0.mk hbb; have HR2 := Aside0.mk (Kd.R_below HR.out hbb); have HK2 := Aside0.mk ((hb2.block wr.heap.size (blk_lt (World.alloc_heap_new wr _))).trans (World.alloc_heap_new wr _)); have e0 : w2.cell? ⟨g0, (i : Int).toNat * 3 + 1, none⟩ = some (.string X.f1) := (by rw [← HX.out]; exact row_cell HR2.out HI.out); have f0 : w2.frozen? ⟨g0, (i : Int).toNat * 3 + 1, none⟩ = false := row_frozen HR2.out HI.out; rw [Int.toNat_natCast] at e0 f0; have k40 : w2.cell? ⟨wr.heap.size, 0, none⟩ = some (.int .i64 X.f0) := (blk_cell HK2.out 0).trans rfl; have k41 : w2.cell? ⟨wr.heap.size, 1, none⟩ = some (.string X.f1) := (blk_cell HK2.out 1).trans rfl; have k42 : w2.cell? ⟨wr.heap.size, 2, none⟩ = some (.int .i64 X.f2) := (blk_cell HK2.out 2).trans rfl; clear hb2 hbb) | (go_at_call 59; (with_reducible refine (next_calls_n _ _ _ (ys.drop s) _ HLN.out (Kd.C_below HCN.out HBB2.out)).mono ?_); rintro e w3 ⟨rfl, hb3⟩; have hbb := HBB2.out.trans (hb3.mono HBB2.out.size); have HBB3 := Aside0.mk hbb; have HR3 := Aside0.mk (Kd.R_below HR2.out hb3); have HK3 := Aside0.mk ((hb3.block wr.heap.size (blk_lt HK2.out)).trans HK2.out); clear e0 f0 k40 k41 k42; have e0 : w3.cell? ⟨g0, (i : Int).toNat * 3 + 1, none⟩ = some (.string X.f1) := (by rw [← HX.out]; exact row_cell HR3.out HI.out); have f0 : w3.frozen? ⟨g0, (i : Int).toNat * 3 + 1, none⟩ = false := row_frozen HR3.out HI.out; rw [Int.toNat_natCast] at e0 f0; have k40 : w3.cell? ⟨wr.heap.size, 0, none⟩ = some (.int .i64 X.f0) := (blk_cell HK3.out 0).trans rfl; have k41 : w3.cell? ⟨wr.heap.size, 1, none⟩ = some (.string X.f1) := (blk_cell HK3.out 1).trans rfl; have k42 : w3.cell? ⟨wr.heap.size, 2, none⟩ = some (.int .i64 X.f2) := (blk_cell HK3.out 2).trans rfl; clear hb3 hbb))
                    go_roundg g1
                    case measure => omega
                    case rel => exact ⟨i + 1, X.f1, ys, rfl, by first | exact congrArg (Value.int .i64) HWI.out | rfl | (rw [HSQ.out]) | simp, ⟨by have := HG.out; omega⟩, HY, ⟨by rw [← HT1.out]; exact HF2.out⟩, HR3, ⟨HO.out.below HBB3.out⟩, ⟨(HB.out.trans (HBB3.out.mono (Nat.le_trans HNS.out HO.out.1)))⟩⟩
                · rw [if_neg hcs] at HCN
                  rw [add_plain] at HCN
                  have ucs := eq_false hcs
                  clear hcs
                  by_cases cn : (nextF (ys.drop s)).toList = [115]
                  · have dn : ((nextF (ys.drop s)).toList == ([115] : List UInt8)) = true := beq_iff_eq.mpr cn
                    rw [if_pos ⟨c12, cm, c2, Or.inr (by rw [HSQ.out]; exact cn)⟩] at hf
                    have HF2 := Aside0.mk hf
                    clear hf c12 cm c2 ca cn
                    go_wp2_with (first | (go_at_call 58; (with_reducible refine (item_unit.calls X.f0 X.f1 X.f2 _ _ HU.out).mono ?_); rintro e w2 ⟨rfl, hb2⟩; have hbb := (below_alloc (Below.refl wr.heap.size wr) (.cells #[.int .i64 X.f0, .string X.f1, .int .i64 X.f2] 55)).trans (hb2.mono (below_alloc (Below.refl _ wr) _).size); have HBB2 := Aside0.mk hbb; have HR2 := Aside0.mk (Kd.R_below HR.out hbb); have HK2 := Aside0.mk ((hb2.block wr.heap.size (blk_lt (World.alloc_heap_new wr _))).trans (World.alloc_heap_new wr _)); have e0 : w2.cell? ⟨g0, (i : Int).toNat * 3 + 1, none⟩ = some (.string X.f1) := (by rw [← HX.out]; exact row_cell HR2.out HI.out); have f0 : w2.frozen? ⟨g0, (i : Int).toNat * 3 + 1, none⟩ = false := row_frozen HR2.out HI.out; rw [Int.toNat_natCast] at e0 f0; have k40 : w2.cell? ⟨wr.heap.size, 0, none⟩ = some (.int .i64 X.f0) := (blk_cell HK2.out 0).trans rfl; have k41 : w2.cell? ⟨wr.heap.size, 1, none⟩ = some (.string X.f1) := (blk_cell HK2.out 1).trans rfl; have k42 : w2.cell? ⟨wr.heap.size, 2, none⟩ = some (.int .i64 X.f2) := (blk_cell HK2.out 2).trans rfl; clear hb2 hbb) | (go_at_call 59; (with_reducible refine (next_calls_n _ _ _ (ys.drop s) _ HLN.out (Kd.C_below HCN.out HBB2.out)).mono ?_); rintro e w3 ⟨rfl, hb3⟩; have hbb := HBB2.out.trans (hb3.mono HBB2.out.size); have HBB3 := Aside0.mk hbb; have HR3 := Aside0.mk (Kd.R_below HR2.out hb3); have HK3 := Aside0.mk ((hb3.block wr.heap.size (blk_lt HK2.out)).trans HK2.out); clear e0 f0 k40 k41 k42; have e0 : w3.cell? ⟨g0, (i : Int).toNat * 3 + 1, none⟩ = some (.string X.f1) := (by rw [← HX.out]; exact row_cell HR3.out HI.out); have f0 : w3.frozen? ⟨g0, (i : Int).toNat * 3 + 1, none⟩ = false := row_frozen HR3.out HI.out; rw [Int.toNat_natCast] at e0 f0; have k40 : w3.cell? ⟨wr.heap.size, 0, none⟩ = some (.int .i64 X.f0) := (blk_cell HK3.out 0).trans rfl; have k41 : w3.cell? ⟨wr.heap.size, 1, none⟩ = some (.string X.f1) := (blk_cell HK3.out 1).trans rfl; have k42 : w3.cell? ⟨wr.heap.size, 2, none⟩ = some (.int .i64 X.f2) := (blk_cell HK3.out 2).trans rfl; clear hb3 hbb))
                    go_roundg g1
                    case measure => omega
                    case rel => exact ⟨i + 1, X.f1, ys.set i ⟨X.f0, ⟨#[110]⟩, X.f2⟩, rfl, by first | exact congrArg (Value.int .i64) HWI.out | rfl | (rw [HSQ.out]) | simp, ⟨by have := HG.out; omega⟩, ⟨by rw [List.length_set]; exact HY.out⟩, ⟨by rw [List.drop_set_of_lt (Nat.lt_succ_self i)]; rw [← HT2.out]; exact HF2.out⟩, ⟨HRT.out _ HR3.out⟩, ⟨(HO.out.below HBB3.out).set HOW.out⟩, ⟨Below.setCell (HB.out.trans (HBB3.out.mono (Nat.le_trans HNS.out HO.out.1))) GB.out _⟩⟩
                  · have dn : ((nextF (ys.drop s)).toList == ([115] : List UInt8)) = false := beq_eq_false_iff_ne.mpr cn
                    rw [if_neg (fun e => by rcases e.2.2.2 with e | e; exact ca e; exact cn (by rw [← HSQ.out]; exact e))] at hf
                    have HF2 := Aside0.mk hf
                    clear hf c12 cm c2 ca cn
                    go_wp2_with (first | (go_at_call 58; (with_reducible refine (item_unit.calls X.f0 X.f1 X.f2 _ _ HU.out).mono ?_); rintro e w2 ⟨rfl, hb2⟩; have hbb := (below_alloc (Below.refl wr.heap.size wr) (.cells #[.int .i64 X.f0, .string X.f1, .int .i64 X.f2] 55)).trans (hb2.mono (below_alloc (Below.refl _ wr) _).size); have HBB2 := Aside0.mk hbb; have HR2 := Aside0.mk (Kd.R_below HR.out hbb); have HK2 := Aside0.mk ((hb2.block wr.heap.size (blk_lt (World.alloc_heap_new wr _))).trans (World.alloc_heap_new wr _)); have e0 : w2.cell? ⟨g0, (i : Int).toNat * 3 + 1, none⟩ = some (.string X.f1) := (by rw [← HX.out]; exact row_cell HR2.out HI.out); have f0 : w2.frozen? ⟨g0, (i : Int).toNat * 3 + 1, none⟩ = false := row_frozen HR2.out HI.out; rw [Int.toNat_natCast] at e0 f0; have k40 : w2.cell? ⟨wr.heap.size, 0, none⟩ = some (.int .i64 X.f0) := (blk_cell HK2.out 0).trans rfl; have k41 : w2.cell? ⟨wr.heap.size, 1, none⟩ = some (.string X.f1) := (blk_cell HK2.out 1).trans rfl; have k42 : w2.cell? ⟨wr.heap.size, 2, none⟩ = some (.int .i64 X.f2) := (blk_cell HK2.out 2).trans rfl; clear hb2 hbb) | (go_at_call 59; (with_reducible refine (next_calls_n _ _ _ (ys.drop s) _ HLN.out (Kd.C_below HCN.out HBB2.out)).mono ?_); rintro e w3 ⟨rfl, hb3⟩; have hbb := HBB2.out.trans (hb3.mono HBB2.out.size); have HBB3 := Aside0.mk hbb; have HR3 := Aside0.mk (Kd.R_below HR2.out hb3); have HK3 := Aside0.mk ((hb3.block wr.heap.size (blk_lt HK2.out)).trans HK2.out); clear e0 f0 k40 k41 k42; have e0 : w3.cell? ⟨g0, (i : Int).toNat * 3 + 1, none⟩ = some (.string X.f1) := (by rw [← HX.out]; exact row_cell HR3.out HI.out); have f0 : w3.frozen? ⟨g0, (i : Int).toNat * 3 + 1, none⟩ = false := row_frozen HR3.out HI.out; rw [Int.toNat_natCast] at e0 f0; have k40 : w3.cell? ⟨wr.heap.size, 0, none⟩ = some (.int .i64 X.f0) := (blk_cell HK3.out 0).trans rfl; have k41 : w3.cell? ⟨wr.heap.size, 1, none⟩ = some (.string X.f1) := (blk_cell HK3.out 1).trans rfl; have k42 : w3.cell? ⟨wr.heap.size, 2, none⟩ = some (.int .i64 X.f2) := (blk_cell HK3.out 2).trans rfl; clear hb3 hbb))
                    go_roundg g1
                    case measure => omega
                    case rel => exact ⟨i + 1, X.f1, ys, rfl, by first | exact congrArg (Value.int .i64) HWI.out | rfl | (rw [HSQ.out]) | simp, ⟨by have := HG.out; omega⟩, HY, ⟨by rw [← HT1.out]; exact HF2.out⟩, HR3, ⟨HO.out.below HBB3.out⟩, ⟨(HB.out.trans (HBB3.out.mono (Nat.le_trans HNS.out HO.out.1)))⟩⟩
            · have d2 : decide (X.f2 ≤ 2) = false := decide_eq_false c2
              rw [if_neg (fun e => c2 e.2.2.1)] at hf
              have HF2 := Aside0.mk hf
              clear hf c12 cm c2
              go_wp2_with (first | (go_at_call 58; (with_reducible refine (item_unit.calls X.f0 X.f1 X.f2 _ _ HU.out).mono ?_); rintro e w2 ⟨rfl, hb2⟩; have hbb := (below_alloc (Below.refl wr.heap.size wr) (.cells #[.int .i64 X.f0, .string X.f1, .int .i64 X.f2] 55)).trans (hb2.mono (below_alloc (Below.refl _ wr) _).size); have HBB2 := Aside0.mk hbb; have HR2 := Aside0.mk (Kd.R_below HR.out hbb); have HK2 := Aside0.mk ((hb2.block wr.heap.size (blk_lt (World.alloc_heap_new wr _))).trans (World.alloc_heap_new wr _)); have e0 : w2.cell? ⟨g0, (i : Int).toNat * 3 + 1, none⟩ = some (.string X.f1) := (by rw [← HX.out]; exact row_cell HR2.out HI.out); have f0 : w2.frozen? ⟨g0, (i : Int).toNat * 3 + 1, none⟩ = false := row_frozen HR2.out HI.out; rw [Int.toNat_natCast] at e0 f0; have k40 : w2.cell? ⟨wr.heap.size, 0, none⟩ = some (.int .i64 X.f0) := (blk_cell HK2.out 0).trans rfl; have k41 : w2.cell? ⟨wr.heap.size, 1, none⟩ = some (.string X.f1) := (blk_cell HK2.out 1).trans rfl; have k42 : w2.cell? ⟨wr.heap.size, 2, none⟩ = some (.int .i64 X.f2) := (blk_cell HK2.out 2).trans rfl; clear hb2 hbb))
              go_roundg g1
              case measure => omega
              case rel => exact ⟨i + 1, X.f1, ys, rfl, by first | exact congrArg (Value.int .i64) HWI.out | rfl | (rw [HSQ.out]) | simp, ⟨by have := HG.out; omega⟩, HY, ⟨by rw [← HT1.out]; exact HF2.out⟩, HR2, ⟨HO.out.below HBB2.out⟩, ⟨(HB.out.trans (HBB2.out.mono (Nat.le_trans HNS.out HO.out.1)))⟩⟩
          · have dm : (X.f1.toList == ([109] : List UInt8)) = false := beq_eq_false_iff_ne.mpr cm
            rw [if_neg (fun e => cm e.2.1)] at hf
            have HF2 := Aside0.mk hf
            clear hf c12 cm
            go_wp2_with (first | (go_at_call 58; (with_reducible refine (item_unit.calls X.f0 X.f1 X.f2 _ _ HU.out).mono ?_); rintro e w2 ⟨rfl, hb2⟩; have hbb := (below_alloc (Below.refl wr.heap.size wr) (.cells #[.int .i64 X.f0, .string X.f1, .int .i64 X.f2] 55)).trans (hb2.mono (below_alloc (Below.refl _ wr) _).size); have HBB2 := Aside0.mk hbb; have HR2 := Aside0.mk (Kd.R_below HR.out hbb); have HK2 := Aside0.mk ((hb2.block wr.heap.size (blk_lt (World.alloc_heap_new wr _))).trans (World.alloc_heap_new wr _)); have e0 : w2.cell? ⟨g0, (i : Int).toNat * 3 + 1, none⟩ = some (.string X.f1) := (by rw [← HX.out]; exact row_cell HR2.out HI.out); have f0 : w2.frozen? ⟨g0, (i : Int).toNat * 3 + 1, none⟩ = false := row_frozen HR2.out HI.out; rw [Int.toNat_natCast] at e0 f0; have k40 : w2.cell? ⟨wr.heap.size, 0, none⟩ = some (.int .i64 X.f0) := (blk_cell HK2.out 0).trans rfl; have k41 : w2.cell? ⟨wr.heap.size, 1, none⟩ = some (.string X.f1) := (blk_cell HK2.out 1).trans rfl; have k42 : w2.cell? ⟨wr.heap.size, 2, none⟩ = some (.int .i64 X.f2) := (blk_cell HK2.out 2).trans rfl; clear hb2 hbb))
            go_roundg g1
            case measure => omega
            case rel => exact ⟨i + 1, X.f1, ys, rfl, by first | exact congrArg (Value.int .i64) HWI.out | rfl | (rw [HSQ.out]) | simp, ⟨by have := HG.out; omega⟩, HY, ⟨by rw [← HT1.out]; exact HF2.out⟩, HR2, ⟨HO.out.below HBB2.out⟩, ⟨(HB.out.trans (HBB2.out.mono (Nat.le_trans HNS.out HO.out.1)))⟩⟩
        · have d12 : (X.f0 == 12) = false := beq_eq_false_iff_ne.mpr c12
          rw [if_neg (fun e => c12 e.1)] at hf
          have HF2 := Aside0.mk hf
          clear hf c12
          go_wp2_with (first | (go_at_call 58; (with_reducible refine (item_unit.calls X.f0 X.f1 X.f2 _ _ HU.out).mono ?_); rintro e w2 ⟨rfl, hb2⟩; have hbb := (below_alloc (Below.refl wr.heap.size wr) (.cells #[.int .i64 X.f0, .string X.f1, .int .i64 X.f2] 55)).trans (hb2.mono (below_alloc (Below.refl _ wr) _).size); have HBB2 := Aside0.mk hbb; have HR2 := Aside0.mk (Kd.R_below HR.out hbb); have HK2 := Aside0.mk ((hb2.block wr.heap.size (blk_lt (World.alloc_heap_new wr _))).trans (World.alloc_heap_new wr _)); have e0 : w2.cell? ⟨g0, (i : Int).toNat * 3 + 1, none⟩ = some (.string X.f1) := (by rw [← HX.out]; exact row_cell HR2.out HI.out); have f0 : w2.frozen? ⟨g0, (i : Int).toNat * 3 + 1, none⟩ = false := row_frozen HR2.out HI.out; rw [Int.toNat_natCast] at e0 f0; have k40 : w2.cell? ⟨wr.heap.size, 0, none⟩ = some (.int .i64 X.f0) := (blk_cell HK2.out 0).trans rfl; have k41 : w2.cell? ⟨wr.heap.size, 1, none⟩ = some (.string X.f1) := (blk_cell HK2.out 1).trans rfl; have k42 : w2.cell? ⟨wr.heap.size, 2, none⟩ = some (.int .i64 X.f2) := (blk_cell HK2.out 2).trans rfl; clear hb2 hbb))
          go_roundg g1
          case measure => omega
          case rel => exact ⟨i + 1, X.f1, ys, rfl, by first | exact congrArg (Value.int .i64) HWI.out | rfl | (rw [HSQ.out]) | simp, ⟨by have := HG.out; omega⟩, HY, ⟨by rw [← HT1.out]; exact HF2.out⟩, HR2, ⟨HO.out.below HBB2.out⟩, ⟨(HB.out.trans (HBB2.out.mono (Nat.le_trans HNS.out HO.out.1)))⟩⟩
end Go.Proofs.YtiidpicgdjjikaaGreatDoor.G
