import Derived.Deep.RegionWith
import Derived.Test.YtiidpicgdjjikaaGreatDoorJ4
import Derived.Test.YtiidpicgdjjikaaGreatDoorJ11
import Derived.Test.YtiidpicgdjjikaaGreatDoorJ27
import Derived.Test.YtiidpicgdjjikaaGreatDoorJ31
namespace Go.Proofs.YtiidpicgdjjikaaGreatDoor.G
open Go.RowKit Go.Lib Go.Maps Go.ChangeMaps Go.MapKept Go.Proofs Go.Proofs.YtiidpicgdjjikaaGreatDoor.P Go.Proofs.YtiidpicgdjjikaaGreatDoorW.PrintWords Go.Proofs.YtiidpicgdjjikaaGreatDoorW.PrintLast Go.Proofs.YtiidpicgdjjikaaGreatDoorW.PrintMore
set_option linter.unusedVariables false
set_option linter.unusedSimpArgs false
attribute [local go_sem] isSome_setCell_eq
def cntF : List S53 → Int → Int
  | [], n => n
  | t :: l, n => if t.f0 = 6 ∧ t.f1.toList = [48] ∧ n ≠ 3 then cntF l (n + 1) else n
def partF (k : Nat) (l : List S53) (b : BSt) : Option Int :=
  if b.sort = 5 ∧ b.pos ≠ 0 then
    (colour_Elapsed.f (rd_T53 l (b.pos - 1)).f1).bind fun e =>
      if (rd_T53 l (b.pos - 1)).f0 = 14 ∧ (rd_T53 l (b.pos - 1)).f1.toList = [115] then some (cntF (l.drop (b.pos.toNat + 1)) 0)
      else if (rd_T53 l (b.pos - 1)).f0 = 5 ∧ e.2.2 = true ∧ e.1.toList = [115] then
        (item_named.f k (rd_T53 l (b.pos - 1)).f1).bind fun nm => if nm = true then some 0 else some (cntF (l.drop (b.pos.toNat + 1)) 0)
      else some 0
  else some 0
set_option maxHeartbeats 8000000 in
set_option maxRecDepth 1000000 in
theorem part_calls (k : Nat) {n0 : Nat} {w0 w : World} {p m : Nat} {vi : Value} {A : Option Addr} {c : Nat} {l : List S53} {b : BSt} {r : Int} (hI : BInv n0 w p m vi (.slice A l.length c) b) (hB : Below n0 w0 w) (hn : n0 ≤ w.heap.size)
    (hC : Kd.C k53 w A l.length l) (hc : l.length ≤ c) (h0 : 0 ≤ b.pos) (h1 : b.pos < l.length) (h : partF k l b = some r) (HLW_ : LW w) :
    Calls Tryz.prog 54 #[.pointer (some ⟨p, 0, none⟩)] w fun e w' => e = .returned (.int .i64 r) ∧ Below w.heap.size w w' := by
  have k0 : w.cell? ⟨p, 0, none⟩ = some (.int .i64 b.sort) := (blk_cell hI.blk 0).trans rfl
  have k8 : w.cell? ⟨p, 8, none⟩ = some (.int .i64 b.pos) := (blk_cell hI.blk 8).trans rfl
  unfold partF at h
  by_cases hs : b.sort = 5
  · by_cases hp : b.pos = 0
    · rw [if_neg (fun e => e.2 hp)] at h
      obtain rfl := Option.some.inj h
      have d1 : (b.sort != 5) = false := by rw [hs]; rfl
      have d2 : (b.pos == 0) = true := by rw [hp]; rfl
      clear hs hp h0 h1
      go_enter Tryz.func54, Tryz.ntmps54
      go_wp2
      go_ret
      exact ⟨rfl, Below.refl _ _⟩
    · rw [if_pos ⟨hs, hp⟩] at h
      obtain ⟨⟨el, ec, eo⟩, a1, h⟩ := Option.bind_eq_some_iff.mp h
      have AE := Aside0.mk a1
      have H := Aside0.mk h
      clear a1 h
      have d1 : (b.sort != 5) = false := by rw [hs]; rfl
      have d2 : (b.pos == 0) = false := beq_eq_false_iff_ne.mpr hp
      obtain ⟨ad, eA, t0, t1, t2, t3⟩ := at_T53 hC (b.pos - 1) (by omega) (by omega)
      subst eA
      have k7 : w.cell? ⟨p, 7, none⟩ = some (.slice (some ad) l.length c) := (blk_cell hI.blk 7).trans rfl
      have hmx := Kd.C_max hC
      obtain ⟨j, hj⟩ : ∃ j : Int, b.pos - 1 = j := ⟨_, rfl⟩
      have hw1 : wrap64 (b.pos - 1) = j := by rw [← hj]; exact (i64_w _).symm.trans (IntWalk.i64_in _ (by omega))
      have hw2 : IntKind.i64.wrap (b.pos - 1) = j := (i64_w _).trans hw1
      have q0 : (0 ≤ j) = True := eq_true (by omega)
      have q1 : (j < (l.length : Int)) = True := eq_true (by omega)
      have HJ : Aside0 (b.pos - 1 = j ∧ 0 ≤ b.pos ∧ b.pos < l.length ∧ l.length ≤ 9223372036854775807) := ⟨hj, h0, h1, hmx⟩
      have hw3 : wrap64 j = j := by rw [← hj]; rw [hw1, hj]
      have hw4 : IntKind.i64.wrap j = j := (i64_w _).trans hw3
      rw [hj] at t0 t1 t2 t3
      replace AE : Aside0 (colour_Elapsed.f (rd_T53 l j).f1 = some (el, ec, eo)) := ⟨by rw [← hj]; exact AE.out⟩
      obtain ⟨s0, hs0⟩ : ∃ s0 : Nat, b.pos = (s0 : Int) := ⟨b.pos.toNat, (Int.toNat_of_nonneg h0).symm⟩
      obtain ⟨s, hss⟩ : ∃ s : Nat, s0 + 1 = s := ⟨_, rfl⟩
      have hs' : b.pos.toNat + 1 = s := by rw [hs0, ← hss]; rfl
      have hj1 : b.pos + 1 = (s : Int) := by rw [hs0, ← hss]; rfl
      have hsl : s ≤ l.length := by rw [hs0] at h1; rw [← hss]; exact Int.ofNat_lt.1 h1
      have hbd : (s : Int) ≤ 9223372036854775807 := Int.le_trans (Int.ofNat_le.2 hsl) (Int.ofNat_le.2 hmx)
      have v1 : wrap64 (b.pos + 1) = (s : Int) := by rw [hj1]; exact (i64_w _).symm.trans (IntWalk.i64_in _ ⟨Int.le_trans (by decide) (Int.natCast_nonneg s), hbd⟩)
      have v2 : IntKind.i64.wrap (b.pos + 1) = (s : Int) := (i64_w _).trans v1
      have v3 : wrap64 (s : Int) = (s : Int) := by rw [← hj1]; rw [v1, hj1]
      have v4 : IntKind.i64.wrap (s : Int) = (s : Int) := (i64_w _).trans v3
      have u1 : (0 ≤ (s : Int)) = True := eq_true (Int.natCast_nonneg s)
      have u2 : ((s : Int) ≤ (l.length : Int)) = True := eq_true (Int.ofNat_le.2 hsl)
      have u3 : (s ≤ l.length) = True := eq_true hsl
      have u4 : ((l.length : Int) ≤ (c : Int)) = True := eq_true (Int.ofNat_le.2 hc)
      have u5 : (l.length ≤ c) = True := eq_true hc
      have HV : Aside0 (b.pos + 1 = (s : Int) ∧ wrap64 (b.pos + 1) = (s : Int) ∧ IntKind.i64.wrap (b.pos + 1) = (s : Int) ∧ wrap64 (s : Int) = (s : Int) ∧ IntKind.i64.wrap (s : Int) = (s : Int) ∧ (0 ≤ (s : Int)) = True ∧ ((s : Int) ≤ (l.length : Int)) = True ∧ (s ≤ l.length) = True ∧ ((l.length : Int) ≤ (c : Int)) = True ∧ (l.length ≤ c) = True) := ⟨hj1, v1, v2, v3, v4, u1, u2, u3, u4, u5⟩
      have hCr := Kd.C_drop (m := s) hC hsl hc
      rw [show k53.sz = 4 from rfl, Option.map_some] at hCr
      have HCr := Aside0.mk hCr
      rw [hs'] at H
      clear hCr v1 v2 v3 v4 u1 u2 u3 u4 u5 hj1 hsl hs' hss hs0 hbd
      have HI := Aside0.mk hI
      have HN := Aside0.mk hn
      have HL := Aside0.mk HLW_
      have HC := Aside0.mk hC
      have HCc := Aside0.mk hc
      clear hs hp h0 h1 hmx hI hB hn HLW_ hC hc
      go_enter Tryz.func54, Tryz.ntmps54
      go_wp2
      go_region_held3 (fun w' => w'.cell? ⟨p, 7, none⟩ = some (.slice (some ad) l.length c) ∧ w'.cell? ⟨p, 8, none⟩ = some (.int .i64 b.pos) ∧ w'.cell? (ad.add (j.toNat * 4)) = some (.int .i64 (rd_T53 l j).f0) ∧ w'.cell? ⟨(ad.add (j.toNat * 4)).block, (ad.add (j.toNat * 4)).off + 1, none⟩ = some (.string (rd_T53 l j).f1) ∧ w'.cell? ⟨(ad.add (j.toNat * 4)).block, (ad.add (j.toNat * 4)).off + 2, none⟩ = some (.int .i64 (rd_T53 l j).f2) ∧ w'.cell? ⟨(ad.add (j.toNat * 4)).block, (ad.add (j.toNat * 4)).off + 3, none⟩ = some (.int .i64 (rd_T53 l j).f3))
        (first | exact ⟨k7, k8, t0, t1, t2, t3⟩ | go_keep) (first | fail)
      have HBW : Below w.heap.size w (w.alloc (.cells #[.int .i64 (rd_T53 l j).f0, .string (rd_T53 l j).f1, .int .i64 (rd_T53 l j).f2, .int .i64 (rd_T53 l j).f3] 53)).drew := below_drew (below_alloc (Below.refl _ _) _)
      have hK : (w.alloc (.cells #[.int .i64 (rd_T53 l j).f0, .string (rd_T53 l j).f1, .int .i64 (rd_T53 l j).f2, .int .i64 (rd_T53 l j).f3] 53)).drew.heap[w.heap.size]? = some (.cells #[.int .i64 (rd_T53 l j).f0, .string (rd_T53 l j).f1, .int .i64 (rd_T53 l j).f2, .int .i64 (rd_T53 l j).f3] 53) := World.alloc_heap_new w _
      generalize (w.alloc (.cells #[.int .i64 (rd_T53 l j).f0, .string (rd_T53 l j).f1, .int .i64 (rd_T53 l j).f2, .int .i64 (rd_T53 l j).f3] 53)).drew = W at HBW hK ⊢
      replace HBW := Aside0.mk HBW
      have HK := Aside0.mk hK
      have HLW1 := Aside0.mk (LW.below HL.out HBW.out)
      have kg0 : W.cell? ⟨w.heap.size, 0, none⟩ = some (.int .i64 (rd_T53 l j).f0) := (blk_cell hK 0).trans rfl
      have kg1 : W.cell? ⟨w.heap.size, 1, none⟩ = some (.string (rd_T53 l j).f1) := (blk_cell hK 1).trans rfl
      clear hK k0 k7 k8 t0 t1 t2 t3
      have h := H.out
      rw [hj] at h
      clear H
      by_cases e14 : (rd_T53 l j).f0 = 14
      · have d3 : ((rd_T53 l j).f0 != 14) = false := by rw [e14]; rfl
        have d5 : ((rd_T53 l j).f0 != 5) = true := by rw [e14]; rfl
        by_cases es : (rd_T53 l j).f1.toList = [115]
        · rw [if_pos ⟨e14, es⟩] at h
          have d4 : ((rd_T53 l j).f1.toList != ([115] : List UInt8)) = false := bne_eq_false_iff_eq.mpr es
          have d4' : ((rd_T53 l j).f1.toList == ([115] : List UInt8)) = true := beq_iff_eq.mpr es
          clear e14 es
          go_wp2_with (first | (go_at_call 81; (with_reducible refine (colour_Elapsed.calls (rd_T53 l j).f1 _ _ _ _ AE.out HLW1.out).mono ?_); rintro e w2 ⟨rfl, hb2⟩; have HB2 := Aside0.mk (HBW.out.trans (hb2.mono HBW.out.size)); have HG2 := Aside0.mk ((hb2.block w.heap.size (blk_lt HK.out)).trans HK.out); have kh0 : w2.cell? ⟨w.heap.size, 0, none⟩ = some (.int .i64 (rd_T53 l j).f0) := (blk_cell HG2.out 0).trans rfl; have kh1 : w2.cell? ⟨w.heap.size, 1, none⟩ = some (.string (rd_T53 l j).f1) := (blk_cell HG2.out 1).trans rfl; clear hb2 kg0 kg1))
          have hI2 := HI.out.below HB2.out
          have m7 : w2.cell? ⟨p, 7, none⟩ = some (.slice (some ad) l.length c) := (blk_cell hI2.blk 7).trans rfl
          have m8 : w2.cell? ⟨p, 8, none⟩ = some (.int .i64 b.pos) := (blk_cell hI2.blk 8).trans rfl
          obtain ⟨v0, v1, v2, v3, v4, u1, u2, u3, u4, u5⟩ := HV.out
          have HH := Aside0.mk h
          clear hI2 h
          by_cases hcs : c = s
          · rw [if_pos hcs] at HCr
            have ucs := eq_true hcs
            clear hcs
            go_region_held3 (fun w' => w'.cell? ⟨p, 7, none⟩ = some (.slice (some ad) l.length c) ∧ w'.cell? ⟨p, 8, none⟩ = some (.int .i64 b.pos))
              (first | exact ⟨m7, m8⟩ | go_keep) (first | fail)
            have HBd : Aside0 (Below w.heap.size w w2.drew) := ⟨below_drew HB2.out⟩
            clear m7 m8 kh0 kh1 v0 v1 v2 v3 v4 u1 u2 u3 u4 u5
            go_wp2
            go_loopg [7, 76] (l.length - s) (fun g v7 v76 wx => ∃ (i : Nat) (n : Int), v7 = .int .i64 n ∧ v76 = .int .i64 (i : Int) ∧ Aside0 (i + g = l.length - s) ∧ Aside0 (cntF ((l.drop s).drop i) n = r) ∧ Aside0 (0 ≤ n ∧ n ≤ 3) ∧ Aside0 (Below w.heap.size w wx))
            case atStart => exact ⟨0, 0, rfl, rfl, ⟨Nat.zero_add _⟩, ⟨Option.some.inj HH.out⟩, ⟨by decide⟩, HBd⟩
            case round =>
              clear HH HBd
              obtain ⟨i, n, rfl, rfl, HG, HF, HN3, HBw⟩ := hrel
              cases gk with
              | zero =>
                have hi : i = l.length - s := by have := HG.out; simpa using this
                have y1 : decide ((i : Int) < ((l.length - s : Nat) : Int)) = false := decide_eq_false (by rw [hi]; exact Int.lt_irrefl _)
                have y2 : decide (i < l.length - s) = false := decide_eq_false (by rw [hi]; exact Nat.lt_irrefl _)
                have hf := HF.out
                rw [List.drop_of_length_le (by rw [hi, List.length_drop]; exact Nat.le_refl _)] at hf
                simp only [cntF] at hf
                subst hf
                clear hi
                go_wp2
                go_ret
                exact ⟨rfl, HBw.out⟩
              | succ g1 =>
                have hi : i < l.length - s := by have := HG.out; omega
                have hi2 : i < (l.drop s).length := by rw [List.length_drop]; exact hi
                have y1 : decide ((i : Int) < ((l.length - s : Nat) : Int)) = true := decide_eq_true (Int.ofNat_lt.2 hi)
                have y2 : decide (i < l.length - s) = true := decide_eq_true hi
                have y3 : ((i : Int) < ((l.length - s : Nat) : Int)) = True := eq_true (Int.ofNat_lt.2 hi)
                have y4 : (i < l.length - s) = True := eq_true hi
                obtain ⟨ae, eA, t0, t1, t2, t3⟩ := at_T53 (Kd.C_below HCr.out HBw.out) (i : Int) (Int.natCast_nonneg i) (Int.ofNat_lt.2 hi2)
                cases eA
                rw [Int.toNat_natCast] at t0 t1 t2 t3
                have hf := HF.out
                rw [List.drop_eq_getElem_cons hi2] at hf
                have er : rd_T53 (l.drop s) (i : Int) = (l.drop s)[i] := by
                  unfold rd_T53
                  rw [Int.toNat_natCast, List.getD_eq_getElem?_getD, List.getElem?_eq_getElem hi2]
                  rfl
                rw [← er] at hf
                simp only [cntF] at hf
                generalize rd_T53 (l.drop s) (i : Int) = T at hf t0 t1 t2 t3
                have hwn : IntKind.i64.wrap (n + 1) = n + 1 := IntWalk.i64_in _ ⟨by have := HN3.out; omega, by have := HN3.out; omega⟩
                have hwn2 : wrap64 (n + 1) = n + 1 := (i64_w _).symm.trans hwn
                have hwi : wrap64 ((i : Int) + 1) = ((i + 1 : Nat) : Int) := (i64_w _).symm.trans (IntWalk.i64_in ((i + 1 : Nat) : Int) ⟨Int.le_trans (by decide) (Int.natCast_nonneg _), Int.le_trans (Int.ofNat_le.2 (show i + 1 ≤ l.length from Nat.le_trans hi (Nat.sub_le _ _))) (Int.ofNat_le.2 HJ.out.2.2.2)⟩)
                have HWI := Aside0.mk hwi
                clear er hi hi2 hwi
                by_cases c6 : T.f0 = 6
                · by_cases c7 : T.f1.toList = [48]
                  · by_cases c8 : n = 3
                    · rw [if_neg (fun e => e.2.2 c8)] at hf
                      have x1 : (T.f0 != 6) = false := by rw [c6]; rfl
                      have x2 : (T.f1.toList == ([48] : List UInt8)) = true := beq_iff_eq.mpr c7
                      have x3 : (n == 3) = true := beq_iff_eq.mpr c8
                      subst hf
                      clear c6 c7 c8
                      go_wp2
                      go_ret
                      exact ⟨rfl, by first | exact below_alloc HBw.out _ | exact HBw.out⟩
                    · rw [if_pos ⟨c6, c7, c8⟩] at hf
                      have x1 : (T.f0 != 6) = false := by rw [c6]; rfl
                      have x2 : (T.f1.toList == ([48] : List UInt8)) = true := beq_iff_eq.mpr c7
                      have x3 : (n == 3) = false := beq_eq_false_iff_ne.mpr c8
                      have HF2 := Aside0.mk hf
                      have HN4 : Aside0 (0 ≤ n + 1 ∧ n + 1 ≤ 3) := ⟨by have := HN3.out; omega⟩
                      clear c6 c7 c8 hf
                      go_wp2
                      go_roundg g1
                      case measure => omega
                      case rel => exact ⟨i + 1, n + 1, by first | rfl | simp, by first | exact congrArg (Value.int .i64) HWI.out | rfl | simp, ⟨by have := HG.out; omega⟩, HF2, HN4, ⟨by first | exact below_alloc HBw.out _ | exact HBw.out⟩⟩
                  · rw [if_neg (fun e => c7 e.2.1)] at hf
                    have x1 : (T.f0 != 6) = false := by rw [c6]; rfl
                    have x2 : (T.f1.toList == ([48] : List UInt8)) = false := beq_eq_false_iff_ne.mpr c7
                    subst hf
                    clear c6 c7
                    go_wp2
                    go_ret
                    exact ⟨rfl, by first | exact below_alloc HBw.out _ | exact HBw.out⟩
                · rw [if_neg (fun e => c6 e.1)] at hf
                  have x1 : (T.f0 != 6) = true := bne_iff_ne.mpr c6
                  subst hf
                  clear c6
                  go_wp2
                  go_ret
                  exact ⟨rfl, by first | exact below_alloc HBw.out _ | exact HBw.out⟩
          · rw [if_neg hcs] at HCr
            have ucs := eq_false hcs
            clear hcs
            go_region_held3 (fun w' => w'.cell? ⟨p, 7, none⟩ = some (.slice (some ad) l.length c) ∧ w'.cell? ⟨p, 8, none⟩ = some (.int .i64 b.pos))
              (first | exact ⟨m7, m8⟩ | go_keep) (first | fail)
            have HBd : Aside0 (Below w.heap.size w w2.drew) := ⟨below_drew HB2.out⟩
            clear m7 m8 kh0 kh1 v0 v1 v2 v3 v4 u1 u2 u3 u4 u5
            go_wp2
            go_loopg [7, 76] (l.length - s) (fun g v7 v76 wx => ∃ (i : Nat) (n : Int), v7 = .int .i64 n ∧ v76 = .int .i64 (i : Int) ∧ Aside0 (i + g = l.length - s) ∧ Aside0 (cntF ((l.drop s).drop i) n = r) ∧ Aside0 (0 ≤ n ∧ n ≤ 3) ∧ Aside0 (Below w.heap.size w wx))
            case atStart => exact ⟨0, 0, rfl, rfl, ⟨Nat.zero_add _⟩, ⟨Option.some.inj HH.out⟩, ⟨by decide⟩, HBd⟩
            case round =>
              clear HH HBd
              obtain ⟨i, n, rfl, rfl, HG, HF, HN3, HBw⟩ := hrel
              cases gk with
              | zero =>
                have hi : i = l.length - s := by have := HG.out; simpa using this
                have y1 : decide ((i : Int) < ((l.length - s : Nat) : Int)) = false := decide_eq_false (by rw [hi]; exact Int.lt_irrefl _)
                have y2 : decide (i < l.length - s) = false := decide_eq_false (by rw [hi]; exact Nat.lt_irrefl _)
                have hf := HF.out
                rw [List.drop_of_length_le (by rw [hi, List.length_drop]; exact Nat.le_refl _)] at hf
                simp only [cntF] at hf
                subst hf
                clear hi
                go_wp2
                go_ret
                exact ⟨rfl, HBw.out⟩
              | succ g1 =>
                have hi : i < l.length - s := by have := HG.out; omega
                have hi2 : i < (l.drop s).length := by rw [List.length_drop]; exact hi
                have y1 : decide ((i : Int) < ((l.length - s : Nat) : Int)) = true := decide_eq_true (Int.ofNat_lt.2 hi)
                have y2 : decide (i < l.length - s) = true := decide_eq_true hi
                have y3 : ((i : Int) < ((l.length - s : Nat) : Int)) = True := eq_true (Int.ofNat_lt.2 hi)
                have y4 : (i < l.length - s) = True := eq_true hi
                obtain ⟨ae, eA, t0, t1, t2, t3⟩ := at_T53 (Kd.C_below HCr.out HBw.out) (i : Int) (Int.natCast_nonneg i) (Int.ofNat_lt.2 hi2)
                cases eA
                rw [Int.toNat_natCast] at t0 t1 t2 t3
                have hf := HF.out
                rw [List.drop_eq_getElem_cons hi2] at hf
                have er : rd_T53 (l.drop s) (i : Int) = (l.drop s)[i] := by
                  unfold rd_T53
                  rw [Int.toNat_natCast, List.getD_eq_getElem?_getD, List.getElem?_eq_getElem hi2]
                  rfl
                rw [← er] at hf
                simp only [cntF] at hf
                generalize rd_T53 (l.drop s) (i : Int) = T at hf t0 t1 t2 t3
                have hwn : IntKind.i64.wrap (n + 1) = n + 1 := IntWalk.i64_in _ ⟨by have := HN3.out; omega, by have := HN3.out; omega⟩
                have hwn2 : wrap64 (n + 1) = n + 1 := (i64_w _).symm.trans hwn
                have hwi : wrap64 ((i : Int) + 1) = ((i + 1 : Nat) : Int) := (i64_w _).symm.trans (IntWalk.i64_in ((i + 1 : Nat) : Int) ⟨Int.le_trans (by decide) (Int.natCast_nonneg _), Int.le_trans (Int.ofNat_le.2 (show i + 1 ≤ l.length from Nat.le_trans hi (Nat.sub_le _ _))) (Int.ofNat_le.2 HJ.out.2.2.2)⟩)
                have HWI := Aside0.mk hwi
                clear er hi hi2 hwi
                by_cases c6 : T.f0 = 6
                · by_cases c7 : T.f1.toList = [48]
                  · by_cases c8 : n = 3
                    · rw [if_neg (fun e => e.2.2 c8)] at hf
                      have x1 : (T.f0 != 6) = false := by rw [c6]; rfl
                      have x2 : (T.f1.toList == ([48] : List UInt8)) = true := beq_iff_eq.mpr c7
                      have x3 : (n == 3) = true := beq_iff_eq.mpr c8
                      subst hf
                      clear c6 c7 c8
                      go_wp2
                      go_ret
                      exact ⟨rfl, by first | exact below_alloc HBw.out _ | exact HBw.out⟩
                    · rw [if_pos ⟨c6, c7, c8⟩] at hf
                      have x1 : (T.f0 != 6) = false := by rw [c6]; rfl
                      have x2 : (T.f1.toList == ([48] : List UInt8)) = true := beq_iff_eq.mpr c7
                      have x3 : (n == 3) = false := beq_eq_false_iff_ne.mpr c8
                      have HF2 := Aside0.mk hf
                      have HN4 : Aside0 (0 ≤ n + 1 ∧ n + 1 ≤ 3) := ⟨by have := HN3.out; omega⟩
                      clear c6 c7 c8 hf
                      go_wp2
                      go_roundg g1
                      case measure => omega
                      case rel => exact ⟨i + 1, n + 1, by first | rfl | simp, by first | exact congrArg (Value.int .i64) HWI.out | rfl | simp, ⟨by have := HG.out; omega⟩, HF2, HN4, ⟨by first | exact below_alloc HBw.out _ | exact HBw.out⟩⟩
                  · rw [if_neg (fun e => c7 e.2.1)] at hf
                    have x1 : (T.f0 != 6) = false := by rw [c6]; rfl
                    have x2 : (T.f1.toList == ([48] : List UInt8)) = false := beq_eq_false_iff_ne.mpr c7
                    subst hf
                    clear c6 c7
                    go_wp2
                    go_ret
                    exact ⟨rfl, by first | exact below_alloc HBw.out _ | exact HBw.out⟩
                · rw [if_neg (fun e => c6 e.1)] at hf
                  have x1 : (T.f0 != 6) = true := bne_iff_ne.mpr c6
                  subst hf
                  clear c6
                  go_wp2
                  go_ret
                  exact ⟨rfl, by first | exact below_alloc HBw.out _ | exact HBw.out⟩
        · rw [if_neg (fun e => es e.2), if_neg (fun e => by rw [e14] at e; exact absurd e.1 (by decide))] at h
          obtain rfl := Option.some.inj h
          have d4 : ((rd_T53 l j).f1.toList != ([115] : List UInt8)) = true := bne_iff_ne.mpr es
          have d4' : ((rd_T53 l j).f1.toList == ([115] : List UInt8)) = false := beq_eq_false_iff_ne.mpr es
          clear e14 es
          go_wp2_with (first | (go_at_call 81; (with_reducible refine (colour_Elapsed.calls (rd_T53 l j).f1 _ _ _ _ AE.out HLW1.out).mono ?_); rintro e w2 ⟨rfl, hb2⟩; have HB2 := Aside0.mk (HBW.out.trans (hb2.mono HBW.out.size)); have HG2 := Aside0.mk ((hb2.block w.heap.size (blk_lt HK.out)).trans HK.out); have kh0 : w2.cell? ⟨w.heap.size, 0, none⟩ = some (.int .i64 (rd_T53 l j).f0) := (blk_cell HG2.out 0).trans rfl; have kh1 : w2.cell? ⟨w.heap.size, 1, none⟩ = some (.string (rd_T53 l j).f1) := (blk_cell HG2.out 1).trans rfl; clear hb2 kg0 kg1))
          go_ret
          exact ⟨rfl, HB2.out⟩
      · have d3 : ((rd_T53 l j).f0 != 14) = true := bne_iff_ne.mpr e14
        rw [if_neg (fun e => e14 e.1)] at h
        by_cases e5 : (rd_T53 l j).f0 = 5
        · have d5 : ((rd_T53 l j).f0 != 5) = false := by rw [e5]; rfl
          cases eo with
          | false =>
            rw [if_neg (fun e => by simp at e)] at h
            obtain rfl := Option.some.inj h
            clear e14 e5
            go_wp2_with (first | (go_at_call 81; (with_reducible refine (colour_Elapsed.calls (rd_T53 l j).f1 _ _ _ _ AE.out HLW1.out).mono ?_); rintro e w2 ⟨rfl, hb2⟩; have HB2 := Aside0.mk (HBW.out.trans (hb2.mono HBW.out.size)); have HG2 := Aside0.mk ((hb2.block w.heap.size (blk_lt HK.out)).trans HK.out); have kh0 : w2.cell? ⟨w.heap.size, 0, none⟩ = some (.int .i64 (rd_T53 l j).f0) := (blk_cell HG2.out 0).trans rfl; have kh1 : w2.cell? ⟨w.heap.size, 1, none⟩ = some (.string (rd_T53 l j).f1) := (blk_cell HG2.out 1).trans rfl; clear hb2 kg0 kg1))
            go_ret
            exact ⟨rfl, HB2.out⟩
          | true =>
            by_cases es : el.toList = [115]
            · rw [if_pos ⟨e5, rfl, es⟩] at h
              have d4 : (el.toList != ([115] : List UInt8)) = false := bne_eq_false_iff_eq.mpr es
              have d4' : (el.toList == ([115] : List UInt8)) = true := beq_iff_eq.mpr es
              obtain ⟨nm, a1, h⟩ := Option.bind_eq_some_iff.mp h
              have AM := Aside0.mk a1
              clear e14 e5 es a1
              cases nm with
              | true =>
                rw [if_pos rfl] at h
                obtain rfl := Option.some.inj h
                go_wp2_with (first | (go_at_call 81; (with_reducible refine (colour_Elapsed.calls (rd_T53 l j).f1 _ _ _ _ AE.out HLW1.out).mono ?_); rintro e w2 ⟨rfl, hb2⟩; have HB2 := Aside0.mk (HBW.out.trans (hb2.mono HBW.out.size)); have HG2 := Aside0.mk ((hb2.block w.heap.size (blk_lt HK.out)).trans HK.out); have kh0 : w2.cell? ⟨w.heap.size, 0, none⟩ = some (.int .i64 (rd_T53 l j).f0) := (blk_cell HG2.out 0).trans rfl; have kh1 : w2.cell? ⟨w.heap.size, 1, none⟩ = some (.string (rd_T53 l j).f1) := (blk_cell HG2.out 1).trans rfl; clear hb2 kg0 kg1) | (go_at_call 82; (with_reducible refine (item_named.calls k (rd_T53 l j).f1 _ _ AM.out (LW.below HL.out HB2.out)).mono ?_); rintro e w4 ⟨rfl, hb4⟩; have HB4 := Aside0.mk (HB2.out.trans (hb4.mono HB2.out.size)); clear hb4))
                go_ret
                exact ⟨rfl, HB4.out⟩
              | false =>
                rw [if_neg (by simp)] at h
                go_wp2_with (first | (go_at_call 81; (with_reducible refine (colour_Elapsed.calls (rd_T53 l j).f1 _ _ _ _ AE.out HLW1.out).mono ?_); rintro e w2 ⟨rfl, hb2⟩; have HB2 := Aside0.mk (HBW.out.trans (hb2.mono HBW.out.size)); have HG2 := Aside0.mk ((hb2.block w.heap.size (blk_lt HK.out)).trans HK.out); have kh0 : w2.cell? ⟨w.heap.size, 0, none⟩ = some (.int .i64 (rd_T53 l j).f0) := (blk_cell HG2.out 0).trans rfl; have kh1 : w2.cell? ⟨w.heap.size, 1, none⟩ = some (.string (rd_T53 l j).f1) := (blk_cell HG2.out 1).trans rfl; clear hb2 kg0 kg1) | (go_at_call 82; (with_reducible refine (item_named.calls k (rd_T53 l j).f1 _ _ AM.out (LW.below HL.out HB2.out)).mono ?_); rintro e w4 ⟨rfl, hb4⟩; have HB4 := Aside0.mk (HB2.out.trans (hb4.mono HB2.out.size)); clear hb4))
                have hI2 := HI.out.below HB4.out
                have m7 : w4.cell? ⟨p, 7, none⟩ = some (.slice (some ad) l.length c) := (blk_cell hI2.blk 7).trans rfl
                have m8 : w4.cell? ⟨p, 8, none⟩ = some (.int .i64 b.pos) := (blk_cell hI2.blk 8).trans rfl
                obtain ⟨v0, v1, v2, v3, v4, u1, u2, u3, u4, u5⟩ := HV.out
                have HH := Aside0.mk h
                clear hI2 h
                by_cases hcs : c = s
                · rw [if_pos hcs] at HCr
                  have ucs := eq_true hcs
                  clear hcs
                  go_region_held3 (fun w' => w'.cell? ⟨p, 7, none⟩ = some (.slice (some ad) l.length c) ∧ w'.cell? ⟨p, 8, none⟩ = some (.int .i64 b.pos))
                    (first | exact ⟨m7, m8⟩ | go_keep) (first | fail)
                  have HBd : Aside0 (Below w.heap.size w w4.drew) := ⟨below_drew HB4.out⟩
                  clear m7 m8 v0 v1 v2 v3 v4 u1 u2 u3 u4 u5
                  go_wp2
                  go_loopg [7, 76] (l.length - s) (fun g v7 v76 wx => ∃ (i : Nat) (n : Int), v7 = .int .i64 n ∧ v76 = .int .i64 (i : Int) ∧ Aside0 (i + g = l.length - s) ∧ Aside0 (cntF ((l.drop s).drop i) n = r) ∧ Aside0 (0 ≤ n ∧ n ≤ 3) ∧ Aside0 (Below w.heap.size w wx))
                  case atStart => exact ⟨0, 0, rfl, rfl, ⟨Nat.zero_add _⟩, ⟨Option.some.inj HH.out⟩, ⟨by decide⟩, HBd⟩
                  case round =>
                    clear HH HBd
                    obtain ⟨i, n, rfl, rfl, HG, HF, HN3, HBw⟩ := hrel
                    cases gk with
                    | zero =>
                      have hi : i = l.length - s := by have := HG.out; simpa using this
                      have y1 : decide ((i : Int) < ((l.length - s : Nat) : Int)) = false := decide_eq_false (by rw [hi]; exact Int.lt_irrefl _)
                      have y2 : decide (i < l.length - s) = false := decide_eq_false (by rw [hi]; exact Nat.lt_irrefl _)
                      have hf := HF.out
                      rw [List.drop_of_length_le (by rw [hi, List.length_drop]; exact Nat.le_refl _)] at hf
                      simp only [cntF] at hf
                      subst hf
                      clear hi
                      go_wp2
                      go_ret
                      exact ⟨rfl, HBw.out⟩
                    | succ g1 =>
                      have hi : i < l.length - s := by have := HG.out; omega
                      have hi2 : i < (l.drop s).length := by rw [List.length_drop]; exact hi
                      have y1 : decide ((i : Int) < ((l.length - s : Nat) : Int)) = true := decide_eq_true (Int.ofNat_lt.2 hi)
                      have y2 : decide (i < l.length - s) = true := decide_eq_true hi
                      have y3 : ((i : Int) < ((l.length - s : Nat) : Int)) = True := eq_true (Int.ofNat_lt.2 hi)
                      have y4 : (i < l.length - s) = True := eq_true hi
                      obtain ⟨ae, eA, t0, t1, t2, t3⟩ := at_T53 (Kd.C_below HCr.out HBw.out) (i : Int) (Int.natCast_nonneg i) (Int.ofNat_lt.2 hi2)
                      cases eA
                      rw [Int.toNat_natCast] at t0 t1 t2 t3
                      have hf := HF.out
                      rw [List.drop_eq_getElem_cons hi2] at hf
                      have er : rd_T53 (l.drop s) (i : Int) = (l.drop s)[i] := by
                        unfold rd_T53
                        rw [Int.toNat_natCast, List.getD_eq_getElem?_getD, List.getElem?_eq_getElem hi2]
                        rfl
                      rw [← er] at hf
                      simp only [cntF] at hf
                      generalize rd_T53 (l.drop s) (i : Int) = T at hf t0 t1 t2 t3
                      have hwn : IntKind.i64.wrap (n + 1) = n + 1 := IntWalk.i64_in _ ⟨by have := HN3.out; omega, by have := HN3.out; omega⟩
                      have hwn2 : wrap64 (n + 1) = n + 1 := (i64_w _).symm.trans hwn
                      have hwi : wrap64 ((i : Int) + 1) = ((i + 1 : Nat) : Int) := (i64_w _).symm.trans (IntWalk.i64_in ((i + 1 : Nat) : Int) ⟨Int.le_trans (by decide) (Int.natCast_nonneg _), Int.le_trans (Int.ofNat_le.2 (show i + 1 ≤ l.length from Nat.le_trans hi (Nat.sub_le _ _))) (Int.ofNat_le.2 HJ.out.2.2.2)⟩)
                      have HWI := Aside0.mk hwi
                      clear er hi hi2 hwi
                      by_cases c6 : T.f0 = 6
                      · by_cases c7 : T.f1.toList = [48]
                        · by_cases c8 : n = 3
                          · rw [if_neg (fun e => e.2.2 c8)] at hf
                            have x1 : (T.f0 != 6) = false := by rw [c6]; rfl
                            have x2 : (T.f1.toList == ([48] : List UInt8)) = true := beq_iff_eq.mpr c7
                            have x3 : (n == 3) = true := beq_iff_eq.mpr c8
                            subst hf
                            clear c6 c7 c8
                            go_wp2
                            go_ret
                            exact ⟨rfl, by first | exact below_alloc HBw.out _ | exact HBw.out⟩
                          · rw [if_pos ⟨c6, c7, c8⟩] at hf
                            have x1 : (T.f0 != 6) = false := by rw [c6]; rfl
                            have x2 : (T.f1.toList == ([48] : List UInt8)) = true := beq_iff_eq.mpr c7
                            have x3 : (n == 3) = false := beq_eq_false_iff_ne.mpr c8
                            have HF2 := Aside0.mk hf
                            have HN4 : Aside0 (0 ≤ n + 1 ∧ n + 1 ≤ 3) := ⟨by have := HN3.out; omega⟩
                            clear c6 c7 c8 hf
                            go_wp2
                            go_roundg g1
                            case measure => omega
                            case rel => exact ⟨i + 1, n + 1, by first | rfl | simp, by first | exact congrArg (Value.int .i64) HWI.out | rfl | simp, ⟨by have := HG.out; omega⟩, HF2, HN4, ⟨by first | exact below_alloc HBw.out _ | exact HBw.out⟩⟩
                        · rw [if_neg (fun e => c7 e.2.1)] at hf
                          have x1 : (T.f0 != 6) = false := by rw [c6]; rfl
                          have x2 : (T.f1.toList == ([48] : List UInt8)) = false := beq_eq_false_iff_ne.mpr c7
                          subst hf
                          clear c6 c7
                          go_wp2
                          go_ret
                          exact ⟨rfl, by first | exact below_alloc HBw.out _ | exact HBw.out⟩
                      · rw [if_neg (fun e => c6 e.1)] at hf
                        have x1 : (T.f0 != 6) = true := bne_iff_ne.mpr c6
                        subst hf
                        clear c6
                        go_wp2
                        go_ret
                        exact ⟨rfl, by first | exact below_alloc HBw.out _ | exact HBw.out⟩
                · rw [if_neg hcs] at HCr
                  have ucs := eq_false hcs
                  clear hcs
                  go_region_held3 (fun w' => w'.cell? ⟨p, 7, none⟩ = some (.slice (some ad) l.length c) ∧ w'.cell? ⟨p, 8, none⟩ = some (.int .i64 b.pos))
                    (first | exact ⟨m7, m8⟩ | go_keep) (first | fail)
                  have HBd : Aside0 (Below w.heap.size w w4.drew) := ⟨below_drew HB4.out⟩
                  clear m7 m8 v0 v1 v2 v3 v4 u1 u2 u3 u4 u5
                  go_wp2
                  go_loopg [7, 76] (l.length - s) (fun g v7 v76 wx => ∃ (i : Nat) (n : Int), v7 = .int .i64 n ∧ v76 = .int .i64 (i : Int) ∧ Aside0 (i + g = l.length - s) ∧ Aside0 (cntF ((l.drop s).drop i) n = r) ∧ Aside0 (0 ≤ n ∧ n ≤ 3) ∧ Aside0 (Below w.heap.size w wx))
                  case atStart => exact ⟨0, 0, rfl, rfl, ⟨Nat.zero_add _⟩, ⟨Option.some.inj HH.out⟩, ⟨by decide⟩, HBd⟩
                  case round =>
                    clear HH HBd
                    obtain ⟨i, n, rfl, rfl, HG, HF, HN3, HBw⟩ := hrel
                    cases gk with
                    | zero =>
                      have hi : i = l.length - s := by have := HG.out; simpa using this
                      have y1 : decide ((i : Int) < ((l.length - s : Nat) : Int)) = false := decide_eq_false (by rw [hi]; exact Int.lt_irrefl _)
                      have y2 : decide (i < l.length - s) = false := decide_eq_false (by rw [hi]; exact Nat.lt_irrefl _)
                      have hf := HF.out
                      rw [List.drop_of_length_le (by rw [hi, List.length_drop]; exact Nat.le_refl _)] at hf
                      simp only [cntF] at hf
                      subst hf
                      clear hi
                      go_wp2
                      go_ret
                      exact ⟨rfl, HBw.out⟩
                    | succ g1 =>
                      have hi : i < l.length - s := by have := HG.out; omega
                      have hi2 : i < (l.drop s).length := by rw [List.length_drop]; exact hi
                      have y1 : decide ((i : Int) < ((l.length - s : Nat) : Int)) = true := decide_eq_true (Int.ofNat_lt.2 hi)
                      have y2 : decide (i < l.length - s) = true := decide_eq_true hi
                      have y3 : ((i : Int) < ((l.length - s : Nat) : Int)) = True := eq_true (Int.ofNat_lt.2 hi)
                      have y4 : (i < l.length - s) = True := eq_true hi
                      obtain ⟨ae, eA, t0, t1, t2, t3⟩ := at_T53 (Kd.C_below HCr.out HBw.out) (i : Int) (Int.natCast_nonneg i) (Int.ofNat_lt.2 hi2)
                      cases eA
                      rw [Int.toNat_natCast] at t0 t1 t2 t3
                      have hf := HF.out
                      rw [List.drop_eq_getElem_cons hi2] at hf
                      have er : rd_T53 (l.drop s) (i : Int) = (l.drop s)[i] := by
                        unfold rd_T53
                        rw [Int.toNat_natCast, List.getD_eq_getElem?_getD, List.getElem?_eq_getElem hi2]
                        rfl
                      rw [← er] at hf
                      simp only [cntF] at hf
                      generalize rd_T53 (l.drop s) (i : Int) = T at hf t0 t1 t2 t3
                      have hwn : IntKind.i64.wrap (n + 1) = n + 1 := IntWalk.i64_in _ ⟨by have := HN3.out; omega, by have := HN3.out; omega⟩
                      have hwn2 : wrap64 (n + 1) = n + 1 := (i64_w _).symm.trans hwn
                      have hwi : wrap64 ((i : Int) + 1) = ((i + 1 : Nat) : Int) := (i64_w _).symm.trans (IntWalk.i64_in ((i + 1 : Nat) : Int) ⟨Int.le_trans (by decide) (Int.natCast_nonneg _), Int.le_trans (Int.ofNat_le.2 (show i + 1 ≤ l.length from Nat.le_trans hi (Nat.sub_le _ _))) (Int.ofNat_le.2 HJ.out.2.2.2)⟩)
                      have HWI := Aside0.mk hwi
                      clear er hi hi2 hwi
                      by_cases c6 : T.f0 = 6
                      · by_cases c7 : T.f1.toList = [48]
                        · by_cases c8 : n = 3
                          · rw [if_neg (fun e => e.2.2 c8)] at hf
                            have x1 : (T.f0 != 6) = false := by rw [c6]; rfl
                            have x2 : (T.f1.toList == ([48] : List UInt8)) = true := beq_iff_eq.mpr c7
                            have x3 : (n == 3) = true := beq_iff_eq.mpr c8
                            subst hf
                            clear c6 c7 c8
                            go_wp2
                            go_ret
                            exact ⟨rfl, by first | exact below_alloc HBw.out _ | exact HBw.out⟩
                          · rw [if_pos ⟨c6, c7, c8⟩] at hf
                            have x1 : (T.f0 != 6) = false := by rw [c6]; rfl
                            have x2 : (T.f1.toList == ([48] : List UInt8)) = true := beq_iff_eq.mpr c7
                            have x3 : (n == 3) = false := beq_eq_false_iff_ne.mpr c8
                            have HF2 := Aside0.mk hf
                            have HN4 : Aside0 (0 ≤ n + 1 ∧ n + 1 ≤ 3) := ⟨by have := HN3.out; omega⟩
                            clear c6 c7 c8 hf
                            go_wp2
                            go_roundg g1
                            case measure => omega
                            case rel => exact ⟨i + 1, n + 1, by first | rfl | simp, by first | exact congrArg (Value.int .i64) HWI.out | rfl | simp, ⟨by have := HG.out; omega⟩, HF2, HN4, ⟨by first | exact below_alloc HBw.out _ | exact HBw.out⟩⟩
                        · rw [if_neg (fun e => c7 e.2.1)] at hf
                          have x1 : (T.f0 != 6) = false := by rw [c6]; rfl
                          have x2 : (T.f1.toList == ([48] : List UInt8)) = false := beq_eq_false_iff_ne.mpr c7
                          subst hf
                          clear c6 c7
                          go_wp2
                          go_ret
                          exact ⟨rfl, by first | exact below_alloc HBw.out _ | exact HBw.out⟩
                      · rw [if_neg (fun e => c6 e.1)] at hf
                        have x1 : (T.f0 != 6) = true := bne_iff_ne.mpr c6
                        subst hf
                        clear c6
                        go_wp2
                        go_ret
                        exact ⟨rfl, by first | exact below_alloc HBw.out _ | exact HBw.out⟩
            · rw [if_neg (fun e => es e.2.2)] at h
              obtain rfl := Option.some.inj h
              have d4 : (el.toList != ([115] : List UInt8)) = true := bne_iff_ne.mpr es
              have d4' : (el.toList == ([115] : List UInt8)) = false := beq_eq_false_iff_ne.mpr es
              clear e14 e5 es
              go_wp2_with (first | (go_at_call 81; (with_reducible refine (colour_Elapsed.calls (rd_T53 l j).f1 _ _ _ _ AE.out HLW1.out).mono ?_); rintro e w2 ⟨rfl, hb2⟩; have HB2 := Aside0.mk (HBW.out.trans (hb2.mono HBW.out.size)); have HG2 := Aside0.mk ((hb2.block w.heap.size (blk_lt HK.out)).trans HK.out); have kh0 : w2.cell? ⟨w.heap.size, 0, none⟩ = some (.int .i64 (rd_T53 l j).f0) := (blk_cell HG2.out 0).trans rfl; have kh1 : w2.cell? ⟨w.heap.size, 1, none⟩ = some (.string (rd_T53 l j).f1) := (blk_cell HG2.out 1).trans rfl; clear hb2 kg0 kg1))
              go_ret
              exact ⟨rfl, HB2.out⟩
        · rw [if_neg (fun e => e5 e.1)] at h
          obtain rfl := Option.some.inj h
          have d5 : ((rd_T53 l j).f0 != 5) = true := bne_iff_ne.mpr e5
          clear e14 e5
          go_wp2_with (first | (go_at_call 81; (with_reducible refine (colour_Elapsed.calls (rd_T53 l j).f1 _ _ _ _ AE.out HLW1.out).mono ?_); rintro e w2 ⟨rfl, hb2⟩; have HB2 := Aside0.mk (HBW.out.trans (hb2.mono HBW.out.size)); have HG2 := Aside0.mk ((hb2.block w.heap.size (blk_lt HK.out)).trans HK.out); have kh0 : w2.cell? ⟨w.heap.size, 0, none⟩ = some (.int .i64 (rd_T53 l j).f0) := (blk_cell HG2.out 0).trans rfl; have kh1 : w2.cell? ⟨w.heap.size, 1, none⟩ = some (.string (rd_T53 l j).f1) := (blk_cell HG2.out 1).trans rfl; clear hb2 kg0 kg1))
          go_ret
          exact ⟨rfl, HB2.out⟩
  · rw [if_neg (fun e => hs e.1)] at h
    obtain rfl := Option.some.inj h
    have d1 : (b.sort != 5) = true := bne_iff_ne.mpr hs
    clear hs h0 h1
    go_enter Tryz.func54, Tryz.ntmps54
    go_wp2
    go_ret
    exact ⟨rfl, Below.refl _ _⟩
end Go.Proofs.YtiidpicgdjjikaaGreatDoor.G
