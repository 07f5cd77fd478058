import Derived.Deep.RegionWith
import Derived.Test.YtiidpicgdjjikaaGreatDoorJ4
import Derived.Test.YtiidpicgdjjikaaGreatDoorJ14
import Derived.Test.YtiidpicgdjjikaaGreatDoorJ27
import Derived.Test.YtiidpicgdjjikaaGreatDoorJ30
import Derived.Test.YtiidpicgdjjikaaGreatDoorJ31
import Derived.Test.YtiidpicgdjjikaaGreatDoorJ32
import Derived.Test.YtiidpicgdjjikaaGreatDoorJ33
namespace Go.Proofs.YtiidpicgdjjikaaGreatDoor.G
open Go.RowKit Go.Lib Go.Maps Go.ChangeMaps Go.MapKept Go.Proofs Go.Proofs.YtiidpicgdjjikaaGreatDoor.P Go.Proofs.YtiidpicgdjjikaaGreatDoorW.PrintWords Go.Proofs.YtiidpicgdjjikaaGreatDoorW.PrintLast Go.Proofs.YtiidpicgdjjikaaGreatDoorW.PrintMore
set_option linter.unusedVariables false
set_option linter.unusedSimpArgs false
attribute [local go_sem] isSome_setCell_eq

theorem LWB {n0 : Nat} {w0 w : World} (h : n0 = w0.heap.size) (hl : LW w0) (hb : Below n0 w0 w) : LW w := LW.below hl (by rw [← h]; exact hb)
def restF (k : Nat) (b : BSt) (t : S53) : Option (Int × Int × BSt) :=
  if (7 ≤ t.f0 ∧ t.f0 ≤ 10) ∨ t.f0 = 13 then (signF k b t).bind fun r => some (1, r.1, r.2) else (otherF k b t).bind fun r => some (1, r.1, r.2)
def tokenF (k : Nat) (l : List S53) (b : BSt) : Option (Int × Int × BSt) :=
  (if (rd_T53 l b.pos).f0 = 7 then partF k l b else some 0).bind fun n =>
    if 0 < n then (addF b ⟨16, ⟨#[]⟩, n⟩).bind fun b2 => some (wrap64 (1 + n), 0, b2) else
    (item_sorts.f k (rd_T53 l b.pos).f0 (rd_T53 l b.pos).f1 (rd_T53 l b.pos).f2 (rd_T53 l b.pos).f3).bind fun s =>
      if s = 0 then restF k b (rd_T53 l b.pos) else if b.kind = 0 ∨ b.kind = s then restF k { b with kind := s } (rd_T53 l b.pos) else some (0, 11, b)
set_option maxHeartbeats 16000000 in
set_option maxRecDepth 1000000 in
theorem token_calls (k : Nat) {n0 : Nat} {w0 w : World} {p m : Nat} {vi : Value} {A : Option Addr} {c : Nat} {l : List S53} {b b' : BSt} {r1 r2 : Int} (hI : BInv n0 w p m vi (.slice A l.length c) b) (hB : Below n0 w0 w) (hn : n0 ≤ w.heap.size)
    (hC : Kd.C k53 w A l.length l) (hc : l.length ≤ c) (h0 : 0 ≤ b.pos) (h1 : b.pos < l.length) (h : tokenF k l b = some (r1, r2, b')) (hw0 : n0 = w0.heap.size) (HLW0_ : LW w0) :
    Calls Tryz.prog 27 #[.pointer (some ⟨p, 0, none⟩)] w fun e w' => e = .returned (.tuple #[.int .i64 r1, .int .i64 r2]) ∧ Below n0 w0 w' ∧ ∃ vi', BInv n0 w' p m vi' (.slice A l.length c) b' := by
  have HI := Aside0.mk hI
  have HB := Aside0.mk hB
  have HN := Aside0.mk hn
  have HW0 := Aside0.mk hw0
  have HLW0 := Aside0.mk HLW0_
  have HL := Aside0.mk (LWB hw0 HLW0_ hB)
  have HC := Aside0.mk hC
  have HCc := Aside0.mk hc
  have HP0 := Aside0.mk h0
  have HP1 := Aside0.mk h1
  obtain ⟨ad, rfl, t0, t1, t2, t3⟩ := at_T53 hC b.pos h0 h1
  have k7 : w.cell? ⟨p, 7, none⟩ = some (.slice (some ad) l.length c) := (blk_cell hI.blk 7).trans rfl
  have k8 : w.cell? ⟨p, 8, none⟩ = some (.int .i64 b.pos) := (blk_cell hI.blk 8).trans rfl
  have p0 := eq_true h0
  have p1 : (b.pos < (l.length : Int)) = True := eq_true h1
  have NG : Aside0 (p ≠ w.heap.size ∧ w.heap.size ≠ p) := ⟨Nat.ne_of_lt (blk_lt hI.blk), Nat.ne_of_gt (blk_lt hI.blk)⟩
  clear hI hB hn hC h0 h1 hw0 HLW0_ hc
  go_enter Tryz.func27, Tryz.ntmps27
  go_wp2
  go_region_held3 (fun w' => w'.cell? ⟨p, 7, none⟩ = some (.slice (some ad) l.length c) ∧ w'.cell? ⟨p, 8, none⟩ = some (.int .i64 b.pos) ∧ w'.cell? (ad.add (b.pos.toNat * 4)) = some (.int .i64 (rd_T53 l b.pos).f0) ∧ w'.cell? ⟨(ad.add (b.pos.toNat * 4)).block, (ad.add (b.pos.toNat * 4)).off + 1, none⟩ = some (.string (rd_T53 l b.pos).f1) ∧ w'.cell? ⟨(ad.add (b.pos.toNat * 4)).block, (ad.add (b.pos.toNat * 4)).off + 2, none⟩ = some (.int .i64 (rd_T53 l b.pos).f2) ∧ w'.cell? ⟨(ad.add (b.pos.toNat * 4)).block, (ad.add (b.pos.toNat * 4)).off + 3, none⟩ = some (.int .i64 (rd_T53 l b.pos).f3))
    (first | exact ⟨k7, k8, t0, t1, t2, t3⟩ | go_keep) (first | fail)
  have HBW : Below w.heap.size w (w.alloc (.cells #[.int .i64 (rd_T53 l b.pos).f0, .string (rd_T53 l b.pos).f1, .int .i64 (rd_T53 l b.pos).f2, .int .i64 (rd_T53 l b.pos).f3] 53)).drew := below_drew (below_alloc (Below.refl _ _) _)
  have hK : (w.alloc (.cells #[.int .i64 (rd_T53 l b.pos).f0, .string (rd_T53 l b.pos).f1, .int .i64 (rd_T53 l b.pos).f2, .int .i64 (rd_T53 l b.pos).f3] 53)).drew.heap[w.heap.size]? = some (.cells #[.int .i64 (rd_T53 l b.pos).f0, .string (rd_T53 l b.pos).f1, .int .i64 (rd_T53 l b.pos).f2, .int .i64 (rd_T53 l b.pos).f3] 53) := World.alloc_heap_new w _
  generalize (w.alloc (.cells #[.int .i64 (rd_T53 l b.pos).f0, .string (rd_T53 l b.pos).f1, .int .i64 (rd_T53 l b.pos).f2, .int .i64 (rd_T53 l b.pos).f3] 53)).drew = W at HBW hK ⊢
  clear k7 k8 t0 t1 t2 t3 p0 p1
  unfold tokenF at h
  generalize hX : rd_T53 l b.pos = X at hK h ⊢
  have HI1 := Aside0.mk (HI.out.below HBW)
  have HB1 := Aside0.mk (Below.trans HB.out (HBW.mono HN.out))
  have HN1 := Aside0.mk (Nat.le_trans HN.out HBW.size)
  have HL1 := Aside0.mk (LW.below HL.out HBW)
  have HC1 := Aside0.mk (Kd.C_below HC.out HBW)
  have HK1 := Aside0.mk hK
  have kg0 : W.cell? ⟨w.heap.size, 0, none⟩ = some (.int .i64 X.f0) := (blk_cell hK 0).trans rfl
  have kg1 : W.cell? ⟨w.heap.size, 1, none⟩ = some (.string X.f1) := (blk_cell hK 1).trans rfl
  have kg2 : W.cell? ⟨w.heap.size, 2, none⟩ = some (.int .i64 X.f2) := (blk_cell hK 2).trans rfl
  have kg3 : W.cell? ⟨w.heap.size, 3, none⟩ = some (.int .i64 X.f3) := (blk_cell hK 3).trans rfl
  clear hK HBW hX
  by_cases e7 : X.f0 = 7
  · rw [if_pos e7] at h
    have y7 : (X.f0 == 7) = true := beq_iff_eq.mpr e7
    obtain ⟨n, a1, h⟩ := Option.bind_eq_some_iff.mp h
    have AP := Aside0.mk a1
    clear a1
    by_cases n0' : 0 < n
    · rw [if_pos n0'] at h
      have yn : decide (0 < n) = true := decide_eq_true n0'
      obtain ⟨b2, a1, h⟩ := Option.bind_eq_some_iff.mp h
      have HA := Aside0.mk a1
      simp only [Option.some.injEq, Prod.mk.injEq] at h
      obtain ⟨rfl, rfl, rfl⟩ := h
      clear a1 e7 n0'
      go_wp2_with (first | (go_at_call 54; (with_reducible refine (part_calls k HI1.out HB1.out HN1.out HC1.out HCc.out HP0.out HP1.out AP.out HL1.out).mono ?_); rintro e w2 ⟨rfl, hb2⟩; have HI2 := Aside0.mk (HI1.out.below hb2); have HB2 := Aside0.mk (Below.trans HB1.out (hb2.mono HN1.out)); have HN2 := Aside0.mk (Nat.le_trans HN1.out hb2.size); have HL2 := Aside0.mk (LW.below HL1.out hb2); have HK2 := Aside0.mk ((hb2.block _ (blk_lt HK1.out)).trans HK1.out); have kp0 : w2.cell? ⟨w.heap.size, 0, none⟩ = some (.int .i64 X.f0) := (blk_cell HK2.out 0).trans rfl; have kp1 : w2.cell? ⟨w.heap.size, 1, none⟩ = some (.string X.f1) := (blk_cell HK2.out 1).trans rfl; have kp2 : w2.cell? ⟨w.heap.size, 2, none⟩ = some (.int .i64 X.f2) := (blk_cell HK2.out 2).trans rfl; have kp3 : w2.cell? ⟨w.heap.size, 3, none⟩ = some (.int .i64 X.f3) := (blk_cell HK2.out 3).trans rfl; clear hb2 kg0 kg1 kg2 kg3) | (go_at_call 55; (with_reducible refine (add_calls ⟨16, ⟨#[]⟩, n⟩ HI2.out HB2.out HN2.out HA.out).mono ?_); rintro e w5 ⟨rfl, hB5, ⟨vi5, hI5⟩, hK5⟩; have HI5 := Aside0.mk hI5; have HB5 := Aside0.mk hB5; clear hB5 hI5 hK5))
      go_ret2
      exact ⟨rfl, HB5.out, _, HI5.out⟩
    · rw [if_neg n0'] at h
      have yn : decide (0 < n) = false := decide_eq_false n0'
      have q1 : decide (7 ≤ X.f0) = true := decide_eq_true (by omega)
      have q2 : decide (X.f0 ≤ 10) = true := decide_eq_true (by omega)
      clear n0'
      obtain ⟨s, a1, h⟩ := Option.bind_eq_some_iff.mp h
      have AS := Aside0.mk a1
      clear a1
      by_cases s0 : s = 0
      · rw [if_pos s0] at h
        have z1 : (s != 0) = false := by rw [s0]; rfl
        clear s0
        unfold restF at h
        rw [if_pos (Or.inl ⟨by rw [e7]; decide, by rw [e7]; decide⟩)] at h
        obtain ⟨⟨r, b2⟩, a1, h⟩ := Option.bind_eq_some_iff.mp h
        have HA := Aside0.mk a1
        simp only [Option.some.injEq, Prod.mk.injEq] at h
        obtain ⟨rfl, rfl, rfl⟩ := h
        clear a1 e7
        go_wp2_with (first | (go_at_call 54; (with_reducible refine (part_calls k HI1.out HB1.out HN1.out HC1.out HCc.out HP0.out HP1.out AP.out HL1.out).mono ?_); rintro e w2 ⟨rfl, hb2⟩; have HI2 := Aside0.mk (HI1.out.below hb2); have HB2 := Aside0.mk (Below.trans HB1.out (hb2.mono HN1.out)); have HN2 := Aside0.mk (Nat.le_trans HN1.out hb2.size); have HL2 := Aside0.mk (LW.below HL1.out hb2); have HK2 := Aside0.mk ((hb2.block _ (blk_lt HK1.out)).trans HK1.out); have kp0 : w2.cell? ⟨w.heap.size, 0, none⟩ = some (.int .i64 X.f0) := (blk_cell HK2.out 0).trans rfl; have kp1 : w2.cell? ⟨w.heap.size, 1, none⟩ = some (.string X.f1) := (blk_cell HK2.out 1).trans rfl; have kp2 : w2.cell? ⟨w.heap.size, 2, none⟩ = some (.int .i64 X.f2) := (blk_cell HK2.out 2).trans rfl; have kp3 : w2.cell? ⟨w.heap.size, 3, none⟩ = some (.int .i64 X.f3) := (blk_cell HK2.out 3).trans rfl; clear hb2 kg0 kg1 kg2 kg3) | (go_at_call 53; (with_reducible refine (item_sorts.calls k X.f0 X.f1 X.f2 X.f3 _ _ AS.out HL2.out).mono ?_); rintro e w3 ⟨rfl, hb3⟩; have HI3 := Aside0.mk (HI2.out.below hb3); have HB3 := Aside0.mk (Below.trans HB2.out (hb3.mono HN2.out)); have HN3 := Aside0.mk (Nat.le_trans HN2.out hb3.size); have HL3 := Aside0.mk (LW.below HL2.out hb3); have HK3 := Aside0.mk ((hb3.block _ (blk_lt HK2.out)).trans HK2.out); have k9 : w3.cell? ⟨p, 9, none⟩ = some (.int .i64 b.kind) := (blk_cell HI3.out.blk 9).trans rfl; have f9 := blk_frozen HI3.out.blk 9; have ng1 := NG.out.1; have ng2 := NG.out.2; have kh0 : w3.cell? ⟨w.heap.size, 0, none⟩ = some (.int .i64 X.f0) := (blk_cell HK3.out 0).trans rfl; have kh1 : w3.cell? ⟨w.heap.size, 1, none⟩ = some (.string X.f1) := (blk_cell HK3.out 1).trans rfl; have kh2 : w3.cell? ⟨w.heap.size, 2, none⟩ = some (.int .i64 X.f2) := (blk_cell HK3.out 2).trans rfl; have kh3 : w3.cell? ⟨w.heap.size, 3, none⟩ = some (.int .i64 X.f3) := (blk_cell HK3.out 3).trans rfl; clear hb3 kp0 kp1 kp2 kp3) | (go_at_call 56; (refine (sign_calls k X HI3.out HB3.out HN3.out HA.out).mono ?_); rintro e w5 ⟨rfl, hB5, vi5, hI5⟩; have HI5 := Aside0.mk hI5; have HB5 := Aside0.mk hB5; clear hB5 hI5))
        go_ret2
        exact ⟨rfl, HB5.out, _, HI5.out⟩
      · rw [if_neg s0] at h
        have z1 : (s != 0) = true := bne_iff_ne.mpr s0
        by_cases s1 : b.kind = 0
        · rw [if_pos (Or.inl s1)] at h
          have z2 : (b.kind != 0) = false := by rw [s1]; rfl
          clear s0 s1
          unfold restF at h
          rw [if_pos (Or.inl ⟨by rw [e7]; decide, by rw [e7]; decide⟩)] at h
          obtain ⟨⟨r, b2⟩, a1, h⟩ := Option.bind_eq_some_iff.mp h
          have HA := Aside0.mk a1
          simp only [Option.some.injEq, Prod.mk.injEq] at h
          obtain ⟨rfl, rfl, rfl⟩ := h
          clear a1 e7
          have HPW : Aside0 (True) := ⟨trivial⟩
          go_wp2_with (first | (go_at_call 54; (with_reducible refine (part_calls k HI1.out HB1.out HN1.out HC1.out HCc.out HP0.out HP1.out AP.out HL1.out).mono ?_); rintro e w2 ⟨rfl, hb2⟩; have HI2 := Aside0.mk (HI1.out.below hb2); have HB2 := Aside0.mk (Below.trans HB1.out (hb2.mono HN1.out)); have HN2 := Aside0.mk (Nat.le_trans HN1.out hb2.size); have HL2 := Aside0.mk (LW.below HL1.out hb2); have HK2 := Aside0.mk ((hb2.block _ (blk_lt HK1.out)).trans HK1.out); have kp0 : w2.cell? ⟨w.heap.size, 0, none⟩ = some (.int .i64 X.f0) := (blk_cell HK2.out 0).trans rfl; have kp1 : w2.cell? ⟨w.heap.size, 1, none⟩ = some (.string X.f1) := (blk_cell HK2.out 1).trans rfl; have kp2 : w2.cell? ⟨w.heap.size, 2, none⟩ = some (.int .i64 X.f2) := (blk_cell HK2.out 2).trans rfl; have kp3 : w2.cell? ⟨w.heap.size, 3, none⟩ = some (.int .i64 X.f3) := (blk_cell HK2.out 3).trans rfl; clear hb2 kg0 kg1 kg2 kg3) | (go_at_call 53; (with_reducible refine (item_sorts.calls k X.f0 X.f1 X.f2 X.f3 _ _ AS.out HL2.out).mono ?_); rintro e w3 ⟨rfl, hb3⟩; have HI3 := Aside0.mk (HI2.out.below hb3); have HB3 := Aside0.mk (Below.trans HB2.out (hb3.mono HN2.out)); have HN3 := Aside0.mk (Nat.le_trans HN2.out hb3.size); have HL3 := Aside0.mk (LW.below HL2.out hb3); have HK3 := Aside0.mk ((hb3.block _ (blk_lt HK2.out)).trans HK2.out); have k9 : w3.cell? ⟨p, 9, none⟩ = some (.int .i64 b.kind) := (blk_cell HI3.out.blk 9).trans rfl; have f9 := blk_frozen HI3.out.blk 9; have ng1 := NG.out.1; have ng2 := NG.out.2; have kh0 : w3.cell? ⟨w.heap.size, 0, none⟩ = some (.int .i64 X.f0) := (blk_cell HK3.out 0).trans rfl; have kh1 : w3.cell? ⟨w.heap.size, 1, none⟩ = some (.string X.f1) := (blk_cell HK3.out 1).trans rfl; have kh2 : w3.cell? ⟨w.heap.size, 2, none⟩ = some (.int .i64 X.f2) := (blk_cell HK3.out 2).trans rfl; have kh3 : w3.cell? ⟨w.heap.size, 3, none⟩ = some (.int .i64 X.f3) := (blk_cell HK3.out 3).trans rfl; clear hb3 kp0 kp1 kp2 kp3) | (go_at_call 56; (refine (sign_calls k X (HI3.out.set 9 (.int .i64 s) (b' := { b with kind := s }) rfl HI3.out.row rfl) (Below.setCell HB3.out HI3.out.hp _) (Nat.le_trans HN3.out (Nat.le_of_eq (by simp [World.setCell]))) HA.out).mono ?_); rintro e w5 ⟨rfl, hB5, vi5, hI5⟩; have HI5 := Aside0.mk hI5; have HB5 := Aside0.mk hB5; clear hB5 hI5))
          go_ret2
          exact ⟨rfl, HB5.out, _, HI5.out⟩
        · have z2 : (b.kind != 0) = true := bne_iff_ne.mpr s1
          by_cases s2 : b.kind = s
          · rw [if_pos (Or.inr s2)] at h
            have z3 : (b.kind != s) = false := by rw [s2]; simp
            clear s0 s1 s2
            unfold restF at h
            rw [if_pos (Or.inl ⟨by rw [e7]; decide, by rw [e7]; decide⟩)] at h
            obtain ⟨⟨r, b2⟩, a1, h⟩ := Option.bind_eq_some_iff.mp h
            have HA := Aside0.mk a1
            simp only [Option.some.injEq, Prod.mk.injEq] at h
            obtain ⟨rfl, rfl, rfl⟩ := h
            clear a1 e7
            have HPW : Aside0 (True) := ⟨trivial⟩
            go_wp2_with (first | (go_at_call 54; (with_reducible refine (part_calls k HI1.out HB1.out HN1.out HC1.out HCc.out HP0.out HP1.out AP.out HL1.out).mono ?_); rintro e w2 ⟨rfl, hb2⟩; have HI2 := Aside0.mk (HI1.out.below hb2); have HB2 := Aside0.mk (Below.trans HB1.out (hb2.mono HN1.out)); have HN2 := Aside0.mk (Nat.le_trans HN1.out hb2.size); have HL2 := Aside0.mk (LW.below HL1.out hb2); have HK2 := Aside0.mk ((hb2.block _ (blk_lt HK1.out)).trans HK1.out); have kp0 : w2.cell? ⟨w.heap.size, 0, none⟩ = some (.int .i64 X.f0) := (blk_cell HK2.out 0).trans rfl; have kp1 : w2.cell? ⟨w.heap.size, 1, none⟩ = some (.string X.f1) := (blk_cell HK2.out 1).trans rfl; have kp2 : w2.cell? ⟨w.heap.size, 2, none⟩ = some (.int .i64 X.f2) := (blk_cell HK2.out 2).trans rfl; have kp3 : w2.cell? ⟨w.heap.size, 3, none⟩ = some (.int .i64 X.f3) := (blk_cell HK2.out 3).trans rfl; clear hb2 kg0 kg1 kg2 kg3) | (go_at_call 53; (with_reducible refine (item_sorts.calls k X.f0 X.f1 X.f2 X.f3 _ _ AS.out HL2.out).mono ?_); rintro e w3 ⟨rfl, hb3⟩; have HI3 := Aside0.mk (HI2.out.below hb3); have HB3 := Aside0.mk (Below.trans HB2.out (hb3.mono HN2.out)); have HN3 := Aside0.mk (Nat.le_trans HN2.out hb3.size); have HL3 := Aside0.mk (LW.below HL2.out hb3); have HK3 := Aside0.mk ((hb3.block _ (blk_lt HK2.out)).trans HK2.out); have k9 : w3.cell? ⟨p, 9, none⟩ = some (.int .i64 b.kind) := (blk_cell HI3.out.blk 9).trans rfl; have f9 := blk_frozen HI3.out.blk 9; have ng1 := NG.out.1; have ng2 := NG.out.2; have kh0 : w3.cell? ⟨w.heap.size, 0, none⟩ = some (.int .i64 X.f0) := (blk_cell HK3.out 0).trans rfl; have kh1 : w3.cell? ⟨w.heap.size, 1, none⟩ = some (.string X.f1) := (blk_cell HK3.out 1).trans rfl; have kh2 : w3.cell? ⟨w.heap.size, 2, none⟩ = some (.int .i64 X.f2) := (blk_cell HK3.out 2).trans rfl; have kh3 : w3.cell? ⟨w.heap.size, 3, none⟩ = some (.int .i64 X.f3) := (blk_cell HK3.out 3).trans rfl; clear hb3 kp0 kp1 kp2 kp3) | (go_at_call 56; (refine (sign_calls k X (HI3.out.set 9 (.int .i64 s) (b' := { b with kind := s }) rfl HI3.out.row rfl) (Below.setCell HB3.out HI3.out.hp _) (Nat.le_trans HN3.out (Nat.le_of_eq (by simp [World.setCell]))) HA.out).mono ?_); rintro e w5 ⟨rfl, hB5, vi5, hI5⟩; have HI5 := Aside0.mk hI5; have HB5 := Aside0.mk hB5; clear hB5 hI5))
            go_ret2
            exact ⟨rfl, HB5.out, _, HI5.out⟩
          · rw [if_neg (fun e => by rcases e with e | e; exact s1 e; exact s2 e)] at h
            have z3 : (b.kind != s) = true := bne_iff_ne.mpr s2
            simp only [Option.some.injEq, Prod.mk.injEq] at h
            obtain ⟨rfl, rfl, rfl⟩ := h
            clear s0 s1 s2 e7
            go_wp2_with (first | (go_at_call 54; (with_reducible refine (part_calls k HI1.out HB1.out HN1.out HC1.out HCc.out HP0.out HP1.out AP.out HL1.out).mono ?_); rintro e w2 ⟨rfl, hb2⟩; have HI2 := Aside0.mk (HI1.out.below hb2); have HB2 := Aside0.mk (Below.trans HB1.out (hb2.mono HN1.out)); have HN2 := Aside0.mk (Nat.le_trans HN1.out hb2.size); have HL2 := Aside0.mk (LW.below HL1.out hb2); have HK2 := Aside0.mk ((hb2.block _ (blk_lt HK1.out)).trans HK1.out); have kp0 : w2.cell? ⟨w.heap.size, 0, none⟩ = some (.int .i64 X.f0) := (blk_cell HK2.out 0).trans rfl; have kp1 : w2.cell? ⟨w.heap.size, 1, none⟩ = some (.string X.f1) := (blk_cell HK2.out 1).trans rfl; have kp2 : w2.cell? ⟨w.heap.size, 2, none⟩ = some (.int .i64 X.f2) := (blk_cell HK2.out 2).trans rfl; have kp3 : w2.cell? ⟨w.heap.size, 3, none⟩ = some (.int .i64 X.f3) := (blk_cell HK2.out 3).trans rfl; clear hb2 kg0 kg1 kg2 kg3) | (go_at_call 53; (with_reducible refine (item_sorts.calls k X.f0 X.f1 X.f2 X.f3 _ _ AS.out HL2.out).mono ?_); rintro e w3 ⟨rfl, hb3⟩; have HI3 := Aside0.mk (HI2.out.below hb3); have HB3 := Aside0.mk (Below.trans HB2.out (hb3.mono HN2.out)); have HN3 := Aside0.mk (Nat.le_trans HN2.out hb3.size); have HL3 := Aside0.mk (LW.below HL2.out hb3); have HK3 := Aside0.mk ((hb3.block _ (blk_lt HK2.out)).trans HK2.out); have k9 : w3.cell? ⟨p, 9, none⟩ = some (.int .i64 b.kind) := (blk_cell HI3.out.blk 9).trans rfl; have f9 := blk_frozen HI3.out.blk 9; have ng1 := NG.out.1; have ng2 := NG.out.2; have kh0 : w3.cell? ⟨w.heap.size, 0, none⟩ = some (.int .i64 X.f0) := (blk_cell HK3.out 0).trans rfl; have kh1 : w3.cell? ⟨w.heap.size, 1, none⟩ = some (.string X.f1) := (blk_cell HK3.out 1).trans rfl; have kh2 : w3.cell? ⟨w.heap.size, 2, none⟩ = some (.int .i64 X.f2) := (blk_cell HK3.out 2).trans rfl; have kh3 : w3.cell? ⟨w.heap.size, 3, none⟩ = some (.int .i64 X.f3) := (blk_cell HK3.out 3).trans rfl; clear hb3 kp0 kp1 kp2 kp3))
            go_ret2
            exact ⟨rfl, HB3.out, _, HI3.out⟩
  · rw [if_neg e7, Option.bind_some, if_neg (by decide)] at h
    have y7 : (X.f0 == 7) = false := beq_eq_false_iff_ne.mpr e7
    obtain ⟨s, a1, h⟩ := Option.bind_eq_some_iff.mp h
    have AS := Aside0.mk a1
    clear a1
    by_cases s0 : s = 0
    · rw [if_pos s0] at h
      have z1 : (s != 0) = false := by rw [s0]; rfl
      clear s0
      unfold restF at h
      by_cases g1 : 7 ≤ X.f0
      · have q1 : decide (7 ≤ X.f0) = true := decide_eq_true g1
        by_cases g2 : X.f0 ≤ 10
        · have q2 : decide (X.f0 ≤ 10) = true := decide_eq_true g2
          rw [if_pos (Or.inl ⟨g1, g2⟩)] at h
          obtain ⟨⟨r, b2⟩, a1, h⟩ := Option.bind_eq_some_iff.mp h
          have HA := Aside0.mk a1
          simp only [Option.some.injEq, Prod.mk.injEq] at h
          obtain ⟨rfl, rfl, rfl⟩ := h
          clear a1 g1 g2 e7
          go_wp2_with (first | (go_at_call 53; (with_reducible refine (item_sorts.calls k X.f0 X.f1 X.f2 X.f3 _ _ AS.out HL1.out).mono ?_); rintro e w3 ⟨rfl, hb3⟩; have HI3 := Aside0.mk (HI1.out.below hb3); have HB3 := Aside0.mk (Below.trans HB1.out (hb3.mono HN1.out)); have HN3 := Aside0.mk (Nat.le_trans HN1.out hb3.size); have HL3 := Aside0.mk (LW.below HL1.out hb3); have HK3 := Aside0.mk ((hb3.block _ (blk_lt HK1.out)).trans HK1.out); have k9 : w3.cell? ⟨p, 9, none⟩ = some (.int .i64 b.kind) := (blk_cell HI3.out.blk 9).trans rfl; have f9 := blk_frozen HI3.out.blk 9; have ng1 := NG.out.1; have ng2 := NG.out.2; have kh0 : w3.cell? ⟨w.heap.size, 0, none⟩ = some (.int .i64 X.f0) := (blk_cell HK3.out 0).trans rfl; have kh1 : w3.cell? ⟨w.heap.size, 1, none⟩ = some (.string X.f1) := (blk_cell HK3.out 1).trans rfl; have kh2 : w3.cell? ⟨w.heap.size, 2, none⟩ = some (.int .i64 X.f2) := (blk_cell HK3.out 2).trans rfl; have kh3 : w3.cell? ⟨w.heap.size, 3, none⟩ = some (.int .i64 X.f3) := (blk_cell HK3.out 3).trans rfl; clear hb3 kg0 kg1 kg2 kg3) | (go_at_call 56; (refine (sign_calls k X HI3.out HB3.out HN3.out HA.out).mono ?_); rintro e w5 ⟨rfl, hB5, vi5, hI5⟩; have HI5 := Aside0.mk hI5; have HB5 := Aside0.mk hB5; clear hB5 hI5))
          go_ret2
          exact ⟨rfl, HB5.out, _, HI5.out⟩
        · have q2 : decide (X.f0 ≤ 10) = false := decide_eq_false g2
          by_cases g3 : X.f0 = 13
          · have q3 : (X.f0 == 13) = true := beq_iff_eq.mpr g3
            rw [if_pos (Or.inr g3)] at h
            obtain ⟨⟨r, b2⟩, a1, h⟩ := Option.bind_eq_some_iff.mp h
            have HA := Aside0.mk a1
            simp only [Option.some.injEq, Prod.mk.injEq] at h
            obtain ⟨rfl, rfl, rfl⟩ := h
            clear a1 g1 g2 g3 e7
            go_wp2_with (first | (go_at_call 53; (with_reducible refine (item_sorts.calls k X.f0 X.f1 X.f2 X.f3 _ _ AS.out HL1.out).mono ?_); rintro e w3 ⟨rfl, hb3⟩; have HI3 := Aside0.mk (HI1.out.below hb3); have HB3 := Aside0.mk (Below.trans HB1.out (hb3.mono HN1.out)); have HN3 := Aside0.mk (Nat.le_trans HN1.out hb3.size); have HL3 := Aside0.mk (LW.below HL1.out hb3); have HK3 := Aside0.mk ((hb3.block _ (blk_lt HK1.out)).trans HK1.out); have k9 : w3.cell? ⟨p, 9, none⟩ = some (.int .i64 b.kind) := (blk_cell HI3.out.blk 9).trans rfl; have f9 := blk_frozen HI3.out.blk 9; have ng1 := NG.out.1; have ng2 := NG.out.2; have kh0 : w3.cell? ⟨w.heap.size, 0, none⟩ = some (.int .i64 X.f0) := (blk_cell HK3.out 0).trans rfl; have kh1 : w3.cell? ⟨w.heap.size, 1, none⟩ = some (.string X.f1) := (blk_cell HK3.out 1).trans rfl; have kh2 : w3.cell? ⟨w.heap.size, 2, none⟩ = some (.int .i64 X.f2) := (blk_cell HK3.out 2).trans rfl; have kh3 : w3.cell? ⟨w.heap.size, 3, none⟩ = some (.int .i64 X.f3) := (blk_cell HK3.out 3).trans rfl; clear hb3 kg0 kg1 kg2 kg3) | (go_at_call 56; (refine (sign_calls k X HI3.out HB3.out HN3.out HA.out).mono ?_); rintro e w5 ⟨rfl, hB5, vi5, hI5⟩; have HI5 := Aside0.mk hI5; have HB5 := Aside0.mk hB5; clear hB5 hI5))
            go_ret2
            exact ⟨rfl, HB5.out, _, HI5.out⟩
          · have q3 : (X.f0 == 13) = false := beq_eq_false_iff_ne.mpr g3
            rw [if_neg (fun e => by rcases e with e | e; exact g2 e.2; exact g3 e)] at h
            obtain ⟨⟨r, b2⟩, a1, h⟩ := Option.bind_eq_some_iff.mp h
            have HA := Aside0.mk a1
            simp only [Option.some.injEq, Prod.mk.injEq] at h
            obtain ⟨rfl, rfl, rfl⟩ := h
            clear a1 g1 g2 g3 e7
            go_wp2_with (first | (go_at_call 53; (with_reducible refine (item_sorts.calls k X.f0 X.f1 X.f2 X.f3 _ _ AS.out HL1.out).mono ?_); rintro e w3 ⟨rfl, hb3⟩; have HI3 := Aside0.mk (HI1.out.below hb3); have HB3 := Aside0.mk (Below.trans HB1.out (hb3.mono HN1.out)); have HN3 := Aside0.mk (Nat.le_trans HN1.out hb3.size); have HL3 := Aside0.mk (LW.below HL1.out hb3); have HK3 := Aside0.mk ((hb3.block _ (blk_lt HK1.out)).trans HK1.out); have k9 : w3.cell? ⟨p, 9, none⟩ = some (.int .i64 b.kind) := (blk_cell HI3.out.blk 9).trans rfl; have f9 := blk_frozen HI3.out.blk 9; have ng1 := NG.out.1; have ng2 := NG.out.2; have kh0 : w3.cell? ⟨w.heap.size, 0, none⟩ = some (.int .i64 X.f0) := (blk_cell HK3.out 0).trans rfl; have kh1 : w3.cell? ⟨w.heap.size, 1, none⟩ = some (.string X.f1) := (blk_cell HK3.out 1).trans rfl; have kh2 : w3.cell? ⟨w.heap.size, 2, none⟩ = some (.int .i64 X.f2) := (blk_cell HK3.out 2).trans rfl; have kh3 : w3.cell? ⟨w.heap.size, 3, none⟩ = some (.int .i64 X.f3) := (blk_cell HK3.out 3).trans rfl; clear hb3 kg0 kg1 kg2 kg3) | (go_at_call 57; (refine (other_calls k X HI3.out HB3.out HN3.out HA.out HL3.out).mono ?_); rintro e w5 ⟨rfl, hB5, vi5, hI5⟩; have HI5 := Aside0.mk hI5; have HB5 := Aside0.mk hB5; clear hB5 hI5))
            go_ret2
            exact ⟨rfl, HB5.out, _, HI5.out⟩
      · have q1 : decide (7 ≤ X.f0) = false := decide_eq_false g1
        have g3 : ¬ X.f0 = 13 := by omega
        have q3 : (X.f0 == 13) = false := beq_eq_false_iff_ne.mpr g3
        rw [if_neg (fun e => by rcases e with e | e; exact g1 e.1; exact g3 e)] at h
        obtain ⟨⟨r, b2⟩, a1, h⟩ := Option.bind_eq_some_iff.mp h
        have HA := Aside0.mk a1
        simp only [Option.some.injEq, Prod.mk.injEq] at h
        obtain ⟨rfl, rfl, rfl⟩ := h
        clear a1 g1 g3 e7
        go_wp2_with (first | (go_at_call 53; (with_reducible refine (item_sorts.calls k X.f0 X.f1 X.f2 X.f3 _ _ AS.out HL1.out).mono ?_); rintro e w3 ⟨rfl, hb3⟩; have HI3 := Aside0.mk (HI1.out.below hb3); have HB3 := Aside0.mk (Below.trans HB1.out (hb3.mono HN1.out)); have HN3 := Aside0.mk (Nat.le_trans HN1.out hb3.size); have HL3 := Aside0.mk (LW.below HL1.out hb3); have HK3 := Aside0.mk ((hb3.block _ (blk_lt HK1.out)).trans HK1.out); have k9 : w3.cell? ⟨p, 9, none⟩ = some (.int .i64 b.kind) := (blk_cell HI3.out.blk 9).trans rfl; have f9 := blk_frozen HI3.out.blk 9; have ng1 := NG.out.1; have ng2 := NG.out.2; have kh0 : w3.cell? ⟨w.heap.size, 0, none⟩ = some (.int .i64 X.f0) := (blk_cell HK3.out 0).trans rfl; have kh1 : w3.cell? ⟨w.heap.size, 1, none⟩ = some (.string X.f1) := (blk_cell HK3.out 1).trans rfl; have kh2 : w3.cell? ⟨w.heap.size, 2, none⟩ = some (.int .i64 X.f2) := (blk_cell HK3.out 2).trans rfl; have kh3 : w3.cell? ⟨w.heap.size, 3, none⟩ = some (.int .i64 X.f3) := (blk_cell HK3.out 3).trans rfl; clear hb3 kg0 kg1 kg2 kg3) | (go_at_call 57; (refine (other_calls k X HI3.out HB3.out HN3.out HA.out HL3.out).mono ?_); rintro e w5 ⟨rfl, hB5, vi5, hI5⟩; have HI5 := Aside0.mk hI5; have HB5 := Aside0.mk hB5; clear hB5 hI5))
        go_ret2
        exact ⟨rfl, HB5.out, _, HI5.out⟩
    · rw [if_neg s0] at h
      have z1 : (s != 0) = true := bne_iff_ne.mpr s0
      by_cases s1 : b.kind = 0
      · rw [if_pos (Or.inl s1)] at h
        have z2 : (b.kind != 0) = false := by rw [s1]; rfl
        clear s0 s1
        unfold restF at h
        by_cases g1 : 7 ≤ X.f0
        · have q1 : decide (7 ≤ X.f0) = true := decide_eq_true g1
          by_cases g2 : X.f0 ≤ 10
          · have q2 : decide (X.f0 ≤ 10) = true := decide_eq_true g2
            rw [if_pos (Or.inl ⟨g1, g2⟩)] at h
            obtain ⟨⟨r, b2⟩, a1, h⟩ := Option.bind_eq_some_iff.mp h
            have HA := Aside0.mk a1
            simp only [Option.some.injEq, Prod.mk.injEq] at h
            obtain ⟨rfl, rfl, rfl⟩ := h
            clear a1 g1 g2 e7
            have HPW : Aside0 (True) := ⟨trivial⟩
            go_wp2_with (first | (go_at_call 53; (with_reducible refine (item_sorts.calls k X.f0 X.f1 X.f2 X.f3 _ _ AS.out HL1.out).mono ?_); rintro e w3 ⟨rfl, hb3⟩; have HI3 := Aside0.mk (HI1.out.below hb3); have HB3 := Aside0.mk (Below.trans HB1.out (hb3.mono HN1.out)); have HN3 := Aside0.mk (Nat.le_trans HN1.out hb3.size); have HL3 := Aside0.mk (LW.below HL1.out hb3); have HK3 := Aside0.mk ((hb3.block _ (blk_lt HK1.out)).trans HK1.out); have k9 : w3.cell? ⟨p, 9, none⟩ = some (.int .i64 b.kind) := (blk_cell HI3.out.blk 9).trans rfl; have f9 := blk_frozen HI3.out.blk 9; have ng1 := NG.out.1; have ng2 := NG.out.2; have kh0 : w3.cell? ⟨w.heap.size, 0, none⟩ = some (.int .i64 X.f0) := (blk_cell HK3.out 0).trans rfl; have kh1 : w3.cell? ⟨w.heap.size, 1, none⟩ = some (.string X.f1) := (blk_cell HK3.out 1).trans rfl; have kh2 : w3.cell? ⟨w.heap.size, 2, none⟩ = some (.int .i64 X.f2) := (blk_cell HK3.out 2).trans rfl; have kh3 : w3.cell? ⟨w.heap.size, 3, none⟩ = some (.int .i64 X.f3) := (blk_cell HK3.out 3).trans rfl; clear hb3 kg0 kg1 kg2 kg3) | (go_at_call 56; (refine (sign_calls k X (HI3.out.set 9 (.int .i64 s) (b' := { b with kind := s }) rfl HI3.out.row rfl) (Below.setCell HB3.out HI3.out.hp _) (Nat.le_trans HN3.out (Nat.le_of_eq (by simp [World.setCell]))) HA.out).mono ?_); rintro e w5 ⟨rfl, hB5, vi5, hI5⟩; have HI5 := Aside0.mk hI5; have HB5 := Aside0.mk hB5; clear hB5 hI5))
            go_ret2
            exact ⟨rfl, HB5.out, _, HI5.out⟩
          · have q2 : decide (X.f0 ≤ 10) = false := decide_eq_false g2
            by_cases g3 : X.f0 = 13
            · have q3 : (X.f0 == 13) = true := beq_iff_eq.mpr g3
              rw [if_pos (Or.inr g3)] at h
              obtain ⟨⟨r, b2⟩, a1, h⟩ := Option.bind_eq_some_iff.mp h
              have HA := Aside0.mk a1
              simp only [Option.some.injEq, Prod.mk.injEq] at h
              obtain ⟨rfl, rfl, rfl⟩ := h
              clear a1 g1 g2 g3 e7
              have HPW : Aside0 (True) := ⟨trivial⟩
              go_wp2_with (first | (go_at_call 53; (with_reducible refine (item_sorts.calls k X.f0 X.f1 X.f2 X.f3 _ _ AS.out HL1.out).mono ?_); rintro e w3 ⟨rfl, hb3⟩; have HI3 := Aside0.mk (HI1.out.below hb3); have HB3 := Aside0.mk (Below.trans HB1.out (hb3.mono HN1.out)); have HN3 := Aside0.mk (Nat.le_trans HN1.out hb3.size); have HL3 := Aside0.mk (LW.below HL1.out hb3); have HK3 := Aside0.mk ((hb3.block _ (blk_lt HK1.out)).trans HK1.out); have k9 : w3.cell? ⟨p, 9, none⟩ = some (.int .i64 b.kind) := (blk_cell HI3.out.blk 9).trans rfl; have f9 := blk_frozen HI3.out.blk 9; have ng1 := NG.out.1; have ng2 := NG.out.2; have kh0 : w3.cell? ⟨w.heap.size, 0, none⟩ = some (.int .i64 X.f0) := (blk_cell HK3.out 0).trans rfl; have kh1 : w3.cell? ⟨w.heap.size, 1, none⟩ = some (.string X.f1) := (blk_cell HK3.out 1).trans rfl; have kh2 : w3.cell? ⟨w.heap.size, 2, none⟩ = some (.int .i64 X.f2) := (blk_cell HK3.out 2).trans rfl; have kh3 : w3.cell? ⟨w.heap.size, 3, none⟩ = some (.int .i64 X.f3) := (blk_cell HK3.out 3).trans rfl; clear hb3 kg0 kg1 kg2 kg3) | (go_at_call 56; (refine (sign_calls k X (HI3.out.set 9 (.int .i64 s) (b' := { b with kind := s }) rfl HI3.out.row rfl) (Below.setCell HB3.out HI3.out.hp _) (Nat.le_trans HN3.out (Nat.le_of_eq (by simp [World.setCell]))) HA.out).mono ?_); rintro e w5 ⟨rfl, hB5, vi5, hI5⟩; have HI5 := Aside0.mk hI5; have HB5 := Aside0.mk hB5; clear hB5 hI5))
              go_ret2
              exact ⟨rfl, HB5.out, _, HI5.out⟩
            · have q3 : (X.f0 == 13) = false := beq_eq_false_iff_ne.mpr g3
              rw [if_neg (fun e => by rcases e with e | e; exact g2 e.2; exact g3 e)] at h
              obtain ⟨⟨r, b2⟩, a1, h⟩ := Option.bind_eq_some_iff.mp h
              have HA := Aside0.mk a1
              simp only [Option.some.injEq, Prod.mk.injEq] at h
              obtain ⟨rfl, rfl, rfl⟩ := h
              clear a1 g1 g2 g3 e7
              have HPW : Aside0 (True) := ⟨trivial⟩
              go_wp2_with (first | (go_at_call 53; (with_reducible refine (item_sorts.calls k X.f0 X.f1 X.f2 X.f3 _ _ AS.out HL1.out).mono ?_); rintro e w3 ⟨rfl, hb3⟩; have HI3 := Aside0.mk (HI1.out.below hb3); have HB3 := Aside0.mk (Below.trans HB1.out (hb3.mono HN1.out)); have HN3 := Aside0.mk (Nat.le_trans HN1.out hb3.size); have HL3 := Aside0.mk (LW.below HL1.out hb3); have HK3 := Aside0.mk ((hb3.block _ (blk_lt HK1.out)).trans HK1.out); have k9 : w3.cell? ⟨p, 9, none⟩ = some (.int .i64 b.kind) := (blk_cell HI3.out.blk 9).trans rfl; have f9 := blk_frozen HI3.out.blk 9; have ng1 := NG.out.1; have ng2 := NG.out.2; have kh0 : w3.cell? ⟨w.heap.size, 0, none⟩ = some (.int .i64 X.f0) := (blk_cell HK3.out 0).trans rfl; have kh1 : w3.cell? ⟨w.heap.size, 1, none⟩ = some (.string X.f1) := (blk_cell HK3.out 1).trans rfl; have kh2 : w3.cell? ⟨w.heap.size, 2, none⟩ = some (.int .i64 X.f2) := (blk_cell HK3.out 2).trans rfl; have kh3 : w3.cell? ⟨w.heap.size, 3, none⟩ = some (.int .i64 X.f3) := (blk_cell HK3.out 3).trans rfl; clear hb3 kg0 kg1 kg2 kg3) | (go_at_call 57; (refine (other_calls k X (HI3.out.set 9 (.int .i64 s) (b' := { b with kind := s }) rfl HI3.out.row rfl) (Below.setCell HB3.out HI3.out.hp _) (Nat.le_trans HN3.out (Nat.le_of_eq (by simp [World.setCell]))) HA.out (LWB HW0.out HLW0.out (Below.setCell HB3.out HI3.out.hp _))).mono ?_); rintro e w5 ⟨rfl, hB5, vi5, hI5⟩; have HI5 := Aside0.mk hI5; have HB5 := Aside0.mk hB5; clear hB5 hI5))
              go_ret2
              exact ⟨rfl, HB5.out, _, HI5.out⟩
        · have q1 : decide (7 ≤ X.f0) = false := decide_eq_false g1
          have g3 : ¬ X.f0 = 13 := by omega
          have q3 : (X.f0 == 13) = false := beq_eq_false_iff_ne.mpr g3
          rw [if_neg (fun e => by rcases e with e | e; exact g1 e.1; exact g3 e)] at h
          obtain ⟨⟨r, b2⟩, a1, h⟩ := Option.bind_eq_some_iff.mp h
          have HA := Aside0.mk a1
          simp only [Option.some.injEq, Prod.mk.injEq] at h
          obtain ⟨rfl, rfl, rfl⟩ := h
          clear a1 g1 g3 e7
          have HPW : Aside0 (True) := ⟨trivial⟩
          go_wp2_with (first | (go_at_call 53; (with_reducible refine (item_sorts.calls k X.f0 X.f1 X.f2 X.f3 _ _ AS.out HL1.out).mono ?_); rintro e w3 ⟨rfl, hb3⟩; have HI3 := Aside0.mk (HI1.out.below hb3); have HB3 := Aside0.mk (Below.trans HB1.out (hb3.mono HN1.out)); have HN3 := Aside0.mk (Nat.le_trans HN1.out hb3.size); have HL3 := Aside0.mk (LW.below HL1.out hb3); have HK3 := Aside0.mk ((hb3.block _ (blk_lt HK1.out)).trans HK1.out); have k9 : w3.cell? ⟨p, 9, none⟩ = some (.int .i64 b.kind) := (blk_cell HI3.out.blk 9).trans rfl; have f9 := blk_frozen HI3.out.blk 9; have ng1 := NG.out.1; have ng2 := NG.out.2; have kh0 : w3.cell? ⟨w.heap.size, 0, none⟩ = some (.int .i64 X.f0) := (blk_cell HK3.out 0).trans rfl; have kh1 : w3.cell? ⟨w.heap.size, 1, none⟩ = some (.string X.f1) := (blk_cell HK3.out 1).trans rfl; have kh2 : w3.cell? ⟨w.heap.size, 2, none⟩ = some (.int .i64 X.f2) := (blk_cell HK3.out 2).trans rfl; have kh3 : w3.cell? ⟨w.heap.size, 3, none⟩ = some (.int .i64 X.f3) := (blk_cell HK3.out 3).trans rfl; clear hb3 kg0 kg1 kg2 kg3) | (go_at_call 57; (refine (other_calls k X (HI3.out.set 9 (.int .i64 s) (b' := { b with kind := s }) rfl HI3.out.row rfl) (Below.setCell HB3.out HI3.out.hp _) (Nat.le_trans HN3.out (Nat.le_of_eq (by simp [World.setCell]))) HA.out (LWB HW0.out HLW0.out (Below.setCell HB3.out HI3.out.hp _))).mono ?_); rintro e w5 ⟨rfl, hB5, vi5, hI5⟩; have HI5 := Aside0.mk hI5; have HB5 := Aside0.mk hB5; clear hB5 hI5))
          go_ret2
          exact ⟨rfl, HB5.out, _, HI5.out⟩
      · have z2 : (b.kind != 0) = true := bne_iff_ne.mpr s1
        by_cases s2 : b.kind = s
        · rw [if_pos (Or.inr s2)] at h
          have z3 : (b.kind != s) = false := by rw [s2]; simp
          clear s0 s1 s2
          unfold restF at h
          by_cases g1 : 7 ≤ X.f0
          · have q1 : decide (7 ≤ X.f0) = true := decide_eq_true g1
            by_cases g2 : X.f0 ≤ 10
            · have q2 : decide (X.f0 ≤ 10) = true := decide_eq_true g2
              rw [if_pos (Or.inl ⟨g1, g2⟩)] at h
              obtain ⟨⟨r, b2⟩, a1, h⟩ := Option.bind_eq_some_iff.mp h
              have HA := Aside0.mk a1
              simp only [Option.some.injEq, Prod.mk.injEq] at h
              obtain ⟨rfl, rfl, rfl⟩ := h
              clear a1 g1 g2 e7
              have HPW : Aside0 (True) := ⟨trivial⟩
              go_wp2_with (first | (go_at_call 53; (with_reducible refine (item_sorts.calls k X.f0 X.f1 X.f2 X.f3 _ _ AS.out HL1.out).mono ?_); rintro e w3 ⟨rfl, hb3⟩; have HI3 := Aside0.mk (HI1.out.below hb3); have HB3 := Aside0.mk (Below.trans HB1.out (hb3.mono HN1.out)); have HN3 := Aside0.mk (Nat.le_trans HN1.out hb3.size); have HL3 := Aside0.mk (LW.below HL1.out hb3); have HK3 := Aside0.mk ((hb3.block _ (blk_lt HK1.out)).trans HK1.out); have k9 : w3.cell? ⟨p, 9, none⟩ = some (.int .i64 b.kind) := (blk_cell HI3.out.blk 9).trans rfl; have f9 := blk_frozen HI3.out.blk 9; have ng1 := NG.out.1; have ng2 := NG.out.2; have kh0 : w3.cell? ⟨w.heap.size, 0, none⟩ = some (.int .i64 X.f0) := (blk_cell HK3.out 0).trans rfl; have kh1 : w3.cell? ⟨w.heap.size, 1, none⟩ = some (.string X.f1) := (blk_cell HK3.out 1).trans rfl; have kh2 : w3.cell? ⟨w.heap.size, 2, none⟩ = some (.int .i64 X.f2) := (blk_cell HK3.out 2).trans rfl; have kh3 : w3.cell? ⟨w.heap.size, 3, none⟩ = some (.int .i64 X.f3) := (blk_cell HK3.out 3).trans rfl; clear hb3 kg0 kg1 kg2 kg3) | (go_at_call 56; (refine (sign_calls k X (HI3.out.set 9 (.int .i64 s) (b' := { b with kind := s }) rfl HI3.out.row rfl) (Below.setCell HB3.out HI3.out.hp _) (Nat.le_trans HN3.out (Nat.le_of_eq (by simp [World.setCell]))) HA.out).mono ?_); rintro e w5 ⟨rfl, hB5, vi5, hI5⟩; have HI5 := Aside0.mk hI5; have HB5 := Aside0.mk hB5; clear hB5 hI5))
              go_ret2
              exact ⟨rfl, HB5.out, _, HI5.out⟩
            · have q2 : decide (X.f0 ≤ 10) = false := decide_eq_false g2
              by_cases g3 : X.f0 = 13
              · have q3 : (X.f0 == 13) = true := beq_iff_eq.mpr g3
                rw [if_pos (Or.inr g3)] at h
                obtain ⟨⟨r, b2⟩, a1, h⟩ := Option.bind_eq_some_iff.mp h
                have HA := Aside0.mk a1
                simp only [Option.some.injEq, Prod.mk.injEq] at h
                obtain ⟨rfl, rfl, rfl⟩ := h
                clear a1 g1 g2 g3 e7
                have HPW : Aside0 (True) := ⟨trivial⟩
                go_wp2_with (first | (go_at_call 53; (with_reducible refine (item_sorts.calls k X.f0 X.f1 X.f2 X.f3 _ _ AS.out HL1.out).mono ?_); rintro e w3 ⟨rfl, hb3⟩; have HI3 := Aside0.mk (HI1.out.below hb3); have HB3 := Aside0.mk (Below.trans HB1.out (hb3.mono HN1.out)); have HN3 := Aside0.mk (Nat.le_trans HN1.out hb3.size); have HL3 := Aside0.mk (LW.below HL1.out hb3); have HK3 := Aside0.mk ((hb3.block _ (blk_lt HK1.out)).trans HK1.out); have k9 : w3.cell? ⟨p, 9, none⟩ = some (.int .i64 b.kind) := (blk_cell HI3.out.blk 9).trans rfl; have f9 := blk_frozen HI3.out.blk 9; have ng1 := NG.out.1; have ng2 := NG.out.2; have kh0 : w3.cell? ⟨w.heap.size, 0, none⟩ = some (.int .i64 X.f0) := (blk_cell HK3.out 0).trans rfl; have kh1 : w3.cell? ⟨w.heap.size, 1, none⟩ = some (.string X.f1) := (blk_cell HK3.out 1).trans rfl; have kh2 : w3.cell? ⟨w.heap.size, 2, none⟩ = some (.int .i64 X.f2) := (blk_cell HK3.out 2).trans rfl; have kh3 : w3.cell? ⟨w.heap.size, 3, none⟩ = some (.int .i64 X.f3) := (blk_cell HK3.out 3).trans rfl; clear hb3 kg0 kg1 kg2 kg3) | (go_at_call 56; (refine (sign_calls k X (HI3.out.set 9 (.int .i64 s) (b' := { b with kind := s }) rfl HI3.out.row rfl) (Below.setCell HB3.out HI3.out.hp _) (Nat.le_trans HN3.out (Nat.le_of_eq (by simp [World.setCell]))) HA.out).mono ?_); rintro e w5 ⟨rfl, hB5, vi5, hI5⟩; have HI5 := Aside0.mk hI5; have HB5 := Aside0.mk hB5; clear hB5 hI5))
                go_ret2
                exact ⟨rfl, HB5.out, _, HI5.out⟩
              · have q3 : (X.f0 == 13) = false := beq_eq_false_iff_ne.mpr g3
                rw [if_neg (fun e => by rcases e with e | e; exact g2 e.2; exact g3 e)] at h
                obtain ⟨⟨r, b2⟩, a1, h⟩ := Option.bind_eq_some_iff.mp h
                have HA := Aside0.mk a1
                simp only [Option.some.injEq, Prod.mk.injEq] at h
                obtain ⟨rfl, rfl, rfl⟩ := h
                clear a1 g1 g2 g3 e7
                have HPW : Aside0 (True) := ⟨trivial⟩
                go_wp2_with (first | (go_at_call 53; (with_reducible refine (item_sorts.calls k X.f0 X.f1 X.f2 X.f3 _ _ AS.out HL1.out).mono ?_); rintro e w3 ⟨rfl, hb3⟩; have HI3 := Aside0.mk (HI1.out.below hb3); have HB3 := Aside0.mk (Below.trans HB1.out (hb3.mono HN1.out)); have HN3 := Aside0.mk (Nat.le_trans HN1.out hb3.size); have HL3 := Aside0.mk (LW.below HL1.out hb3); have HK3 := Aside0.mk ((hb3.block _ (blk_lt HK1.out)).trans HK1.out); have k9 : w3.cell? ⟨p, 9, none⟩ = some (.int .i64 b.kind) := (blk_cell HI3.out.blk 9).trans rfl; have f9 := blk_frozen HI3.out.blk 9; have ng1 := NG.out.1; have ng2 := NG.out.2; have kh0 : w3.cell? ⟨w.heap.size, 0, none⟩ = some (.int .i64 X.f0) := (blk_cell HK3.out 0).trans rfl; have kh1 : w3.cell? ⟨w.heap.size, 1, none⟩ = some (.string X.f1) := (blk_cell HK3.out 1).trans rfl; have kh2 : w3.cell? ⟨w.heap.size, 2, none⟩ = some (.int .i64 X.f2) := (blk_cell HK3.out 2).trans rfl; have kh3 : w3.cell? ⟨w.heap.size, 3, none⟩ = some (.int .i64 X.f3) := (blk_cell HK3.out 3).trans rfl; clear hb3 kg0 kg1 kg2 kg3) | (go_at_call 57; (refine (other_calls k X (HI3.out.set 9 (.int .i64 s) (b' := { b with kind := s }) rfl HI3.out.row rfl) (Below.setCell HB3.out HI3.out.hp _) (Nat.le_trans HN3.out (Nat.le_of_eq (by simp [World.setCell]))) HA.out (LWB HW0.out HLW0.out (Below.setCell HB3.out HI3.out.hp _))).mono ?_); rintro e w5 ⟨rfl, hB5, vi5, hI5⟩; have HI5 := Aside0.mk hI5; have HB5 := Aside0.mk hB5; clear hB5 hI5))
                go_ret2
                exact ⟨rfl, HB5.out, _, HI5.out⟩
          · have q1 : decide (7 ≤ X.f0) = false := decide_eq_false g1
            have g3 : ¬ X.f0 = 13 := by omega
            have q3 : (X.f0 == 13) = false := beq_eq_false_iff_ne.mpr g3
            rw [if_neg (fun e => by rcases e with e | e; exact g1 e.1; exact g3 e)] at h
            obtain ⟨⟨r, b2⟩, a1, h⟩ := Option.bind_eq_some_iff.mp h
            have HA := Aside0.mk a1
            simp only [Option.some.injEq, Prod.mk.injEq] at h
            obtain ⟨rfl, rfl, rfl⟩ := h
            clear a1 g1 g3 e7
            have HPW : Aside0 (True) := ⟨trivial⟩
            go_wp2_with (first | (go_at_call 53; (with_reducible refine (item_sorts.calls k X.f0 X.f1 X.f2 X.f3 _ _ AS.out HL1.out).mono ?_); rintro e w3 ⟨rfl, hb3⟩; have HI3 := Aside0.mk (HI1.out.below hb3); have HB3 := Aside0.mk (Below.trans HB1.out (hb3.mono HN1.out)); have HN3 := Aside0.mk (Nat.le_trans HN1.out hb3.size); have HL3 := Aside0.mk (LW.below HL1.out hb3); have HK3 := Aside0.mk ((hb3.block _ (blk_lt HK1.out)).trans HK1.out); have k9 : w3.cell? ⟨p, 9, none⟩ = some (.int .i64 b.kind) := (blk_cell HI3.out.blk 9).trans rfl; have f9 := blk_frozen HI3.out.blk 9; have ng1 := NG.out.1; have ng2 := NG.out.2; have kh0 : w3.cell? ⟨w.heap.size, 0, none⟩ = some (.int .i64 X.f0) := (blk_cell HK3.out 0).trans rfl; have kh1 : w3.cell? ⟨w.heap.size, 1, none⟩ = some (.string X.f1) := (blk_cell HK3.out 1).trans rfl; have kh2 : w3.cell? ⟨w.heap.size, 2, none⟩ = some (.int .i64 X.f2) := (blk_cell HK3.out 2).trans rfl; have kh3 : w3.cell? ⟨w.heap.size, 3, none⟩ = some (.int .i64 X.f3) := (blk_cell HK3.out 3).trans rfl; clear hb3 kg0 kg1 kg2 kg3) | (go_at_call 57; (refine (other_calls k X (HI3.out.set 9 (.int .i64 s) (b' := { b with kind := s }) rfl HI3.out.row rfl) (Below.setCell HB3.out HI3.out.hp _) (Nat.le_trans HN3.out (Nat.le_of_eq (by simp [World.setCell]))) HA.out (LWB HW0.out HLW0.out (Below.setCell HB3.out HI3.out.hp _))).mono ?_); rintro e w5 ⟨rfl, hB5, vi5, hI5⟩; have HI5 := Aside0.mk hI5; have HB5 := Aside0.mk hB5; clear hB5 hI5))
            go_ret2
            exact ⟨rfl, HB5.out, _, HI5.out⟩
        · rw [if_neg (fun e => by rcases e with e | e; exact s1 e; exact s2 e)] at h
          have z3 : (b.kind != s) = true := bne_iff_ne.mpr s2
          simp only [Option.some.injEq, Prod.mk.injEq] at h
          obtain ⟨rfl, rfl, rfl⟩ := h
          clear s0 s1 s2 e7
          go_wp2_with (first | (go_at_call 53; (with_reducible refine (item_sorts.calls k X.f0 X.f1 X.f2 X.f3 _ _ AS.out HL1.out).mono ?_); rintro e w3 ⟨rfl, hb3⟩; have HI3 := Aside0.mk (HI1.out.below hb3); have HB3 := Aside0.mk (Below.trans HB1.out (hb3.mono HN1.out)); have HN3 := Aside0.mk (Nat.le_trans HN1.out hb3.size); have HL3 := Aside0.mk (LW.below HL1.out hb3); have HK3 := Aside0.mk ((hb3.block _ (blk_lt HK1.out)).trans HK1.out); have k9 : w3.cell? ⟨p, 9, none⟩ = some (.int .i64 b.kind) := (blk_cell HI3.out.blk 9).trans rfl; have f9 := blk_frozen HI3.out.blk 9; have ng1 := NG.out.1; have ng2 := NG.out.2; have kh0 : w3.cell? ⟨w.heap.size, 0, none⟩ = some (.int .i64 X.f0) := (blk_cell HK3.out 0).trans rfl; have kh1 : w3.cell? ⟨w.heap.size, 1, none⟩ = some (.string X.f1) := (blk_cell HK3.out 1).trans rfl; have kh2 : w3.cell? ⟨w.heap.size, 2, none⟩ = some (.int .i64 X.f2) := (blk_cell HK3.out 2).trans rfl; have kh3 : w3.cell? ⟨w.heap.size, 3, none⟩ = some (.int .i64 X.f3) := (blk_cell HK3.out 3).trans rfl; clear hb3 kg0 kg1 kg2 kg3))
          go_ret2
          exact ⟨rfl, HB3.out, _, HI3.out⟩
end Go.Proofs.YtiidpicgdjjikaaGreatDoor.G
