/- Texts of this seat, one behind the other (merged by a program of this session's own). -/
import Derived.Test.YtiidpicgdjjikaaGreatDoorM6
import Derived.Test.YtiidpicgdjjikaaGreatDoorM43
import Derived.Test.YtiidpicgdjjikaaGreatDoorM44

-- Px59
-- of this claim: by a program of this session's own over the kit's print
namespace Go.Proofs.YtiidpicgdjjikaaGreatDoor.P
open Go.RowKit Go.Proofs.YtiidpicgdjjikaaGreatDoor.G Go.Proofs.YtiidpicgdjjikaaGreatDoorW.PrintWords Go.Proofs.YtiidpicgdjjikaaGreatDoorW.PrintLast Go.Proofs.YtiidpicgdjjikaaGreatDoorW.PrintMore
attribute [local go_sem] isSome_setCell_eq max2_int min2_int max_two min_two max_three min_three max_four min_four   -- for this text's walks alone
set_option linter.unusedVariables false
set_option linter.unusedSimpArgs false
theorem takeLen_ {α : Type} (l : List α) (j : Int) (h : j ≤ (l.length : Int)) : ((l.take j.toNat).length : Int) = max j 0 := by
  rw [List.length_take]
  omega

/-! ### numerarylaw14_ItemMinutes: function 4 -/
mutual
def numerarylaw14_ItemMinutes.l0 : Nat → List (S53) → List Int → Int → Int → Option (Bool)
  | 0, _, _, _, _ => none
  | k + 1, x3, x16, x17, x18 => if x18 < x17 then (if 0 ≤ x18 then (if x18 < (x16.length : Int) then (if 0 ≤ (Int.tmod (rd x16 x18) 5) then (if (Int.tmod (rd x16 x18) 5) < 5 then ((some (([(⟨14, Utf8.encode (bt (⟨#[121, 109, 100, 104, 115]⟩ : ByteArray) (Int.tmod (rd x16 x18) 5)), 1 + (((Int.tdiv (rd x16 x18) 5) % 256) % 4), 0⟩ : S53), (⟨17, (⟨#[45]⟩ : ByteArray), 1, 0⟩ : S53)] : List (S53)) : List (S53))).bind fun y527 => (if x3.length + y527.length < 3518437208883 then (numerarylaw14_ItemMinutes.l0 k (x3 ++ y527) x16 x17 (wrap64 (x18 + 1))) else (none))) else (none)) else (none)) else (none)) else (none)) else ((item_Of.f k x3).bind fun bt533 => ((numerarylaw14_wakes.f k).bind fun t545 => (if t545 = true then (if bt533.2.2.2.2.2.2.2.2 = 0 then (numerarylaw14_ItemMinutes.j1 k x3 ((bt533.2.2.2.2.2.2.1.length : Int) != (x3.length : Int)) bt533.1 bt533.2.1 bt533.2.2.1 bt533.2.2.2.1 bt533.2.2.2.2.1 bt533.2.2.2.2.2.1 bt533.2.2.2.2.2.2.1) else (numerarylaw14_ItemMinutes.j1 k x3 true bt533.1 bt533.2.1 bt533.2.2.1 bt533.2.2.2.1 bt533.2.2.2.2.1 bt533.2.2.2.2.2.1 bt533.2.2.2.2.2.2.1)) else (numerarylaw14_ItemMinutes.j1 k x3 true bt533.1 bt533.2.1 bt533.2.2.1 bt533.2.2.2.1 bt533.2.2.2.2.1 bt533.2.2.2.2.2.1 bt533.2.2.2.2.2.2.1))))
def numerarylaw14_ItemMinutes.j1 : Nat → List (S53) → Bool → Int → Int → Int → Bool → ByteArray → ByteArray → List (S55) → Option (Bool)
  | 0, _, _, _, _, _, _, _, _, _ => none
  | k + 1, x3, x56, x545000, x545001, x545002, x545003, x545004, x545005, x545006 => if x56 = true then (some false) else (numerarylaw14_ItemMinutes.l1 k x3 0 x545000 x545001 x545002 x545003 x545004 x545005 x545006)
def numerarylaw14_ItemMinutes.l1 : Nat → List (S53) → Int → Int → Int → Int → Bool → ByteArray → ByteArray → List (S55) → Option (Bool)
  | 0, _, _, _, _, _, _, _, _, _ => none
  | k + 1, x3, x9, x545000, x545001, x545002, x545003, x545004, x545005, x545006 => if x9 < (x3.length : Int) then (if 0 ≤ x9 then (if ((rd_T53 x3 x9).f1).toList = ([109] : List UInt8) then (if ((rd_T53 x3 x9).f2) ≤ 2 then (if x9 > 0 then (if 0 ≤ (wrap64 (x9 - 2)) then (if (wrap64 (x9 - 2)) < (x3.length : Int) then (if ((rd_T53 x3 (wrap64 (x9 - 2))).f1).toList = ([104] : List UInt8) then (numerarylaw14_ItemMinutes.j3 k x3 x9 ((rd_T53 x3 x9).f1) true x545000 x545001 x545002 x545003 x545004 x545005 x545006) else (if (wrap64 (x9 + 2)) < (x3.length : Int) then (if 0 ≤ (wrap64 (x9 + 2)) then (numerarylaw14_ItemMinutes.j3 k x3 x9 ((rd_T53 x3 x9).f1) (((rd_T53 x3 (wrap64 (x9 + 2))).f1).toList == ([115] : List UInt8)) x545000 x545001 x545002 x545003 x545004 x545005 x545006) else (none)) else (numerarylaw14_ItemMinutes.j3 k x3 x9 ((rd_T53 x3 x9).f1) false x545000 x545001 x545002 x545003 x545004 x545005 x545006))) else (none)) else (none)) else (if (wrap64 (x9 + 2)) < (x3.length : Int) then (if 0 ≤ (wrap64 (x9 + 2)) then (numerarylaw14_ItemMinutes.j3 k x3 x9 ((rd_T53 x3 x9).f1) (((rd_T53 x3 (wrap64 (x9 + 2))).f1).toList == ([115] : List UInt8)) x545000 x545001 x545002 x545003 x545004 x545005 x545006) else (none)) else (numerarylaw14_ItemMinutes.j3 k x3 x9 ((rd_T53 x3 x9).f1) false x545000 x545001 x545002 x545003 x545004 x545005 x545006))) else (numerarylaw14_ItemMinutes.j3 k x3 x9 ((rd_T53 x3 x9).f1) false x545000 x545001 x545002 x545003 x545004 x545005 x545006)) else (numerarylaw14_ItemMinutes.j3 k x3 x9 ((rd_T53 x3 x9).f1) false x545000 x545001 x545002 x545003 x545004 x545005 x545006)) else (none)) else (some true)
def numerarylaw14_ItemMinutes.j3 : Nat → List (S53) → Int → ByteArray → Bool → Int → Int → Int → Bool → ByteArray → ByteArray → List (S55) → Option (Bool)
  | 0, _, _, _, _, _, _, _, _, _, _, _ => none
  | k + 1, x3, x9, x11, x105, x545000, x545001, x545002, x545003, x545004, x545005, x545006 => if x105 = true then (if 0 ≤ x9 then (if x9 < (x545006.length : Int) then (if ((rd_T55 x545006 x9).f1).toList = ([110] : List UInt8) then (numerarylaw14_ItemMinutes.l1 k x3 (wrap64 (x9 + 2)) x545000 x545001 x545002 x545003 x545004 x545005 x545006) else (some false)) else (none)) else (none)) else (if 0 ≤ x9 then (if x9 < (x545006.length : Int) then (if ((rd_T55 x545006 x9).f1).toList = x11.toList then (numerarylaw14_ItemMinutes.l1 k x3 (wrap64 (x9 + 2)) x545000 x545001 x545002 x545003 x545004 x545005 x545006) else (some false)) else (none)) else (none))
end
def numerarylaw14_ItemMinutes.f (k : Nat) (l0 : List Int) : Option (Bool) := if 0 ≤ (mn (l0.length : Int) 12) then (if (mn (l0.length : Int) 12) ≤ (l0.length : Int) then (numerarylaw14_ItemMinutes.l0 k ([] : List (S53)) (l0.take ((mn (l0.length : Int) 12) : Int).toNat) ((l0.take ((mn (l0.length : Int) 12) : Int).toNat).length : Int) 0) else (none)) else (none)
set_option maxHeartbeats 8000000 in
set_option maxRecDepth 100000 in
theorem numerarylaw14_ItemMinutes.calls (k : Nat) (A0 : Option Addr) (c0 : Nat) (l0 : List Int) (r : Bool) (w : World) (hr0 : Kd.C (Kd.int .u8) w A0 l0.length l0) (hc0 : l0.length ≤ c0) (h : numerarylaw14_ItemMinutes.f k l0 = some r) (HLW_ : LW w) :
   Calls Tryz.prog 4 #[.slice A0 l0.length c0] w fun e w' => e = .returned (.bool r) ∧ Below w.heap.size w w' := by
  have HLW := Aside0.mk HLW_
  clear HLW_
  have hu53 := Tryz.underlying53
  have hu33 := Tryz.underlying33
  have hu5 := Tryz.underlying5
  have hu9 := Tryz.underlying9
  have HR0 := Aside0.mk hr0
  have HC0 := Aside0.mk hc0
  clear hr0 hc0
  have HB := Aside0.mk (Below.refl w.heap.size w)
  have H : (if 0 ≤ (mn (l0.length : Int) 12) then (if (mn (l0.length : Int) 12) ≤ (l0.length : Int) then (numerarylaw14_ItemMinutes.l0 k ([] : List (S53)) (l0.take ((mn (l0.length : Int) 12) : Int).toNat) ((l0.take ((mn (l0.length : Int) 12) : Int).toNat).length : Int) 0) else (none)) else (none)) = some r := h
  clear h
  obtain ⟨ji2, hji2⟩ : ∃ j_ : Int, (mn (l0.length : Int) 12) = j_ := ⟨_, rfl⟩
  replace H : (if 0 ≤ (ji2) then (if (ji2) ≤ (l0.length : Int) then (numerarylaw14_ItemMinutes.l0 k ([] : List (S53)) (l0.take ((ji2) : Int).toNat) ((l0.take ((ji2) : Int).toNat).length : Int) 0) else (none)) else (none)) = some r := by first | (rw [hji2] at H; exact H) | (simp only [hji2] at H ⊢; exact H)
  (try (have hji2h : ji2 ≤ 12 := by (rw [← hji2]; unfold mn; (repeat' split) <;> omega)))
  (try (have hji2g : ji2 ≤ 64 := by omega))
  (try (have hji2l : 0 ≤ ji2 := by (rw [← hji2]; unfold mn; (repeat' split) <;> omega)))
  (try (have hji2m : 0 ≤ ji2 := by omega))
  have hji2_ : (if 12 < (l0.length : Int) then 12 else (l0.length : Int)) = ji2 := hji2
  by_cases c3 : 0 ≤ (ji2)
  ·
   rw [if_pos c3] at H
   have c3b0 := eq_true c3
   have c3b1 : decide (0 ≤ (ji2)) = true := decide_eq_true c3
   clear c3
   by_cases c4 : (ji2) ≤ (l0.length : Int)
   ·
    rw [if_pos c4] at H
    have c4b0 := eq_true c4
    (try (have LTji2 := Aside0.mk (takeLen_ l0 ji2 c4)))
    have c4b1 : decide ((ji2) ≤ (l0.length : Int)) = true := decide_eq_true c4
    clear c4
    have H' := Aside0.mk H
    clear H
    obtain ⟨i05, hi05, _, hsz5, _⟩ := info_parts info5
    obtain ⟨hcut5, hA5, hC5⟩ := print_take_of (P := Tryz.prog) (Value.int .u8) 0 50 5 .i64 Tryz.underlying50 hi05 hsz5 A0 c0 l0 (ji2) (of_decide_eq_true (by first | (with_reducible assumption) | assumption)) (of_decide_eq_true (by first | (with_reducible assumption) | assumption)) HC0.out
    have HR525 := Aside0.mk (Kd.C_of_reads (h1 := fun _ => rfl) (hA5 _ (Kd.reads_of_C HR0.out)))
    have HC525 := Aside0.mk hC5
    clear hA5 hC5 hi05 hsz5
    go_enter Tryz.func4, Tryz.ntmps4
    go_wp2
    go_loopg [3, 18] k (fun kq v3 v18 w' => ∃ (x3_1 : List (S53)) (x18_1 : Int), v18 = .int .i64 x18_1 ∧ Aside0 (numerarylaw14_ItemMinutes.l0 kq x3_1 (l0.take ((ji2) : Int).toNat) ((l0.take ((ji2) : Int).toNat).length : Int) x18_1 = some r) ∧ Aside0 (kq ≤ k) ∧ Aside0 (Kd.R k53 53 w' w.heap.size (fun _ => True) v3 x3_1) ∧ Aside0 (Below w.heap.size w w'))
    case atStart => exact ⟨(([] : List (S53))), (0), (by first | rfl | (simp; done) | (simp [*]; done) | (simp only [isEmpty_ne, Bool.not_not]) | (simp only [isEmpty_ne])), H', ⟨Nat.le_refl _⟩, ⟨by first | exact Kd.R_nil _ _ _ _ _ | exact Kd.N_nil _ _ _ _ _ | exact Kd.V_nil _ _ _ _ _ | exact Kd.Q_nil _ _ _ _ _ | exact Kd.S_nil _ _ _ _ _⟩, ⟨bl_⟩⟩
    case round =>
     clear H'
     try clear p2
     try clear c3
     try clear c3b0
     try clear c3b1
     try clear c4
     try clear c4b0
     try clear c4b1
     obtain ⟨x3_1, x18_1, rfl, HA, HK1, HO_3, HB⟩ := hrel
     cases gk with
     | zero => exact absurd HA.out (by simp [numerarylaw14_ItemMinutes.l0])
     | succ k1 =>
      have H := HA.out
      clear HA
      simp only [numerarylaw14_ItemMinutes.l0] at H
      by_cases c6 : x18_1 < ((l0.take ((ji2) : Int).toNat).length : Int)
      ·
       rw [if_pos c6] at H
       have c6b0 : decide (x18_1 < ((l0.take ((ji2) : Int).toNat).length : Int)) = true := decide_eq_true c6
       (try (have c6m0 : decide (x18_1 < max ji2 0) = true := by (have e_ := c6b0; rw [LTji2.out] at e_; exact e_)))
       clear c6
       by_cases c7 : 0 ≤ x18_1
       ·
        rw [if_pos c7] at H
        have c7b0 : decide (0 ≤ x18_1) = true := decide_eq_true c7
        clear c7
        by_cases c8 : x18_1 < ((l0.take ((ji2) : Int).toNat).length : Int)
        ·
         rw [if_pos c8] at H
         have c8b0 : decide (x18_1 < ((l0.take ((ji2) : Int).toNat).length : Int)) = true := decide_eq_true c8
         (try (have c8m0 : decide (x18_1 < max ji2 0) = true := by (have e_ := c8b0; rw [LTji2.out] at e_; exact e_)))
         clear c8
         obtain ⟨ji9, hji9⟩ : ∃ j_ : Int, (Int.tmod (rd (l0.take ((ji2) : Int).toNat) x18_1) 5) = j_ := ⟨_, rfl⟩
         replace H : (if 0 ≤ (ji9) then (if (ji9) < 5 then ((some (([(⟨14, Utf8.encode (bt (⟨#[121, 109, 100, 104, 115]⟩ : ByteArray) (ji9)), 1 + (((Int.tdiv (rd (l0.take ((ji2) : Int).toNat) x18_1) 5) % 256) % 4), 0⟩ : S53), (⟨17, (⟨#[45]⟩ : ByteArray), 1, 0⟩ : S53)] : List (S53)) : List (S53))).bind fun y527 => (if x3_1.length + y527.length < 3518437208883 then (numerarylaw14_ItemMinutes.l0 k1 (x3_1 ++ y527) (l0.take ((ji2) : Int).toNat) ((l0.take ((ji2) : Int).toNat).length : Int) (wrap64 (x18_1 + 1))) else (none))) else (none)) else (none)) = some r := by first | (rw [hji9] at H; exact H) | (simp only [hji9] at H ⊢; exact H)
         by_cases c10 : 0 ≤ (ji9)
         ·
          rw [if_pos c10] at H
          have c10b0 : decide (0 ≤ (ji9)) = true := decide_eq_true c10
          clear c10
          by_cases c11 : (ji9) < 5
          ·
           rw [if_pos c11] at H
           have c11b0 : decide ((ji9) < 5) = true := decide_eq_true c11
           clear c11
           obtain ⟨y527, hy527⟩ : ∃ y_ : List (S53), y_ = (([(⟨14, Utf8.encode (bt (⟨#[121, 109, 100, 104, 115]⟩ : ByteArray) (ji9)), 1 + (((Int.tdiv (rd (l0.take ((ji2) : Int).toNat) x18_1) 5) % 256) % 4), 0⟩ : S53), (⟨17, (⟨#[45]⟩ : ByteArray), 1, 0⟩ : S53)] : List (S53))) := ⟨_, rfl⟩
           replace H : (if x3_1.length + y527.length < 3518437208883 then (numerarylaw14_ItemMinutes.l0 k1 (x3_1 ++ y527) (l0.take ((ji2) : Int).toNat) ((l0.take ((ji2) : Int).toNat).length : Int) (wrap64 (x18_1 + 1))) else (none)) = some r := by first | (rw [hy527]; with_reducible exact H) | (have H2_ := (Option.bind_some _ _).symm.trans H; rw [hy527]; with_reducible exact H2_) | (have H2_ := (Option.bind_some _ _).symm.trans H; with_reducible exact H2_) | with_reducible exact H | (rw [hy527]; exact H) | exact H
           have Ny527 := Aside0.mk hy527
           clear hy527
           by_cases c13 : x3_1.length + y527.length < 3518437208883
           ·
            rw [if_pos c13] at H
            have LMc13 := Aside0.mk c13
            clear c13
            obtain ⟨y530, hy530⟩ : ∃ y_ : List (S53), y_ = (x3_1 ++ y527) := ⟨_, rfl⟩
            replace H : (numerarylaw14_ItemMinutes.l0 k1 y530 (l0.take ((ji2) : Int).toNat) ((l0.take ((ji2) : Int).toNat).length : Int) (wrap64 (x18_1 + 1))) = some r := by first | (rw [hy530]; with_reducible exact H) | (have H2_ := (Option.bind_some _ _).symm.trans H; rw [hy530]; with_reducible exact H2_) | (have H2_ := (Option.bind_some _ _).symm.trans H; with_reducible exact H2_) | with_reducible exact H | (rw [hy530]; exact H) | exact H
            have Ny530 := Aside0.mk hy530
            clear hy530
            have H' := Aside0.mk H
            clear H
            have p526 : 0 ≤ (x18_1 : Int) := of_decide_eq_true (by first | (with_reducible assumption) | assumption)
            have q526 : x18_1 < ((l0.take ((ji2) : Int).toNat).length : Int) := of_decide_eq_true (by first | (with_reducible assumption) | assumption)
            (try (have q526m : (x18_1 < max ji2 0) = True := eq_true (by (have e_ := q526; rw [LTji2.out] at e_; exact e_))))
            obtain ⟨ad526, e526, hx526_0⟩ := Kd.at_int HR525.out x18_1 p526 q526
            cases e526
            replace hx526_0 := (HB.out.cell (World.block_lt_of_cell? w _ hx526_0)).trans hx526_0
            replace p526 := eq_true p526
            replace q526 := eq_true q526
            have p12 : 0 ≤ ((ji9) : Int) := of_decide_eq_true (by first | (with_reducible assumption) | assumption)
            have q12 : (ji9) < (5 : Int) := of_decide_eq_true (by first | (with_reducible assumption) | assumption)
            have hx12 := bt_at (⟨#[121, 109, 100, 104, 115]⟩ : ByteArray) (ji9)
            replace p12 := eq_true p12
            replace q12 := eq_true q12
            go_wp2_with (first | ((with_reducible refine gate_dst (N := 34) rfl ?_); (try (refine gate_guard (by rfl) ?_; dsimp only)); refine Kd.R_lit k53 _ 53 ?hg (N := 34) ?hd (xs := ([(⟨14, Utf8.encode (bt (⟨#[121, 109, 100, 104, 115]⟩ : ByteArray) (ji9)), 1 + (((Int.tdiv (rd (l0.take ((ji2) : Int).toNat) x18_1) 5) % 256) % 4), 0⟩ : S53), (⟨17, (⟨#[45]⟩ : ByteArray), 1, 0⟩ : S53)] : List (S53))) (inner := [.int .i64 14, .string (Utf8.encode (bt (⟨#[121, 109, 100, 104, 115]⟩ : ByteArray) (ji9))), .int .i64 (1 + (((Int.tdiv (rd (l0.take ((ji2) : Int).toNat) x18_1) 5) % 256) % 4)), .int .i64 0, .int .i64 17, .string (⟨#[45]⟩ : ByteArray), .int .i64 1, .int .i64 0]) (ok := fun _ => True) (okp := fun _ => True) ?hr ?hp (fun _ hk => hk) trivial (Below.refl _ _) (Nat.le_refl _) (by simp) ?_; (case hd => rfl); (case hg => rfl); (case hr => first | (go_simp; done) | (go_simp; rfl)); (case hp => exact (Reps.c4 (show Kd.M k53 _ _ _ (⟨14, Utf8.encode (bt (⟨#[121, 109, 100, 104, 115]⟩ : ByteArray) (ji9)), 1 + (((Int.tdiv (rd (l0.take ((ji2) : Int).toNat) x18_1) 5) % 256) % 4), 0⟩ : S53) [.int .i64 14, .string (Utf8.encode (bt (⟨#[121, 109, 100, 104, 115]⟩ : ByteArray) (ji9))), .int .i64 (1 + (((Int.tdiv (rd (l0.take ((ji2) : Int).toNat) x18_1) 5) % 256) % 4)), .int .i64 0] from (k53_mkM _ _ _ (⟨14, Utf8.encode (bt (⟨#[121, 109, 100, 104, 115]⟩ : ByteArray) (ji9)), 1 + (((Int.tdiv (rd (l0.take ((ji2) : Int).toNat) x18_1) 5) % 256) % 4), 0⟩ : S53) )) (Reps.c4 (show Kd.M k53 _ _ _ (⟨17, (⟨#[45]⟩ : ByteArray), 1, 0⟩ : S53) [.int .i64 17, .string (⟨#[45]⟩ : ByteArray), .int .i64 1, .int .i64 0] from (k53_mkM _ _ _ (⟨17, (⟨#[45]⟩ : ByteArray), 1, 0⟩ : S53) )) (Reps.none _ _)))); intro v528 w14 ho15 hb hg_ hnew_; clear hg_ hnew_; (first | rw [← Ny527.out] at ho15 | (simp only [Int.reduceToNat] at ho15; rw [← Ny527.out] at ho15)); have n0_ := Aside0.mk (Kd.R_elder' (by (with_reducible repeat (first | apply Kd.R_alloc | apply Kd.R_drewN | apply Kd.R_drew)); exact HO_3.out) (Kd.R_base ho15) hb); have n1_ := Aside0.mk (Kd.R_lower (Kd.R_new' ho15 (Kd.R_lt (by (with_reducible repeat (first | apply Kd.R_alloc | apply Kd.R_drewN | apply Kd.R_drew)); exact HO_3.out))) (below_size bl_)); have n2_ := Aside0.mk (below_step bl_ hb); clear HO_3; clear HB; have HO_3 := n0_; have HO529 := n1_; have HB := n2_; clear n0_ n1_ n2_; clear hb ho15; obtain ⟨Ao17, co17, eo17⟩ := Kd.R_slice HO529.out; subst eo17) | ((with_reducible refine gate_builtin (b := .append) (xs := #[.tmp 22, .tmp 34]) rfl ?_); (try (refine gate_guard (by rfl) ?_; dsimp only)); at_builtin; refine Kd.R_append_rows k53 (w0 := w) w.heap.size rfl (.tmp 22) (.tmp 34) 22 53 (.agg #[(.int .i64 0), (.string ⟨#[]⟩), (.int .i64 0), (.int .i64 0)]) 40 rfl Tryz.underlying22 info53 rfl (by decide) (by omega) u3 x3_1 y527 _ _ _ (fun k_ => some k_ ≠ (.slice Ao17 y527.length co17 : Value).ownBlock) (fun _ => False) rfl rfl ?aO ?aR (fun _ _ h => h) (fun _ h => h.elim) ?aF ?aB ?aS ?aL ?_; (case aR => repeat (first | exact (Kd.R_reads' HO529.out).2.2 | (with_reducible refine Kd.C_alloc ?_ _) | (with_reducible refine Kd.C_drewN ?_ _) | (with_reducible refine Kd.C_drew ?_))); (case aB => exact bl_); (case aF => exact (fun k_ hk => Kd.fresh' (Kd.R_lt (by (with_reducible repeat (first | apply Kd.R_alloc | apply Kd.R_drewN | apply Kd.R_drew)); exact HO529.out)) k_ hk)); (case aO => exact (by (with_reducible repeat (first | apply Kd.R_alloc | apply Kd.R_drewN | apply Kd.R_drew)); exact Kd.R_mono HO_3.out (fun _ hk => hk.2))); (case aS => exact (below_size bl_)); (case aL => have := LMc13.out; omega); intro v531 w16 ho hb hg hat; rw [← Ny530.out] at ho; have n0_ := Aside0.mk (Kd.R_after (ok := (fun _ => True)) (by (with_reducible repeat (first | apply Kd.R_alloc | apply Kd.R_drewN | apply Kd.R_drew)); exact HO529.out) hg hat); have n1_ := Aside0.mk (hb); have n2_ := Aside0.mk (ho); clear HO529; clear HB; clear HO_3; have HO529 := n0_; have HB := n1_; have HO532 := n2_; clear n0_ n1_ n2_; clear ho hb hg hat))
            go_roundg k1
            case measure => have := HK1.out; omega
            case rel => exact ⟨(y530), (wrap64 (x18_1 + 1)), (by first | rfl | (simp; done) | (simp [*]; done) | (simp only [isEmpty_ne, Bool.not_not]) | (simp only [isEmpty_ne])), H', ⟨by have := HK1.out; omega⟩, ⟨by (with_reducible repeat (first | apply Kd.R_alloc | apply Kd.R_drewN | apply Kd.R_drew)); exact Kd.R_mono HO532.out (fun _ hk => trivial)⟩, ⟨bl_⟩⟩
           ·
            rw [if_neg c13] at H
            exact absurd H (by simp)
          ·
           rw [if_neg c11] at H
           exact absurd H (by simp)
         ·
          rw [if_neg c10] at H
          exact absurd H (by simp)
        ·
         rw [if_neg c8] at H
         exact absurd H (by simp)
       ·
        rw [if_neg c7] at H
        exact absurd H (by simp)
      ·
       rw [if_neg c6] at H
       have c6b0 : decide (x18_1 < ((l0.take ((ji2) : Int).toNat).length : Int)) = false := decide_eq_false c6
       (try (have c6m0 : decide (x18_1 < max ji2 0) = false := by (have e_ := c6b0; rw [LTji2.out] at e_; exact e_)))
       clear c6
       replace H := Option.bind_eq_some_iff.mp H
       obtain ⟨⟨t533, t534, t535, t536, t537, t538, t539, t542, t543⟩, A180, H⟩ := H
       replace H : ((numerarylaw14_wakes.f k1).bind fun t545 => (if t545 = true then (if t543 = 0 then (numerarylaw14_ItemMinutes.j1 k1 x3_1 ((t539.length : Int) != (x3_1.length : Int)) t533 t534 t535 t536 t537 t538 t539) else (numerarylaw14_ItemMinutes.j1 k1 x3_1 true t533 t534 t535 t536 t537 t538 t539)) else (numerarylaw14_ItemMinutes.j1 k1 x3_1 true t533 t534 t535 t536 t537 t538 t539))) = some r := H
       have A18 := Aside0.mk A180
       clear A180
       have HC19 := Aside0.mk H
       clear H
       obtain ⟨Ao20, co20, eo20⟩ := Kd.R_slice HO_3.out
       subst eo20
       go_upto_region 8 with (first | ((with_reducible refine gate_callee (f := 12) rfl ?_); refine goesL_ (some 39) rfl rfl Tryz.func12 (by kernel_rfl) rfl #[.slice Ao20 x3_1.length co20] rfl (by (try simp only [List.map_toArray, List.map_cons, List.map_nil]); first | done | rfl | (simp only [List.length_drop, List.length_take]; rfl)) ?_; (with_reducible refine (item_Of.calls k1 _ _ x3_1 t533 t534 t535 t536 t537 t538 t539 t542 t543 _ ?side1 ?side2 A18.out ?side3).mono ?_); (case side1 => repeat (first | exact (Kd.R_reads' HO_3.out).2.2 | (with_reducible refine Kd.C_alloc ?_ _) | (with_reducible refine Kd.C_drewN ?_ _) | (with_reducible refine Kd.C_drew ?_))); (case side2 => exact (Kd.R_reads' HO_3.out).2.1); (case side3 => exact LW.below HLW.out bl_); rintro e w21 ⟨v540, rfl, ho0, hb⟩; refine ⟨_, rfl, ?_⟩; have n0_ := Aside0.mk (Kd.R_below (by (with_reducible repeat (first | apply Kd.R_alloc | apply Kd.R_drewN | apply Kd.R_drew)); exact HO_3.out) hb); have n1_ := Aside0.mk (Kd.R_lower ho0 (below_size bl_)); have n2_ := Aside0.mk (below_step bl_ hb); clear HO_3; clear HB; have HO_3 := n0_; have HO541 := n1_; have HB := n2_; clear n0_ n1_ n2_; (try clear hb); (try clear hb2); (try clear hk); (try clear hi); (try clear ho0)) | ((with_reducible refine gate_dst (N := 6) rfl ?_); (try (refine gate_guard (by rfl) ?_; dsimp only)); refine box_event ?hg (N := 6) ?hd (cs := #[.int .i64 0, .int .i64 0, .int .i64 0, .bool false, .string (⟨#[]⟩ : ByteArray), .string (⟨#[]⟩ : ByteArray), .slice none 0 0]) (t := 33) ?hr ?_; (case hd => rfl); (case hg => rfl); (case hr => first | (go_simp; done) | (go_simp; rfl)); intro gb544 hg w22 hbox hb; have n0_ := Aside0.mk (Kd.R_below (by (with_reducible repeat (first | apply Kd.R_alloc | apply Kd.R_drewN | apply Kd.R_drew)); exact HO_3.out) hb); have n1_ := Aside0.mk (Kd.R_below (by (with_reducible repeat (first | apply Kd.R_alloc | apply Kd.R_drewN | apply Kd.R_drew)); exact HO541.out) hb); have n2_ := Aside0.mk (below_step bl_ hb); have n3_ := Aside0.mk (hbox); have n4_ := Aside0.mk ((by rw [hg]; exact (below_size bl_) : w.heap.size ≤ gb544)); have n5_ := Aside0.mk ((by rw [hg]; exact (below_size bl_) : w.heap.size ≤ gb544)); clear HO_3; clear HO541; clear HB; have HO_3 := n0_; have HO541 := n1_; have HB := n2_; have BK544 := n3_; have GW544 := n4_; have GE544 := n5_; clear n0_ n1_ n2_ n3_ n4_ n5_; clear hb hbox hg; have hcz23_0 : w22.cell? ⟨gb544, 0, none⟩ = some (.int .i64 0) := (blk_cell BK544.out 0).trans rfl; have hcz23_1 : w22.cell? ⟨gb544, 1, none⟩ = some (.int .i64 0) := (blk_cell BK544.out 1).trans rfl; have hcz23_2 : w22.cell? ⟨gb544, 2, none⟩ = some (.int .i64 0) := (blk_cell BK544.out 2).trans rfl; have hcz23_3 : w22.cell? ⟨gb544, 3, none⟩ = some (.bool false) := (blk_cell BK544.out 3).trans rfl; have hcz23_4 : w22.cell? ⟨gb544, 4, none⟩ = some (.string (⟨#[]⟩ : ByteArray)) := (blk_cell BK544.out 4).trans rfl; have hcz23_5 : w22.cell? ⟨gb544, 5, none⟩ = some (.string (⟨#[]⟩ : ByteArray)) := (blk_cell BK544.out 5).trans rfl; have hcz23_6 : w22.cell? ⟨gb544, 6, none⟩ = some (.slice none 0 0) := (blk_cell BK544.out 6).trans rfl; have hfz23_0 := blk_frozen BK544.out 0; have hfz23_1 := blk_frozen BK544.out 1; have hfz23_2 := blk_frozen BK544.out 2; have hfz23_3 := blk_frozen BK544.out 3; have hfz23_4 := blk_frozen BK544.out 4; have hfz23_5 := blk_frozen BK544.out 5; have hfz23_6 := blk_frozen BK544.out 6; obtain ⟨Ao24, co24, eo24⟩ := Kd.R_slice HO541.out; subst eo24))
       (try simp only [Act.put, List.setIfInBounds_toArray, List.set_cons_zero, List.set_cons_succ])
       go_cut [56] (fun v56 wc => ∃ (kq : Nat) (x56_18 : Bool), v56 = .bool x56_18 ∧ Aside0 (numerarylaw14_ItemMinutes.j1 kq x3_1 x56_18 t533 t534 t535 t536 t537 t538 t539 = some r) ∧ Aside0 (kq ≤ k1) ∧ Aside0 (Kd.R k53 53 wc w.heap.size (fun _ => True) (.slice Ao20 x3_1.length co20) x3_1) ∧ Aside0 (Kd.R k55 55 wc w.heap.size (fun _ => True) (.slice Ao24 t539.length co24) t539) ∧ Aside0 (wc.heap[gb544]? = some (.cells #[.int .i64 t533, .int .i64 t534, .int .i64 t535, .bool t536, .string t537, .string t538, (.slice Ao24 t539.length co24)] 33 (0, 0))) ∧ Aside0 (Below w.heap.size w wc))
       case first =>
        have H := HC19.out
        clear HC19
        replace H := Option.bind_eq_some_iff.mp H
        obtain ⟨t545, A250, H⟩ := H
        replace H : (if t545 = true then (if t543 = 0 then (numerarylaw14_ItemMinutes.j1 k1 x3_1 ((t539.length : Int) != (x3_1.length : Int)) t533 t534 t535 t536 t537 t538 t539) else (numerarylaw14_ItemMinutes.j1 k1 x3_1 true t533 t534 t535 t536 t537 t538 t539)) else (numerarylaw14_ItemMinutes.j1 k1 x3_1 true t533 t534 t535 t536 t537 t538 t539)) = some r := H
        have A25 := Aside0.mk A250
        clear A250
        by_cases c26 : t545 = true
        ·
         subst c26
         have H1 : (if t543 = 0 then (numerarylaw14_ItemMinutes.j1 k1 x3_1 ((t539.length : Int) != (x3_1.length : Int)) t533 t534 t535 t536 t537 t538 t539) else (numerarylaw14_ItemMinutes.j1 k1 x3_1 true t533 t534 t535 t536 t537 t538 t539)) = some r := by rw [if_pos rfl] at H; exact H
         clear H
         have H := H1
         clear H1
         by_cases c27 : t543 = 0
         ·
          rw [if_pos c27] at H
          have c27b0 : (t543 == 0) = true := beq_iff_eq.mpr c27
          have c27b1 : (t543 != 0) = false := bne_eq_false_iff_eq.mpr c27
          clear c27
          (first | rw [c27b0] | (simp only [i64_w, i32_w]; rw [c27b0]) | skip)
          have H' := Aside0.mk H
          clear H
          go_wp2_with (first | ((with_reducible refine gate_callee (f := 11) rfl ?_); refine goesL_ (some 43) rfl rfl Tryz.func11 (by kernel_rfl) rfl #[] rfl (by (try simp only [List.map_toArray, List.map_cons, List.map_nil]); first | done | rfl | (simp only [List.length_drop, List.length_take]; rfl)) ?_; (with_reducible refine (numerarylaw14_wakes.calls k1  true _ A25.out ?side1).mono ?_); (case side1 => exact LW.below HLW.out (by repeat (first | (with_reducible first | exact HB.out | apply below_alloc | apply pw_below_drewN | apply below_drew1 | refine below_set ?_ GE544.out) | exact HB.out))); rintro e w28 ⟨rfl, hb⟩; refine ⟨_, rfl, ?_⟩; have n0_ := Aside0.mk (Kd.R_below (by (with_reducible repeat (first | apply Kd.R_alloc | apply Kd.R_drewN | apply Kd.R_drew)); exact (Kd.R_mono (Kd.R_far (p := ⟨gb544, 6, none⟩) (Kd.R_far (p := ⟨gb544, 5, none⟩) (Kd.R_far (p := ⟨gb544, 4, none⟩) (Kd.R_far (p := ⟨gb544, 3, none⟩) (Kd.R_far (p := ⟨gb544, 2, none⟩) (Kd.R_far (p := ⟨gb544, 1, none⟩) (Kd.R_far (p := ⟨gb544, 0, none⟩) (Kd.R_types HO_3.out BK544.out (by decide)) (fun _ hk => hk.2) (.int .i64 t533)) (fun _ hk => hk.2) (.int .i64 t534)) (fun _ hk => hk.2) (.int .i64 t535)) (fun _ hk => hk.2) (.bool t536)) (fun _ hk => hk.2) (.string t537)) (fun _ hk => hk.2) (.string t538)) (fun _ hk => hk.2) (.slice Ao24 t539.length co24)) (fun _ h_ => h_.1))) hb); have n1_ := Aside0.mk (Kd.R_below (by (with_reducible repeat (first | apply Kd.R_alloc | apply Kd.R_drewN | apply Kd.R_drew)); exact (Kd.R_mono (Kd.R_far (p := ⟨gb544, 6, none⟩) (Kd.R_far (p := ⟨gb544, 5, none⟩) (Kd.R_far (p := ⟨gb544, 4, none⟩) (Kd.R_far (p := ⟨gb544, 3, none⟩) (Kd.R_far (p := ⟨gb544, 2, none⟩) (Kd.R_far (p := ⟨gb544, 1, none⟩) (Kd.R_far (p := ⟨gb544, 0, none⟩) (Kd.R_types HO541.out BK544.out (by decide)) (fun _ hk => hk.2) (.int .i64 t533)) (fun _ hk => hk.2) (.int .i64 t534)) (fun _ hk => hk.2) (.int .i64 t535)) (fun _ hk => hk.2) (.bool t536)) (fun _ hk => hk.2) (.string t537)) (fun _ hk => hk.2) (.string t538)) (fun _ hk => hk.2) (.slice Ao24 t539.length co24)) (fun _ h_ => h_.1))) hb); have n2_ := Aside0.mk (blk_below (g := gb544) (o := .cells #[.int .i64 t533, .int .i64 t534, .int .i64 t535, .bool t536, .string t537, .string t538, .slice Ao24 t539.length co24] 33 (0, 0)) (by (with_reducible repeat (first | refine blk_drewN ?_ _ | refine blk_drew ?_ | refine blk_alloc ?_ _)); refine blk_put (cs := #[.int .i64 t533, .int .i64 t534, .int .i64 t535, .bool t536, .string t537, .string t538, .slice none 0 0]) ?_ 6 _ rfl; (with_reducible repeat (first | refine blk_drewN ?_ _ | refine blk_drew ?_ | refine blk_alloc ?_ _)); refine blk_put (cs := #[.int .i64 t533, .int .i64 t534, .int .i64 t535, .bool t536, .string t537, .string (⟨#[]⟩ : ByteArray), .slice none 0 0]) ?_ 5 _ rfl; (with_reducible repeat (first | refine blk_drewN ?_ _ | refine blk_drew ?_ | refine blk_alloc ?_ _)); refine blk_put (cs := #[.int .i64 t533, .int .i64 t534, .int .i64 t535, .bool t536, .string (⟨#[]⟩ : ByteArray), .string (⟨#[]⟩ : ByteArray), .slice none 0 0]) ?_ 4 _ rfl; (with_reducible repeat (first | refine blk_drewN ?_ _ | refine blk_drew ?_ | refine blk_alloc ?_ _)); refine blk_put (cs := #[.int .i64 t533, .int .i64 t534, .int .i64 t535, .bool false, .string (⟨#[]⟩ : ByteArray), .string (⟨#[]⟩ : ByteArray), .slice none 0 0]) ?_ 3 _ rfl; (with_reducible repeat (first | refine blk_drewN ?_ _ | refine blk_drew ?_ | refine blk_alloc ?_ _)); refine blk_put (cs := #[.int .i64 t533, .int .i64 t534, .int .i64 0, .bool false, .string (⟨#[]⟩ : ByteArray), .string (⟨#[]⟩ : ByteArray), .slice none 0 0]) ?_ 2 _ rfl; (with_reducible repeat (first | refine blk_drewN ?_ _ | refine blk_drew ?_ | refine blk_alloc ?_ _)); refine blk_put (cs := #[.int .i64 t533, .int .i64 0, .int .i64 0, .bool false, .string (⟨#[]⟩ : ByteArray), .string (⟨#[]⟩ : ByteArray), .slice none 0 0]) ?_ 1 _ rfl; (with_reducible repeat (first | refine blk_drewN ?_ _ | refine blk_drew ?_ | refine blk_alloc ?_ _)); refine blk_put (cs := #[.int .i64 0, .int .i64 0, .int .i64 0, .bool false, .string (⟨#[]⟩ : ByteArray), .string (⟨#[]⟩ : ByteArray), .slice none 0 0]) ?_ 0 _ rfl; (with_reducible repeat (first | refine blk_drewN ?_ _ | refine blk_drew ?_ | refine blk_alloc ?_ _)); exact BK544.out) hb); have n3_ := Aside0.mk (below_step (by repeat (first | (with_reducible first | exact HB.out | apply below_alloc | apply pw_below_drewN | apply below_drew1 | refine below_set ?_ GE544.out) | exact HB.out)) hb); clear HO_3; clear HO541; clear BK544; clear HB; have HO_3 := n0_; have HO541 := n1_; have BK544 := n2_; have HB := n3_; clear n0_ n1_ n2_ n3_; (try clear hb); (try clear hb2); (try clear hk); (try clear hi); have hcz29_0 : w28.cell? ⟨gb544, 0, none⟩ = some (.int .i64 t533) := (blk_cell BK544.out 0).trans rfl; have hcz29_1 : w28.cell? ⟨gb544, 1, none⟩ = some (.int .i64 t534) := (blk_cell BK544.out 1).trans rfl; have hcz29_2 : w28.cell? ⟨gb544, 2, none⟩ = some (.int .i64 t535) := (blk_cell BK544.out 2).trans rfl; have hcz29_3 : w28.cell? ⟨gb544, 3, none⟩ = some (.bool t536) := (blk_cell BK544.out 3).trans rfl; have hcz29_4 : w28.cell? ⟨gb544, 4, none⟩ = some (.string t537) := (blk_cell BK544.out 4).trans rfl; have hcz29_5 : w28.cell? ⟨gb544, 5, none⟩ = some (.string t538) := (blk_cell BK544.out 5).trans rfl; have hcz29_6 : w28.cell? ⟨gb544, 6, none⟩ = some (.slice Ao24 t539.length co24) := (blk_cell BK544.out 6).trans rfl; have hfz29_0 := blk_frozen BK544.out 0; have hfz29_1 := blk_frozen BK544.out 1; have hfz29_2 := blk_frozen BK544.out 2; have hfz29_3 := blk_frozen BK544.out 3; have hfz29_4 := blk_frozen BK544.out 4; have hfz29_5 := blk_frozen BK544.out 5; have hfz29_6 := blk_frozen BK544.out 6))
          go_meet
          case rel => exact ⟨_, (((t539.length : Int) != (x3_1.length : Int))), (by first | rfl | (simp; done) | (simp [*]; done) | (simp only [isEmpty_ne, Bool.not_not]) | (simp only [isEmpty_ne])), H', ⟨by have := HK1.out; first | omega | exact Nat.le_refl _⟩, ⟨by (with_reducible repeat (first | apply Kd.R_alloc | apply Kd.R_drewN | apply Kd.R_drew)); exact HO_3.out⟩, ⟨by (with_reducible repeat (first | apply Kd.R_alloc | apply Kd.R_drewN | apply Kd.R_drew)); exact HO541.out⟩, ⟨by (with_reducible repeat (first | refine blk_drewN ?_ _ | refine blk_drew ?_ | refine blk_alloc ?_ _)); exact BK544.out⟩, ⟨by repeat (first | (with_reducible first | exact HB.out | apply below_alloc | apply pw_below_drewN | apply below_drew1 | refine below_set ?_ GE544.out) | exact HB.out)⟩⟩
         ·
          rw [if_neg c27] at H
          have c27b0 : (t543 == 0) = false := beq_eq_false_iff_ne.mpr c27
          have c27b1 : (t543 != 0) = true := bne_iff_ne.mpr c27
          (first | rw [c27b0] | (simp only [i64_w, i32_w]; rw [c27b0]) | skip)
          have H' := Aside0.mk H
          clear H
          go_wp2_with (first | ((with_reducible refine gate_callee (f := 11) rfl ?_); refine goesL_ (some 43) rfl rfl Tryz.func11 (by kernel_rfl) rfl #[] rfl (by (try simp only [List.map_toArray, List.map_cons, List.map_nil]); first | done | rfl | (simp only [List.length_drop, List.length_take]; rfl)) ?_; (with_reducible refine (numerarylaw14_wakes.calls k1  true _ A25.out ?side1).mono ?_); (case side1 => exact LW.below HLW.out (by repeat (first | (with_reducible first | exact HB.out | apply below_alloc | apply pw_below_drewN | apply below_drew1 | refine below_set ?_ GE544.out) | exact HB.out))); rintro e w30 ⟨rfl, hb⟩; refine ⟨_, rfl, ?_⟩; have n0_ := Aside0.mk (Kd.R_below (by (with_reducible repeat (first | apply Kd.R_alloc | apply Kd.R_drewN | apply Kd.R_drew)); exact (Kd.R_mono (Kd.R_far (p := ⟨gb544, 6, none⟩) (Kd.R_far (p := ⟨gb544, 5, none⟩) (Kd.R_far (p := ⟨gb544, 4, none⟩) (Kd.R_far (p := ⟨gb544, 3, none⟩) (Kd.R_far (p := ⟨gb544, 2, none⟩) (Kd.R_far (p := ⟨gb544, 1, none⟩) (Kd.R_far (p := ⟨gb544, 0, none⟩) (Kd.R_types HO_3.out BK544.out (by decide)) (fun _ hk => hk.2) (.int .i64 t533)) (fun _ hk => hk.2) (.int .i64 t534)) (fun _ hk => hk.2) (.int .i64 t535)) (fun _ hk => hk.2) (.bool t536)) (fun _ hk => hk.2) (.string t537)) (fun _ hk => hk.2) (.string t538)) (fun _ hk => hk.2) (.slice Ao24 t539.length co24)) (fun _ h_ => h_.1))) hb); have n1_ := Aside0.mk (Kd.R_below (by (with_reducible repeat (first | apply Kd.R_alloc | apply Kd.R_drewN | apply Kd.R_drew)); exact (Kd.R_mono (Kd.R_far (p := ⟨gb544, 6, none⟩) (Kd.R_far (p := ⟨gb544, 5, none⟩) (Kd.R_far (p := ⟨gb544, 4, none⟩) (Kd.R_far (p := ⟨gb544, 3, none⟩) (Kd.R_far (p := ⟨gb544, 2, none⟩) (Kd.R_far (p := ⟨gb544, 1, none⟩) (Kd.R_far (p := ⟨gb544, 0, none⟩) (Kd.R_types HO541.out BK544.out (by decide)) (fun _ hk => hk.2) (.int .i64 t533)) (fun _ hk => hk.2) (.int .i64 t534)) (fun _ hk => hk.2) (.int .i64 t535)) (fun _ hk => hk.2) (.bool t536)) (fun _ hk => hk.2) (.string t537)) (fun _ hk => hk.2) (.string t538)) (fun _ hk => hk.2) (.slice Ao24 t539.length co24)) (fun _ h_ => h_.1))) hb); have n2_ := Aside0.mk (blk_below (g := gb544) (o := .cells #[.int .i64 t533, .int .i64 t534, .int .i64 t535, .bool t536, .string t537, .string t538, .slice Ao24 t539.length co24] 33 (0, 0)) (by (with_reducible repeat (first | refine blk_drewN ?_ _ | refine blk_drew ?_ | refine blk_alloc ?_ _)); refine blk_put (cs := #[.int .i64 t533, .int .i64 t534, .int .i64 t535, .bool t536, .string t537, .string t538, .slice none 0 0]) ?_ 6 _ rfl; (with_reducible repeat (first | refine blk_drewN ?_ _ | refine blk_drew ?_ | refine blk_alloc ?_ _)); refine blk_put (cs := #[.int .i64 t533, .int .i64 t534, .int .i64 t535, .bool t536, .string t537, .string (⟨#[]⟩ : ByteArray), .slice none 0 0]) ?_ 5 _ rfl; (with_reducible repeat (first | refine blk_drewN ?_ _ | refine blk_drew ?_ | refine blk_alloc ?_ _)); refine blk_put (cs := #[.int .i64 t533, .int .i64 t534, .int .i64 t535, .bool t536, .string (⟨#[]⟩ : ByteArray), .string (⟨#[]⟩ : ByteArray), .slice none 0 0]) ?_ 4 _ rfl; (with_reducible repeat (first | refine blk_drewN ?_ _ | refine blk_drew ?_ | refine blk_alloc ?_ _)); refine blk_put (cs := #[.int .i64 t533, .int .i64 t534, .int .i64 t535, .bool false, .string (⟨#[]⟩ : ByteArray), .string (⟨#[]⟩ : ByteArray), .slice none 0 0]) ?_ 3 _ rfl; (with_reducible repeat (first | refine blk_drewN ?_ _ | refine blk_drew ?_ | refine blk_alloc ?_ _)); refine blk_put (cs := #[.int .i64 t533, .int .i64 t534, .int .i64 0, .bool false, .string (⟨#[]⟩ : ByteArray), .string (⟨#[]⟩ : ByteArray), .slice none 0 0]) ?_ 2 _ rfl; (with_reducible repeat (first | refine blk_drewN ?_ _ | refine blk_drew ?_ | refine blk_alloc ?_ _)); refine blk_put (cs := #[.int .i64 t533, .int .i64 0, .int .i64 0, .bool false, .string (⟨#[]⟩ : ByteArray), .string (⟨#[]⟩ : ByteArray), .slice none 0 0]) ?_ 1 _ rfl; (with_reducible repeat (first | refine blk_drewN ?_ _ | refine blk_drew ?_ | refine blk_alloc ?_ _)); refine blk_put (cs := #[.int .i64 0, .int .i64 0, .int .i64 0, .bool false, .string (⟨#[]⟩ : ByteArray), .string (⟨#[]⟩ : ByteArray), .slice none 0 0]) ?_ 0 _ rfl; (with_reducible repeat (first | refine blk_drewN ?_ _ | refine blk_drew ?_ | refine blk_alloc ?_ _)); exact BK544.out) hb); have n3_ := Aside0.mk (below_step (by repeat (first | (with_reducible first | exact HB.out | apply below_alloc | apply pw_below_drewN | apply below_drew1 | refine below_set ?_ GE544.out) | exact HB.out)) hb); clear HO_3; clear HO541; clear BK544; clear HB; have HO_3 := n0_; have HO541 := n1_; have BK544 := n2_; have HB := n3_; clear n0_ n1_ n2_ n3_; (try clear hb); (try clear hb2); (try clear hk); (try clear hi)))
          go_meet
          case rel => exact ⟨_, (true), (by first | rfl | (simp; done) | (simp [*]; done) | (simp only [isEmpty_ne, Bool.not_not]) | (simp only [isEmpty_ne])), H', ⟨by have := HK1.out; first | omega | exact Nat.le_refl _⟩, ⟨by (with_reducible repeat (first | apply Kd.R_alloc | apply Kd.R_drewN | apply Kd.R_drew)); exact HO_3.out⟩, ⟨by (with_reducible repeat (first | apply Kd.R_alloc | apply Kd.R_drewN | apply Kd.R_drew)); exact HO541.out⟩, ⟨by (with_reducible repeat (first | refine blk_drewN ?_ _ | refine blk_drew ?_ | refine blk_alloc ?_ _)); exact BK544.out⟩, ⟨by repeat (first | (with_reducible first | exact HB.out | apply below_alloc | apply pw_below_drewN | apply below_drew1 | refine below_set ?_ GE544.out) | exact HB.out)⟩⟩
        ·
         replace c26 := Bool.eq_false_iff.mpr c26
         subst c26
         have H1 : (numerarylaw14_ItemMinutes.j1 k1 x3_1 true t533 t534 t535 t536 t537 t538 t539) = some r := by rw [if_neg (show ¬ (false = true) by decide)] at H; exact H
         clear H
         have H := H1
         clear H1
         have H' := Aside0.mk H
         clear H
         go_wp2_with (first | ((with_reducible refine gate_callee (f := 11) rfl ?_); refine goesL_ (some 43) rfl rfl Tryz.func11 (by kernel_rfl) rfl #[] rfl (by (try simp only [List.map_toArray, List.map_cons, List.map_nil]); first | done | rfl | (simp only [List.length_drop, List.length_take]; rfl)) ?_; (with_reducible refine (numerarylaw14_wakes.calls k1  false _ A25.out ?side1).mono ?_); (case side1 => exact LW.below HLW.out (by repeat (first | (with_reducible first | exact HB.out | apply below_alloc | apply pw_below_drewN | apply below_drew1 | refine below_set ?_ GE544.out) | exact HB.out))); rintro e w31 ⟨rfl, hb⟩; refine ⟨_, rfl, ?_⟩; have n0_ := Aside0.mk (Kd.R_below (by (with_reducible repeat (first | apply Kd.R_alloc | apply Kd.R_drewN | apply Kd.R_drew)); exact (Kd.R_mono (Kd.R_far (p := ⟨gb544, 6, none⟩) (Kd.R_far (p := ⟨gb544, 5, none⟩) (Kd.R_far (p := ⟨gb544, 4, none⟩) (Kd.R_far (p := ⟨gb544, 3, none⟩) (Kd.R_far (p := ⟨gb544, 2, none⟩) (Kd.R_far (p := ⟨gb544, 1, none⟩) (Kd.R_far (p := ⟨gb544, 0, none⟩) (Kd.R_types HO_3.out BK544.out (by decide)) (fun _ hk => hk.2) (.int .i64 t533)) (fun _ hk => hk.2) (.int .i64 t534)) (fun _ hk => hk.2) (.int .i64 t535)) (fun _ hk => hk.2) (.bool t536)) (fun _ hk => hk.2) (.string t537)) (fun _ hk => hk.2) (.string t538)) (fun _ hk => hk.2) (.slice Ao24 t539.length co24)) (fun _ h_ => h_.1))) hb); have n1_ := Aside0.mk (Kd.R_below (by (with_reducible repeat (first | apply Kd.R_alloc | apply Kd.R_drewN | apply Kd.R_drew)); exact (Kd.R_mono (Kd.R_far (p := ⟨gb544, 6, none⟩) (Kd.R_far (p := ⟨gb544, 5, none⟩) (Kd.R_far (p := ⟨gb544, 4, none⟩) (Kd.R_far (p := ⟨gb544, 3, none⟩) (Kd.R_far (p := ⟨gb544, 2, none⟩) (Kd.R_far (p := ⟨gb544, 1, none⟩) (Kd.R_far (p := ⟨gb544, 0, none⟩) (Kd.R_types HO541.out BK544.out (by decide)) (fun _ hk => hk.2) (.int .i64 t533)) (fun _ hk => hk.2) (.int .i64 t534)) (fun _ hk => hk.2) (.int .i64 t535)) (fun _ hk => hk.2) (.bool t536)) (fun _ hk => hk.2) (.string t537)) (fun _ hk => hk.2) (.string t538)) (fun _ hk => hk.2) (.slice Ao24 t539.length co24)) (fun _ h_ => h_.1))) hb); have n2_ := Aside0.mk (blk_below (g := gb544) (o := .cells #[.int .i64 t533, .int .i64 t534, .int .i64 t535, .bool t536, .string t537, .string t538, .slice Ao24 t539.length co24] 33 (0, 0)) (by (with_reducible repeat (first | refine blk_drewN ?_ _ | refine blk_drew ?_ | refine blk_alloc ?_ _)); refine blk_put (cs := #[.int .i64 t533, .int .i64 t534, .int .i64 t535, .bool t536, .string t537, .string t538, .slice none 0 0]) ?_ 6 _ rfl; (with_reducible repeat (first | refine blk_drewN ?_ _ | refine blk_drew ?_ | refine blk_alloc ?_ _)); refine blk_put (cs := #[.int .i64 t533, .int .i64 t534, .int .i64 t535, .bool t536, .string t537, .string (⟨#[]⟩ : ByteArray), .slice none 0 0]) ?_ 5 _ rfl; (with_reducible repeat (first | refine blk_drewN ?_ _ | refine blk_drew ?_ | refine blk_alloc ?_ _)); refine blk_put (cs := #[.int .i64 t533, .int .i64 t534, .int .i64 t535, .bool t536, .string (⟨#[]⟩ : ByteArray), .string (⟨#[]⟩ : ByteArray), .slice none 0 0]) ?_ 4 _ rfl; (with_reducible repeat (first | refine blk_drewN ?_ _ | refine blk_drew ?_ | refine blk_alloc ?_ _)); refine blk_put (cs := #[.int .i64 t533, .int .i64 t534, .int .i64 t535, .bool false, .string (⟨#[]⟩ : ByteArray), .string (⟨#[]⟩ : ByteArray), .slice none 0 0]) ?_ 3 _ rfl; (with_reducible repeat (first | refine blk_drewN ?_ _ | refine blk_drew ?_ | refine blk_alloc ?_ _)); refine blk_put (cs := #[.int .i64 t533, .int .i64 t534, .int .i64 0, .bool false, .string (⟨#[]⟩ : ByteArray), .string (⟨#[]⟩ : ByteArray), .slice none 0 0]) ?_ 2 _ rfl; (with_reducible repeat (first | refine blk_drewN ?_ _ | refine blk_drew ?_ | refine blk_alloc ?_ _)); refine blk_put (cs := #[.int .i64 t533, .int .i64 0, .int .i64 0, .bool false, .string (⟨#[]⟩ : ByteArray), .string (⟨#[]⟩ : ByteArray), .slice none 0 0]) ?_ 1 _ rfl; (with_reducible repeat (first | refine blk_drewN ?_ _ | refine blk_drew ?_ | refine blk_alloc ?_ _)); refine blk_put (cs := #[.int .i64 0, .int .i64 0, .int .i64 0, .bool false, .string (⟨#[]⟩ : ByteArray), .string (⟨#[]⟩ : ByteArray), .slice none 0 0]) ?_ 0 _ rfl; (with_reducible repeat (first | refine blk_drewN ?_ _ | refine blk_drew ?_ | refine blk_alloc ?_ _)); exact BK544.out) hb); have n3_ := Aside0.mk (below_step (by repeat (first | (with_reducible first | exact HB.out | apply below_alloc | apply pw_below_drewN | apply below_drew1 | refine below_set ?_ GE544.out) | exact HB.out)) hb); clear HO_3; clear HO541; clear BK544; clear HB; have HO_3 := n0_; have HO541 := n1_; have BK544 := n2_; have HB := n3_; clear n0_ n1_ n2_ n3_; (try clear hb); (try clear hb2); (try clear hk); (try clear hi)))
         go_meet
         case rel => exact ⟨_, (true), (by first | rfl | (simp; done) | (simp [*]; done) | (simp only [isEmpty_ne, Bool.not_not]) | (simp only [isEmpty_ne])), H', ⟨by have := HK1.out; first | omega | exact Nat.le_refl _⟩, ⟨by (with_reducible repeat (first | apply Kd.R_alloc | apply Kd.R_drewN | apply Kd.R_drew)); exact HO_3.out⟩, ⟨by (with_reducible repeat (first | apply Kd.R_alloc | apply Kd.R_drewN | apply Kd.R_drew)); exact HO541.out⟩, ⟨by (with_reducible repeat (first | refine blk_drewN ?_ _ | refine blk_drew ?_ | refine blk_alloc ?_ _)); exact BK544.out⟩, ⟨by repeat (first | (with_reducible first | exact HB.out | apply below_alloc | apply pw_below_drewN | apply below_drew1 | refine below_set ?_ GE544.out) | exact HB.out)⟩⟩
       case rest =>
        clear HC19
        try clear c1
        try clear p1
        try clear q1
        try clear hx1
        try clear c2
        try clear p2
        try clear c3
        try clear c3b0
        try clear c3b1
        try clear c4
        try clear c4b0
        try clear c4b1
        try clear p5
        try clear q5
        try clear hx5
        try clear c6
        try clear c6b0
        try clear p6
        try clear c7
        try clear c7b0
        try clear c8
        try clear c8b0
        try clear c10
        try clear c10b0
        try clear c11
        try clear c11b0
        try clear c12
        try clear p12
        try clear q12
        try clear hx12
        try clear c13
        try clear c26
        try clear c27
        try clear c27b0
        try clear c27b1
        try clear hcz23_0
        try clear hcz23_1
        try clear hcz23_2
        try clear hcz23_3
        try clear hcz23_4
        try clear hcz23_5
        try clear hcz23_6
        try clear hcz29_0
        try clear hcz29_1
        try clear hcz29_2
        try clear hcz29_3
        try clear hcz29_4
        try clear hcz29_5
        try clear hcz29_6
        try clear hfz23_0
        try clear hfz23_1
        try clear hfz23_2
        try clear hfz23_3
        try clear hfz23_4
        try clear hfz23_5
        try clear hfz23_6
        try clear hfz29_0
        try clear hfz29_1
        try clear hfz29_2
        try clear hfz29_3
        try clear hfz29_4
        try clear hfz29_5
        try clear hfz29_6
        try clear hx526_0
        try clear p12
        try clear p2
        try clear p526
        try clear q12
        try clear q526
        obtain ⟨kq, x56_18, rfl, HA, HJ18, HO_3, HO_545006, BK544, HB⟩ := hcut
        cases kq with
        | zero => exact absurd HA.out (by simp [numerarylaw14_ItemMinutes.j1])
        | succ kj18 =>
         have H := HA.out
         clear HA
         simp only [numerarylaw14_ItemMinutes.j1] at H
         by_cases c32 : x56_18 = true
         ·
          subst c32
          have H1 : (some false) = some r := by rw [if_pos rfl] at H; exact H
          clear H
          have H := H1
          clear H1
          obtain rfl := Option.some.inj H
          go_wp2
          go_ret
          exact ⟨by first | rfl | (simp [errW_none, errW_some] <;> rfl) | (simp only [← hji2]; first | rfl | (simp [errW_none, errW_some] <;> rfl)) | (simp [*, errW_none, errW_some] <;> rfl), by repeat (first | (with_reducible first | exact HB.out | apply below_alloc | apply pw_below_drewN | apply below_drew1 | refine below_set ?_ GE544.out) | exact HB.out)⟩
         ·
          replace c32 := Bool.eq_false_iff.mpr c32
          subst c32
          have H1 : (numerarylaw14_ItemMinutes.l1 kj18 x3_1 0 t533 t534 t535 t536 t537 t538 t539) = some r := by rw [if_neg (show ¬ (false = true) by decide)] at H; exact H
          clear H
          have H := H1
          clear H1
          have H' := Aside0.mk H
          clear H
          go_wp2
          go_loopg [9] kj18 (fun kq v9 w' => ∃ (x9_3 : Int), v9 = .int .i64 x9_3 ∧ Aside0 (numerarylaw14_ItemMinutes.l1 kq x3_1 x9_3 t533 t534 t535 t536 t537 t538 t539 = some r) ∧ Aside0 (kq ≤ kj18) ∧ Aside0 (Kd.R k53 53 w' w.heap.size (fun _ => True) (.slice Ao20 x3_1.length co20) x3_1) ∧ Aside0 (Kd.R k55 55 w' w.heap.size (fun _ => True) (.slice Ao24 t539.length co24) t539) ∧ Aside0 (w'.heap[gb544]? = some (.cells #[.int .i64 t533, .int .i64 t534, .int .i64 t535, .bool t536, .string t537, .string t538, (.slice Ao24 t539.length co24)] 33 (0, 0))) ∧ Aside0 (Below w.heap.size w w'))
          case atStart => exact ⟨(0), (by first | rfl | (simp; done) | (simp [*]; done) | (simp only [isEmpty_ne, Bool.not_not]) | (simp only [isEmpty_ne])), H', ⟨Nat.le_refl _⟩, ⟨by (with_reducible repeat (first | apply Kd.R_alloc | apply Kd.R_drewN | apply Kd.R_drew)); exact HO_3.out⟩, ⟨by (with_reducible repeat (first | apply Kd.R_alloc | apply Kd.R_drewN | apply Kd.R_drew)); exact HO_545006.out⟩, ⟨by (with_reducible repeat (first | refine blk_drewN ?_ _ | refine blk_drew ?_ | refine blk_alloc ?_ _)); exact BK544.out⟩, ⟨by repeat (first | (with_reducible first | exact HB.out | apply below_alloc | apply pw_below_drewN | apply below_drew1 | refine below_set ?_ GE544.out) | exact HB.out)⟩⟩
          case round =>
           clear H'
           try clear c1
           try clear p1
           try clear q1
           try clear hx1
           try clear c2
           try clear p2
           try clear c3
           try clear c3b0
           try clear c3b1
           try clear c4
           try clear c4b0
           try clear c4b1
           try clear p5
           try clear q5
           try clear hx5
           try clear c6
           try clear c6b0
           try clear p6
           try clear c7
           try clear c7b0
           try clear c8
           try clear c8b0
           try clear c10
           try clear c10b0
           try clear c11
           try clear c11b0
           try clear c12
           try clear p12
           try clear q12
           try clear hx12
           try clear c13
           try clear c26
           try clear c27
           try clear c27b0
           try clear c27b1
           try clear c32
           try clear hcz23_0
           try clear hcz23_1
           try clear hcz23_2
           try clear hcz23_3
           try clear hcz23_4
           try clear hcz23_5
           try clear hcz23_6
           try clear hcz29_0
           try clear hcz29_1
           try clear hcz29_2
           try clear hcz29_3
           try clear hcz29_4
           try clear hcz29_5
           try clear hcz29_6
           try clear hfz23_0
           try clear hfz23_1
           try clear hfz23_2
           try clear hfz23_3
           try clear hfz23_4
           try clear hfz23_5
           try clear hfz23_6
           try clear hfz29_0
           try clear hfz29_1
           try clear hfz29_2
           try clear hfz29_3
           try clear hfz29_4
           try clear hfz29_5
           try clear hfz29_6
           try clear hx526_0
           try clear p1
           try clear p12
           try clear p2
           try clear p5
           try clear p526
           try clear p6
           try clear q1
           try clear q12
           try clear q5
           try clear q526
           obtain ⟨x9_3, rfl, HA, HK3, HO_3, HO_545006, BK544, HB⟩ := hrel
           cases gk with
           | zero => exact absurd HA.out (by simp [numerarylaw14_ItemMinutes.l1])
           | succ k3 =>
            have H := HA.out
            clear HA
            simp only [numerarylaw14_ItemMinutes.l1] at H
            by_cases c33 : x9_3 < (x3_1.length : Int)
            ·
             rw [if_pos c33] at H
             have c33b0 : decide (x9_3 < (x3_1.length : Int)) = true := decide_eq_true c33
             clear c33
             by_cases c34 : 0 ≤ x9_3
             ·
              rw [if_pos c34] at H
              have c34b0 : decide (0 ≤ x9_3) = true := decide_eq_true c34
              clear c34
              have HC35 := Aside0.mk H
              clear H
              have p546 : 0 ≤ (x9_3 : Int) := of_decide_eq_true (by first | (with_reducible assumption) | assumption)
              have q546 : x9_3 < (x3_1.length : Int) := of_decide_eq_true (by first | (with_reducible assumption) | assumption)
              obtain ⟨ad546, e546, hx546_0, hx546_1, hx546_2, hx546_3⟩ := at_T53 (Kd.R_reads' HO_3.out).2.2 x9_3 p546 q546
              cases e546
              replace p546 := eq_true p546
              replace q546 := eq_true q546
              go_upto_region 15 with (first | ((with_reducible refine gate_dst (N := 10) rfl ?_); (try (refine gate_guard (by rfl) ?_; dsimp only)); refine box_event ?hg (N := 10) ?hd (cs := #[.int .i64 0, .string (⟨#[]⟩ : ByteArray), .int .i64 0, .int .i64 0]) (t := 53) ?hr ?_; (case hd => rfl); (case hg => rfl); (case hr => first | (go_simp; done) | (go_simp; rfl)); intro gb547 hg w36 hbox hb; have n0_ := Aside0.mk (Kd.R_below (Kd.R_elderB (by (with_reducible repeat (first | apply Kd.R_alloc | apply Kd.R_drewN | apply Kd.R_drew)); exact HO_3.out) gb547 (Nat.le_of_eq hg.symm)) hb); have n1_ := Aside0.mk (Kd.R_below (by (with_reducible repeat (first | apply Kd.R_alloc | apply Kd.R_drewN | apply Kd.R_drew)); exact HO_545006.out) hb); have n2_ := Aside0.mk (blk_below (g := gb544) (o := .cells #[.int .i64 t533, .int .i64 t534, .int .i64 t535, .bool t536, .string t537, .string t538, .slice Ao24 t539.length co24] 33 (0, 0)) (by (with_reducible repeat (first | refine blk_drewN ?_ _ | refine blk_drew ?_ | refine blk_alloc ?_ _)); exact BK544.out) hb); have n3_ := Aside0.mk (below_step (by repeat (first | (with_reducible first | exact HB.out | apply below_alloc | apply pw_below_drewN | apply below_drew1 | refine below_set ?_ GE544.out) | exact HB.out)) hb); have n4_ := Aside0.mk (hbox); have n5_ := Aside0.mk ((by rw [hg]; exact (below_size (by repeat (first | (with_reducible first | exact HB.out | apply below_alloc | apply pw_below_drewN | apply below_drew1 | refine below_set ?_ GE544.out) | exact HB.out))) : w.heap.size ≤ gb547)); have n6_ := Aside0.mk ((by rw [hg]; exact (below_size (by repeat (first | (with_reducible first | exact HB.out | apply below_alloc | apply pw_below_drewN | apply below_drew1 | refine below_set ?_ GE544.out) | exact HB.out))) : w.heap.size ≤ gb547)); have n7_ := Aside0.mk ((by rw [hg]; exact Nat.ne_of_lt (blk_lt (g := gb544) (o := .cells #[.int .i64 t533, .int .i64 t534, .int .i64 t535, .bool t536, .string t537, .string t538, .slice Ao24 t539.length co24] 33 (0, 0)) (by (with_reducible repeat (first | refine blk_drewN ?_ _ | refine blk_drew ?_ | refine blk_alloc ?_ _)); exact BK544.out)) : gb544 ≠ gb547)); have n8_ := Aside0.mk ((by rw [hg]; exact Nat.ne_of_gt (blk_lt (g := gb544) (o := .cells #[.int .i64 t533, .int .i64 t534, .int .i64 t535, .bool t536, .string t537, .string t538, .slice Ao24 t539.length co24] 33 (0, 0)) (by (with_reducible repeat (first | refine blk_drewN ?_ _ | refine blk_drew ?_ | refine blk_alloc ?_ _)); exact BK544.out)) : gb547 ≠ gb544)); clear HO_3; clear HO_545006; clear BK544; clear HB; have HO_3 := n0_; have HO_545006 := n1_; have BK544 := n2_; have HB := n3_; have BK547 := n4_; have GW547 := n5_; have GE547 := n6_; have NB544_547 := n7_; have NB547_544 := n8_; clear n0_ n1_ n2_ n3_ n4_ n5_ n6_ n7_ n8_; clear hb hbox hg; have hnb37 := NB547_544.out; have hnc37 := NB544_547.out; have hcz38_0 : w36.cell? ⟨gb547, 0, none⟩ = some (.int .i64 0) := (blk_cell BK547.out 0).trans rfl; have hcz38_1 : w36.cell? ⟨gb547, 1, none⟩ = some (.string (⟨#[]⟩ : ByteArray)) := (blk_cell BK547.out 1).trans rfl; have hcz38_2 : w36.cell? ⟨gb547, 2, none⟩ = some (.int .i64 0) := (blk_cell BK547.out 2).trans rfl; have hcz38_3 : w36.cell? ⟨gb547, 3, none⟩ = some (.int .i64 0) := (blk_cell BK547.out 3).trans rfl; have hfz38_0 := blk_frozen BK547.out 0; have hfz38_1 := blk_frozen BK547.out 1; have hfz38_2 := blk_frozen BK547.out 2; have hfz38_3 := blk_frozen BK547.out 3))
              (try simp only [Act.put, List.setIfInBounds_toArray, List.set_cons_zero, List.set_cons_succ])
              go_cut [105] (fun v105 wc => ∃ (kq : Nat) (x105_34 : Bool), v105 = .bool x105_34 ∧ Aside0 (numerarylaw14_ItemMinutes.j3 kq x3_1 x9_3 ((rd_T53 x3_1 x9_3).f1) x105_34 t533 t534 t535 t536 t537 t538 t539 = some r) ∧ Aside0 (kq ≤ k3) ∧ Aside0 (Kd.R k53 53 wc w.heap.size (fun k_ => k_ ≠ gb547) (.slice (some ad546) x3_1.length co20) x3_1) ∧ Aside0 (Kd.R k55 55 wc w.heap.size (fun _ => True) (.slice Ao24 t539.length co24) t539) ∧ Aside0 (wc.heap[gb544]? = some (.cells #[.int .i64 t533, .int .i64 t534, .int .i64 t535, .bool t536, .string t537, .string t538, (.slice Ao24 t539.length co24)] 33 (0, 0))) ∧ Aside0 (wc.heap[gb547]? = some (.cells #[.int .i64 ((rd_T53 x3_1 x9_3).f0), .string ((rd_T53 x3_1 x9_3).f1), .int .i64 ((rd_T53 x3_1 x9_3).f2), .int .i64 ((rd_T53 x3_1 x9_3).f3)] 53 (0, 0))) ∧ Aside0 (Below w.heap.size w wc))
              case first =>
               have H := HC35.out
               clear HC35
               by_cases c39 : ((rd_T53 x3_1 x9_3).f1).toList = ([109] : List UInt8)
               ·
                rw [if_pos c39] at H
                have c39b0 : (((rd_T53 x3_1 x9_3).f1).toList == ([109] : List UInt8)) = true := beq_iff_eq.mpr c39
                have c39b1 : (((rd_T53 x3_1 x9_3).f1).toList != ([109] : List UInt8)) = false := bne_eq_false_iff_eq.mpr c39
                clear c39
                (first | rw [c39b0] | (simp only [i64_w, i32_w]; rw [c39b0]) | skip)
                by_cases c40 : ((rd_T53 x3_1 x9_3).f2) ≤ 2
                ·
                 rw [if_pos c40] at H
                 have c40b0 : decide (((rd_T53 x3_1 x9_3).f2) ≤ 2) = true := decide_eq_true c40
                 clear c40
                 by_cases c41 : x9_3 > 0
                 ·
                  rw [if_pos c41] at H
                  have c41b0 : decide (0 < x9_3) = true := decide_eq_true c41
                  clear c41
                  obtain ⟨ji42, hji42⟩ : ∃ j_ : Int, (wrap64 (x9_3 - 2)) = j_ := ⟨_, rfl⟩
                  replace H : (if 0 ≤ (ji42) then (if (ji42) < (x3_1.length : Int) then (if ((rd_T53 x3_1 (ji42)).f1).toList = ([104] : List UInt8) then (numerarylaw14_ItemMinutes.j3 k3 x3_1 x9_3 ((rd_T53 x3_1 x9_3).f1) true t533 t534 t535 t536 t537 t538 t539) else (if (wrap64 (x9_3 + 2)) < (x3_1.length : Int) then (if 0 ≤ (wrap64 (x9_3 + 2)) then (numerarylaw14_ItemMinutes.j3 k3 x3_1 x9_3 ((rd_T53 x3_1 x9_3).f1) (((rd_T53 x3_1 (wrap64 (x9_3 + 2))).f1).toList == ([115] : List UInt8)) t533 t534 t535 t536 t537 t538 t539) else (none)) else (numerarylaw14_ItemMinutes.j3 k3 x3_1 x9_3 ((rd_T53 x3_1 x9_3).f1) false t533 t534 t535 t536 t537 t538 t539))) else (none)) else (none)) = some r := by first | (rw [hji42] at H; exact H) | (simp only [hji42] at H ⊢; exact H)
                  have hji42w : (IntKind.i64.wrap (x9_3 - 2)) = ji42 := (i64_w _).trans hji42
                  by_cases c43 : 0 ≤ (ji42)
                  ·
                   rw [if_pos c43] at H
                   have c43b0 : decide (0 ≤ (ji42)) = true := decide_eq_true c43
                   clear c43
                   by_cases c44 : (ji42) < (x3_1.length : Int)
                   ·
                    rw [if_pos c44] at H
                    have c44b0 : decide ((ji42) < (x3_1.length : Int)) = true := decide_eq_true c44
                    clear c44
                    by_cases c45 : ((rd_T53 x3_1 (ji42)).f1).toList = ([104] : List UInt8)
                    ·
                     rw [if_pos c45] at H
                     have c45b0 : (((rd_T53 x3_1 (ji42)).f1).toList == ([104] : List UInt8)) = true := beq_iff_eq.mpr c45
                     have c45b1 : (((rd_T53 x3_1 (ji42)).f1).toList != ([104] : List UInt8)) = false := bne_eq_false_iff_eq.mpr c45
                     clear c45
                     have H' := Aside0.mk H
                     clear H
                     have hnb46 := NB547_544.out
                     have hnc46 := NB544_547.out
                     have hcz47_0 : w36.cell? ⟨gb547, 0, none⟩ = some (.int .i64 0) := (blk_cell BK547.out 0).trans rfl
                     have hcz47_1 : w36.cell? ⟨gb547, 1, none⟩ = some (.string (⟨#[]⟩ : ByteArray)) := (blk_cell BK547.out 1).trans rfl
                     have hcz47_2 : w36.cell? ⟨gb547, 2, none⟩ = some (.int .i64 0) := (blk_cell BK547.out 2).trans rfl
                     have hcz47_3 : w36.cell? ⟨gb547, 3, none⟩ = some (.int .i64 0) := (blk_cell BK547.out 3).trans rfl
                     have hfz47_0 := blk_frozen BK547.out 0
                     have hfz47_1 := blk_frozen BK547.out 1
                     have hfz47_2 := blk_frozen BK547.out 2
                     have hfz47_3 := blk_frozen BK547.out 3
                     have p548 : 0 ≤ ((ji42) : Int) := of_decide_eq_true (by first | (with_reducible assumption) | assumption)
                     have q548 : (ji42) < (x3_1.length : Int) := of_decide_eq_true (by first | (with_reducible assumption) | assumption)
                     obtain ⟨ad548, e548, hx548_0, hx548_1, hx548_2, hx548_3⟩ := at_T53 (Kd.R_reads' HO_3.out).2.2 (ji42) p548 q548
                     obtain rfl : ad546 = ad548 := (by injection e548)
                     have hn548_0 : ad546.block ≠ gb547 := Kd.own_blk ((by first | exact Kd.R_ne HO_3.out BK547.out (by decide) | (intro he_; have h_ := HO_3.out.1 _ he_.symm; first | exact h_ rfl | exact h_.2 rfl | exact h_.1 rfl | exact h_.2.2 rfl | exact h_.1.2 rfl)))
                     have hn548_1 : ad546.block ≠ gb547 := Kd.own_blk ((by first | exact Kd.R_ne HO_3.out BK547.out (by decide) | (intro he_; have h_ := HO_3.out.1 _ he_.symm; first | exact h_ rfl | exact h_.2 rfl | exact h_.1 rfl | exact h_.2.2 rfl | exact h_.1.2 rfl)))
                     have hn548_2 : ad546.block ≠ gb547 := Kd.own_blk ((by first | exact Kd.R_ne HO_3.out BK547.out (by decide) | (intro he_; have h_ := HO_3.out.1 _ he_.symm; first | exact h_ rfl | exact h_.2 rfl | exact h_.1 rfl | exact h_.2.2 rfl | exact h_.1.2 rfl)))
                     have hn548_3 : ad546.block ≠ gb547 := Kd.own_blk ((by first | exact Kd.R_ne HO_3.out BK547.out (by decide) | (intro he_; have h_ := HO_3.out.1 _ he_.symm; first | exact h_ rfl | exact h_.2 rfl | exact h_.1 rfl | exact h_.2.2 rfl | exact h_.1.2 rfl)))
                     replace hx548_0 := (cell_far (p := ⟨gb547, 0, none⟩) (by first | (rw [add_block]; exact hn548_0) | (show (Addr.add _ _).block ≠ _; rw [add_block]; exact hn548_0) | exact hn548_0) (.int .i64 ((rd_T53 x3_1 x9_3).f0))).trans hx548_0
                     replace hx548_1 := (cell_far (p := ⟨gb547, 0, none⟩) (by first | (rw [add_block]; exact hn548_0) | (show (Addr.add _ _).block ≠ _; rw [add_block]; exact hn548_0) | exact hn548_0) (.int .i64 ((rd_T53 x3_1 x9_3).f0))).trans hx548_1
                     replace hx548_2 := (cell_far (p := ⟨gb547, 0, none⟩) (by first | (rw [add_block]; exact hn548_0) | (show (Addr.add _ _).block ≠ _; rw [add_block]; exact hn548_0) | exact hn548_0) (.int .i64 ((rd_T53 x3_1 x9_3).f0))).trans hx548_2
                     replace hx548_3 := (cell_far (p := ⟨gb547, 0, none⟩) (by first | (rw [add_block]; exact hn548_0) | (show (Addr.add _ _).block ≠ _; rw [add_block]; exact hn548_0) | exact hn548_0) (.int .i64 ((rd_T53 x3_1 x9_3).f0))).trans hx548_3
                     replace hx548_0 := (cell_far (p := ⟨gb547, 1, none⟩) (by first | (rw [add_block]; exact hn548_1) | (show (Addr.add _ _).block ≠ _; rw [add_block]; exact hn548_1) | exact hn548_1) (.string ((rd_T53 x3_1 x9_3).f1))).trans hx548_0
                     replace hx548_1 := (cell_far (p := ⟨gb547, 1, none⟩) (by first | (rw [add_block]; exact hn548_1) | (show (Addr.add _ _).block ≠ _; rw [add_block]; exact hn548_1) | exact hn548_1) (.string ((rd_T53 x3_1 x9_3).f1))).trans hx548_1
                     replace hx548_2 := (cell_far (p := ⟨gb547, 1, none⟩) (by first | (rw [add_block]; exact hn548_1) | (show (Addr.add _ _).block ≠ _; rw [add_block]; exact hn548_1) | exact hn548_1) (.string ((rd_T53 x3_1 x9_3).f1))).trans hx548_2
                     replace hx548_3 := (cell_far (p := ⟨gb547, 1, none⟩) (by first | (rw [add_block]; exact hn548_1) | (show (Addr.add _ _).block ≠ _; rw [add_block]; exact hn548_1) | exact hn548_1) (.string ((rd_T53 x3_1 x9_3).f1))).trans hx548_3
                     replace hx548_0 := (cell_far (p := ⟨gb547, 2, none⟩) (by first | (rw [add_block]; exact hn548_2) | (show (Addr.add _ _).block ≠ _; rw [add_block]; exact hn548_2) | exact hn548_2) (.int .i64 ((rd_T53 x3_1 x9_3).f2))).trans hx548_0
                     replace hx548_1 := (cell_far (p := ⟨gb547, 2, none⟩) (by first | (rw [add_block]; exact hn548_2) | (show (Addr.add _ _).block ≠ _; rw [add_block]; exact hn548_2) | exact hn548_2) (.int .i64 ((rd_T53 x3_1 x9_3).f2))).trans hx548_1
                     replace hx548_2 := (cell_far (p := ⟨gb547, 2, none⟩) (by first | (rw [add_block]; exact hn548_2) | (show (Addr.add _ _).block ≠ _; rw [add_block]; exact hn548_2) | exact hn548_2) (.int .i64 ((rd_T53 x3_1 x9_3).f2))).trans hx548_2
                     replace hx548_3 := (cell_far (p := ⟨gb547, 2, none⟩) (by first | (rw [add_block]; exact hn548_2) | (show (Addr.add _ _).block ≠ _; rw [add_block]; exact hn548_2) | exact hn548_2) (.int .i64 ((rd_T53 x3_1 x9_3).f2))).trans hx548_3
                     replace hx548_0 := (cell_far (p := ⟨gb547, 3, none⟩) (by first | (rw [add_block]; exact hn548_3) | (show (Addr.add _ _).block ≠ _; rw [add_block]; exact hn548_3) | exact hn548_3) (.int .i64 ((rd_T53 x3_1 x9_3).f3))).trans hx548_0
                     replace hx548_1 := (cell_far (p := ⟨gb547, 3, none⟩) (by first | (rw [add_block]; exact hn548_3) | (show (Addr.add _ _).block ≠ _; rw [add_block]; exact hn548_3) | exact hn548_3) (.int .i64 ((rd_T53 x3_1 x9_3).f3))).trans hx548_1
                     replace hx548_2 := (cell_far (p := ⟨gb547, 3, none⟩) (by first | (rw [add_block]; exact hn548_3) | (show (Addr.add _ _).block ≠ _; rw [add_block]; exact hn548_3) | exact hn548_3) (.int .i64 ((rd_T53 x3_1 x9_3).f3))).trans hx548_2
                     replace hx548_3 := (cell_far (p := ⟨gb547, 3, none⟩) (by first | (rw [add_block]; exact hn548_3) | (show (Addr.add _ _).block ≠ _; rw [add_block]; exact hn548_3) | exact hn548_3) (.int .i64 ((rd_T53 x3_1 x9_3).f3))).trans hx548_3
                     clear hn548_0
                     clear hn548_1
                     clear hn548_2
                     clear hn548_3
                     replace p548 := eq_true p548
                     replace q548 := eq_true q548
                     go_wp2
                     go_meet
                     case rel => exact ⟨_, (true), (by first | rfl | (simp; done) | (simp [*]; done) | (simp only [isEmpty_ne, Bool.not_not]) | (simp only [isEmpty_ne])), H', ⟨by have := HK1.out; have := HJ18.out; have := HK3.out; first | omega | exact Nat.le_refl _⟩, ⟨by (with_reducible repeat (first | apply Kd.R_alloc | apply Kd.R_drewN | apply Kd.R_drew)); exact Kd.R_mono (Kd.R_far (p := ⟨gb547, 3, none⟩) (Kd.R_far (p := ⟨gb547, 2, none⟩) (Kd.R_far (p := ⟨gb547, 1, none⟩) (Kd.R_far (p := ⟨gb547, 0, none⟩) (Kd.R_mono HO_3.out (fun k_ hk => (⟨hk, hk.2⟩ : _ ∧ k_ ≠ gb547))) (fun _ hk => hk.2) (.int .i64 ((rd_T53 x3_1 x9_3).f0))) (fun _ hk => hk.2) (.string ((rd_T53 x3_1 x9_3).f1))) (fun _ hk => hk.2) (.int .i64 ((rd_T53 x3_1 x9_3).f2))) (fun _ hk => hk.2) (.int .i64 ((rd_T53 x3_1 x9_3).f3))) (fun _ hk => hk.1.2)⟩, ⟨by (with_reducible repeat (first | apply Kd.R_alloc | apply Kd.R_drewN | apply Kd.R_drew)); exact Kd.R_mono (Kd.R_far (p := ⟨gb547, 3, none⟩) (Kd.R_far (p := ⟨gb547, 2, none⟩) (Kd.R_far (p := ⟨gb547, 1, none⟩) (Kd.R_far (p := ⟨gb547, 0, none⟩) (Kd.R_types HO_545006.out BK547.out (by decide)) (fun _ hk => hk.2) (.int .i64 ((rd_T53 x3_1 x9_3).f0))) (fun _ hk => hk.2) (.string ((rd_T53 x3_1 x9_3).f1))) (fun _ hk => hk.2) (.int .i64 ((rd_T53 x3_1 x9_3).f2))) (fun _ hk => hk.2) (.int .i64 ((rd_T53 x3_1 x9_3).f3))) (fun _ hk => trivial)⟩, ⟨by (with_reducible repeat (first | refine blk_drewN ?_ _ | refine blk_drew ?_ | refine blk_alloc ?_ _)); refine blk_far ?_ NB544_547.out _; (with_reducible repeat (first | refine blk_drewN ?_ _ | refine blk_drew ?_ | refine blk_alloc ?_ _)); refine blk_far ?_ NB544_547.out _; (with_reducible repeat (first | refine blk_drewN ?_ _ | refine blk_drew ?_ | refine blk_alloc ?_ _)); refine blk_far ?_ NB544_547.out _; (with_reducible repeat (first | refine blk_drewN ?_ _ | refine blk_drew ?_ | refine blk_alloc ?_ _)); refine blk_far ?_ NB544_547.out _; (with_reducible repeat (first | refine blk_drewN ?_ _ | refine blk_drew ?_ | refine blk_alloc ?_ _)); exact BK544.out⟩, ⟨by (with_reducible repeat (first | refine blk_drewN ?_ _ | refine blk_drew ?_ | refine blk_alloc ?_ _)); refine blk_put (cs := #[.int .i64 ((rd_T53 x3_1 x9_3).f0), .string ((rd_T53 x3_1 x9_3).f1), .int .i64 ((rd_T53 x3_1 x9_3).f2), .int .i64 0]) ?_ 3 _ rfl; (with_reducible repeat (first | refine blk_drewN ?_ _ | refine blk_drew ?_ | refine blk_alloc ?_ _)); refine blk_put (cs := #[.int .i64 ((rd_T53 x3_1 x9_3).f0), .string ((rd_T53 x3_1 x9_3).f1), .int .i64 0, .int .i64 0]) ?_ 2 _ rfl; (with_reducible repeat (first | refine blk_drewN ?_ _ | refine blk_drew ?_ | refine blk_alloc ?_ _)); refine blk_put (cs := #[.int .i64 ((rd_T53 x3_1 x9_3).f0), .string (⟨#[]⟩ : ByteArray), .int .i64 0, .int .i64 0]) ?_ 1 _ rfl; (with_reducible repeat (first | refine blk_drewN ?_ _ | refine blk_drew ?_ | refine blk_alloc ?_ _)); refine blk_put (cs := #[.int .i64 0, .string (⟨#[]⟩ : ByteArray), .int .i64 0, .int .i64 0]) ?_ 0 _ rfl; (with_reducible repeat (first | refine blk_drewN ?_ _ | refine blk_drew ?_ | refine blk_alloc ?_ _)); exact BK547.out⟩, ⟨by repeat (first | (with_reducible first | exact HB.out | apply below_alloc | apply pw_below_drewN | apply below_drew1 | refine below_set ?_ GE544.out | refine below_set ?_ GE547.out) | exact HB.out)⟩⟩
                    ·
                     rw [if_neg c45] at H
                     have c45b0 : (((rd_T53 x3_1 (ji42)).f1).toList == ([104] : List UInt8)) = false := beq_eq_false_iff_ne.mpr c45
                     have c45b1 : (((rd_T53 x3_1 (ji42)).f1).toList != ([104] : List UInt8)) = true := bne_iff_ne.mpr c45
                     by_cases c48 : (wrap64 (x9_3 + 2)) < (x3_1.length : Int)
                     ·
                      rw [if_pos c48] at H
                      have c48b0 : decide ((wrap64 (x9_3 + 2)) < (x3_1.length : Int)) = true := decide_eq_true c48
                      clear c48
                      obtain ⟨ji49, hji49⟩ : ∃ j_ : Int, (wrap64 (x9_3 + 2)) = j_ := ⟨_, rfl⟩
                      replace H : (if 0 ≤ (ji49) then (numerarylaw14_ItemMinutes.j3 k3 x3_1 x9_3 ((rd_T53 x3_1 x9_3).f1) (((rd_T53 x3_1 (ji49)).f1).toList == ([115] : List UInt8)) t533 t534 t535 t536 t537 t538 t539) else (none)) = some r := by first | (rw [hji49] at H; exact H) | (simp only [hji49] at H ⊢; exact H)
                      (try rw [hji49] at c48b0)
                      have hji49w : (IntKind.i64.wrap (x9_3 + 2)) = ji49 := (i64_w _).trans hji49
                      by_cases c50 : 0 ≤ (ji49)
                      ·
                       rw [if_pos c50] at H
                       have c50b0 : decide (0 ≤ (ji49)) = true := decide_eq_true c50
                       clear c50
                       have H' := Aside0.mk H
                       clear H
                       have hnb51 := NB547_544.out
                       have hnc51 := NB544_547.out
                       have hcz52_0 : w36.cell? ⟨gb547, 0, none⟩ = some (.int .i64 0) := (blk_cell BK547.out 0).trans rfl
                       have hcz52_1 : w36.cell? ⟨gb547, 1, none⟩ = some (.string (⟨#[]⟩ : ByteArray)) := (blk_cell BK547.out 1).trans rfl
                       have hcz52_2 : w36.cell? ⟨gb547, 2, none⟩ = some (.int .i64 0) := (blk_cell BK547.out 2).trans rfl
                       have hcz52_3 : w36.cell? ⟨gb547, 3, none⟩ = some (.int .i64 0) := (blk_cell BK547.out 3).trans rfl
                       have hfz52_0 := blk_frozen BK547.out 0
                       have hfz52_1 := blk_frozen BK547.out 1
                       have hfz52_2 := blk_frozen BK547.out 2
                       have hfz52_3 := blk_frozen BK547.out 3
                       have p548 : 0 ≤ ((ji42) : Int) := of_decide_eq_true (by first | (with_reducible assumption) | assumption)
                       have q548 : (ji42) < (x3_1.length : Int) := of_decide_eq_true (by first | (with_reducible assumption) | assumption)
                       obtain ⟨ad548, e548, hx548_0, hx548_1, hx548_2, hx548_3⟩ := at_T53 (Kd.R_reads' HO_3.out).2.2 (ji42) p548 q548
                       obtain rfl : ad546 = ad548 := (by injection e548)
                       have hn548_0 : ad546.block ≠ gb547 := Kd.own_blk ((by first | exact Kd.R_ne HO_3.out BK547.out (by decide) | (intro he_; have h_ := HO_3.out.1 _ he_.symm; first | exact h_ rfl | exact h_.2 rfl | exact h_.1 rfl | exact h_.2.2 rfl | exact h_.1.2 rfl)))
                       have hn548_1 : ad546.block ≠ gb547 := Kd.own_blk ((by first | exact Kd.R_ne HO_3.out BK547.out (by decide) | (intro he_; have h_ := HO_3.out.1 _ he_.symm; first | exact h_ rfl | exact h_.2 rfl | exact h_.1 rfl | exact h_.2.2 rfl | exact h_.1.2 rfl)))
                       have hn548_2 : ad546.block ≠ gb547 := Kd.own_blk ((by first | exact Kd.R_ne HO_3.out BK547.out (by decide) | (intro he_; have h_ := HO_3.out.1 _ he_.symm; first | exact h_ rfl | exact h_.2 rfl | exact h_.1 rfl | exact h_.2.2 rfl | exact h_.1.2 rfl)))
                       have hn548_3 : ad546.block ≠ gb547 := Kd.own_blk ((by first | exact Kd.R_ne HO_3.out BK547.out (by decide) | (intro he_; have h_ := HO_3.out.1 _ he_.symm; first | exact h_ rfl | exact h_.2 rfl | exact h_.1 rfl | exact h_.2.2 rfl | exact h_.1.2 rfl)))
                       replace hx548_0 := (cell_far (p := ⟨gb547, 0, none⟩) (by first | (rw [add_block]; exact hn548_0) | (show (Addr.add _ _).block ≠ _; rw [add_block]; exact hn548_0) | exact hn548_0) (.int .i64 ((rd_T53 x3_1 x9_3).f0))).trans hx548_0
                       replace hx548_1 := (cell_far (p := ⟨gb547, 0, none⟩) (by first | (rw [add_block]; exact hn548_0) | (show (Addr.add _ _).block ≠ _; rw [add_block]; exact hn548_0) | exact hn548_0) (.int .i64 ((rd_T53 x3_1 x9_3).f0))).trans hx548_1
                       replace hx548_2 := (cell_far (p := ⟨gb547, 0, none⟩) (by first | (rw [add_block]; exact hn548_0) | (show (Addr.add _ _).block ≠ _; rw [add_block]; exact hn548_0) | exact hn548_0) (.int .i64 ((rd_T53 x3_1 x9_3).f0))).trans hx548_2
                       replace hx548_3 := (cell_far (p := ⟨gb547, 0, none⟩) (by first | (rw [add_block]; exact hn548_0) | (show (Addr.add _ _).block ≠ _; rw [add_block]; exact hn548_0) | exact hn548_0) (.int .i64 ((rd_T53 x3_1 x9_3).f0))).trans hx548_3
                       replace hx548_0 := (cell_far (p := ⟨gb547, 1, none⟩) (by first | (rw [add_block]; exact hn548_1) | (show (Addr.add _ _).block ≠ _; rw [add_block]; exact hn548_1) | exact hn548_1) (.string ((rd_T53 x3_1 x9_3).f1))).trans hx548_0
                       replace hx548_1 := (cell_far (p := ⟨gb547, 1, none⟩) (by first | (rw [add_block]; exact hn548_1) | (show (Addr.add _ _).block ≠ _; rw [add_block]; exact hn548_1) | exact hn548_1) (.string ((rd_T53 x3_1 x9_3).f1))).trans hx548_1
                       replace hx548_2 := (cell_far (p := ⟨gb547, 1, none⟩) (by first | (rw [add_block]; exact hn548_1) | (show (Addr.add _ _).block ≠ _; rw [add_block]; exact hn548_1) | exact hn548_1) (.string ((rd_T53 x3_1 x9_3).f1))).trans hx548_2
                       replace hx548_3 := (cell_far (p := ⟨gb547, 1, none⟩) (by first | (rw [add_block]; exact hn548_1) | (show (Addr.add _ _).block ≠ _; rw [add_block]; exact hn548_1) | exact hn548_1) (.string ((rd_T53 x3_1 x9_3).f1))).trans hx548_3
                       replace hx548_0 := (cell_far (p := ⟨gb547, 2, none⟩) (by first | (rw [add_block]; exact hn548_2) | (show (Addr.add _ _).block ≠ _; rw [add_block]; exact hn548_2) | exact hn548_2) (.int .i64 ((rd_T53 x3_1 x9_3).f2))).trans hx548_0
                       replace hx548_1 := (cell_far (p := ⟨gb547, 2, none⟩) (by first | (rw [add_block]; exact hn548_2) | (show (Addr.add _ _).block ≠ _; rw [add_block]; exact hn548_2) | exact hn548_2) (.int .i64 ((rd_T53 x3_1 x9_3).f2))).trans hx548_1
                       replace hx548_2 := (cell_far (p := ⟨gb547, 2, none⟩) (by first | (rw [add_block]; exact hn548_2) | (show (Addr.add _ _).block ≠ _; rw [add_block]; exact hn548_2) | exact hn548_2) (.int .i64 ((rd_T53 x3_1 x9_3).f2))).trans hx548_2
                       replace hx548_3 := (cell_far (p := ⟨gb547, 2, none⟩) (by first | (rw [add_block]; exact hn548_2) | (show (Addr.add _ _).block ≠ _; rw [add_block]; exact hn548_2) | exact hn548_2) (.int .i64 ((rd_T53 x3_1 x9_3).f2))).trans hx548_3
                       replace hx548_0 := (cell_far (p := ⟨gb547, 3, none⟩) (by first | (rw [add_block]; exact hn548_3) | (show (Addr.add _ _).block ≠ _; rw [add_block]; exact hn548_3) | exact hn548_3) (.int .i64 ((rd_T53 x3_1 x9_3).f3))).trans hx548_0
                       replace hx548_1 := (cell_far (p := ⟨gb547, 3, none⟩) (by first | (rw [add_block]; exact hn548_3) | (show (Addr.add _ _).block ≠ _; rw [add_block]; exact hn548_3) | exact hn548_3) (.int .i64 ((rd_T53 x3_1 x9_3).f3))).trans hx548_1
                       replace hx548_2 := (cell_far (p := ⟨gb547, 3, none⟩) (by first | (rw [add_block]; exact hn548_3) | (show (Addr.add _ _).block ≠ _; rw [add_block]; exact hn548_3) | exact hn548_3) (.int .i64 ((rd_T53 x3_1 x9_3).f3))).trans hx548_2
                       replace hx548_3 := (cell_far (p := ⟨gb547, 3, none⟩) (by first | (rw [add_block]; exact hn548_3) | (show (Addr.add _ _).block ≠ _; rw [add_block]; exact hn548_3) | exact hn548_3) (.int .i64 ((rd_T53 x3_1 x9_3).f3))).trans hx548_3
                       clear hn548_0
                       clear hn548_1
                       clear hn548_2
                       clear hn548_3
                       replace p548 := eq_true p548
                       replace q548 := eq_true q548
                       have p549 : 0 ≤ ((ji49) : Int) := of_decide_eq_true (by first | (with_reducible assumption) | assumption)
                       have q549 : (ji49) < (x3_1.length : Int) := of_decide_eq_true (by first | (with_reducible assumption) | assumption)
                       obtain ⟨ad549, e549, hx549_0, hx549_1, hx549_2, hx549_3⟩ := at_T53 (Kd.R_reads' HO_3.out).2.2 (ji49) p549 q549
                       obtain rfl : ad546 = ad549 := (by injection e549)
                       have hn549_0 : ad546.block ≠ gb547 := Kd.own_blk ((by first | exact Kd.R_ne HO_3.out BK547.out (by decide) | (intro he_; have h_ := HO_3.out.1 _ he_.symm; first | exact h_ rfl | exact h_.2 rfl | exact h_.1 rfl | exact h_.2.2 rfl | exact h_.1.2 rfl)))
                       have hn549_1 : ad546.block ≠ gb547 := Kd.own_blk ((by first | exact Kd.R_ne HO_3.out BK547.out (by decide) | (intro he_; have h_ := HO_3.out.1 _ he_.symm; first | exact h_ rfl | exact h_.2 rfl | exact h_.1 rfl | exact h_.2.2 rfl | exact h_.1.2 rfl)))
                       have hn549_2 : ad546.block ≠ gb547 := Kd.own_blk ((by first | exact Kd.R_ne HO_3.out BK547.out (by decide) | (intro he_; have h_ := HO_3.out.1 _ he_.symm; first | exact h_ rfl | exact h_.2 rfl | exact h_.1 rfl | exact h_.2.2 rfl | exact h_.1.2 rfl)))
                       have hn549_3 : ad546.block ≠ gb547 := Kd.own_blk ((by first | exact Kd.R_ne HO_3.out BK547.out (by decide) | (intro he_; have h_ := HO_3.out.1 _ he_.symm; first | exact h_ rfl | exact h_.2 rfl | exact h_.1 rfl | exact h_.2.2 rfl | exact h_.1.2 rfl)))
                       replace hx549_0 := (cell_far (p := ⟨gb547, 0, none⟩) (by first | (rw [add_block]; exact hn549_0) | (show (Addr.add _ _).block ≠ _; rw [add_block]; exact hn549_0) | exact hn549_0) (.int .i64 ((rd_T53 x3_1 x9_3).f0))).trans hx549_0
                       replace hx549_1 := (cell_far (p := ⟨gb547, 0, none⟩) (by first | (rw [add_block]; exact hn549_0) | (show (Addr.add _ _).block ≠ _; rw [add_block]; exact hn549_0) | exact hn549_0) (.int .i64 ((rd_T53 x3_1 x9_3).f0))).trans hx549_1
                       replace hx549_2 := (cell_far (p := ⟨gb547, 0, none⟩) (by first | (rw [add_block]; exact hn549_0) | (show (Addr.add _ _).block ≠ _; rw [add_block]; exact hn549_0) | exact hn549_0) (.int .i64 ((rd_T53 x3_1 x9_3).f0))).trans hx549_2
                       replace hx549_3 := (cell_far (p := ⟨gb547, 0, none⟩) (by first | (rw [add_block]; exact hn549_0) | (show (Addr.add _ _).block ≠ _; rw [add_block]; exact hn549_0) | exact hn549_0) (.int .i64 ((rd_T53 x3_1 x9_3).f0))).trans hx549_3
                       replace hx549_0 := (cell_far (p := ⟨gb547, 1, none⟩) (by first | (rw [add_block]; exact hn549_1) | (show (Addr.add _ _).block ≠ _; rw [add_block]; exact hn549_1) | exact hn549_1) (.string ((rd_T53 x3_1 x9_3).f1))).trans hx549_0
                       replace hx549_1 := (cell_far (p := ⟨gb547, 1, none⟩) (by first | (rw [add_block]; exact hn549_1) | (show (Addr.add _ _).block ≠ _; rw [add_block]; exact hn549_1) | exact hn549_1) (.string ((rd_T53 x3_1 x9_3).f1))).trans hx549_1
                       replace hx549_2 := (cell_far (p := ⟨gb547, 1, none⟩) (by first | (rw [add_block]; exact hn549_1) | (show (Addr.add _ _).block ≠ _; rw [add_block]; exact hn549_1) | exact hn549_1) (.string ((rd_T53 x3_1 x9_3).f1))).trans hx549_2
                       replace hx549_3 := (cell_far (p := ⟨gb547, 1, none⟩) (by first | (rw [add_block]; exact hn549_1) | (show (Addr.add _ _).block ≠ _; rw [add_block]; exact hn549_1) | exact hn549_1) (.string ((rd_T53 x3_1 x9_3).f1))).trans hx549_3
                       replace hx549_0 := (cell_far (p := ⟨gb547, 2, none⟩) (by first | (rw [add_block]; exact hn549_2) | (show (Addr.add _ _).block ≠ _; rw [add_block]; exact hn549_2) | exact hn549_2) (.int .i64 ((rd_T53 x3_1 x9_3).f2))).trans hx549_0
                       replace hx549_1 := (cell_far (p := ⟨gb547, 2, none⟩) (by first | (rw [add_block]; exact hn549_2) | (show (Addr.add _ _).block ≠ _; rw [add_block]; exact hn549_2) | exact hn549_2) (.int .i64 ((rd_T53 x3_1 x9_3).f2))).trans hx549_1
                       replace hx549_2 := (cell_far (p := ⟨gb547, 2, none⟩) (by first | (rw [add_block]; exact hn549_2) | (show (Addr.add _ _).block ≠ _; rw [add_block]; exact hn549_2) | exact hn549_2) (.int .i64 ((rd_T53 x3_1 x9_3).f2))).trans hx549_2
                       replace hx549_3 := (cell_far (p := ⟨gb547, 2, none⟩) (by first | (rw [add_block]; exact hn549_2) | (show (Addr.add _ _).block ≠ _; rw [add_block]; exact hn549_2) | exact hn549_2) (.int .i64 ((rd_T53 x3_1 x9_3).f2))).trans hx549_3
                       replace hx549_0 := (cell_far (p := ⟨gb547, 3, none⟩) (by first | (rw [add_block]; exact hn549_3) | (show (Addr.add _ _).block ≠ _; rw [add_block]; exact hn549_3) | exact hn549_3) (.int .i64 ((rd_T53 x3_1 x9_3).f3))).trans hx549_0
                       replace hx549_1 := (cell_far (p := ⟨gb547, 3, none⟩) (by first | (rw [add_block]; exact hn549_3) | (show (Addr.add _ _).block ≠ _; rw [add_block]; exact hn549_3) | exact hn549_3) (.int .i64 ((rd_T53 x3_1 x9_3).f3))).trans hx549_1
                       replace hx549_2 := (cell_far (p := ⟨gb547, 3, none⟩) (by first | (rw [add_block]; exact hn549_3) | (show (Addr.add _ _).block ≠ _; rw [add_block]; exact hn549_3) | exact hn549_3) (.int .i64 ((rd_T53 x3_1 x9_3).f3))).trans hx549_2
                       replace hx549_3 := (cell_far (p := ⟨gb547, 3, none⟩) (by first | (rw [add_block]; exact hn549_3) | (show (Addr.add _ _).block ≠ _; rw [add_block]; exact hn549_3) | exact hn549_3) (.int .i64 ((rd_T53 x3_1 x9_3).f3))).trans hx549_3
                       clear hn549_0
                       clear hn549_1
                       clear hn549_2
                       clear hn549_3
                       replace p549 := eq_true p549
                       replace q549 := eq_true q549
                       go_wp2
                       go_meet
                       case rel => exact ⟨_, ((((rd_T53 x3_1 (ji49)).f1).toList == ([115] : List UInt8))), (by first | rfl | (simp; done) | (simp only [← hji49] <;> (first | rfl | simp)) | (simp [*]; done)), H', ⟨by have := HK1.out; have := HJ18.out; have := HK3.out; first | omega | exact Nat.le_refl _⟩, ⟨by (with_reducible repeat (first | apply Kd.R_alloc | apply Kd.R_drewN | apply Kd.R_drew)); exact Kd.R_mono (Kd.R_far (p := ⟨gb547, 3, none⟩) (Kd.R_far (p := ⟨gb547, 2, none⟩) (Kd.R_far (p := ⟨gb547, 1, none⟩) (Kd.R_far (p := ⟨gb547, 0, none⟩) (Kd.R_mono HO_3.out (fun k_ hk => (⟨hk, hk.2⟩ : _ ∧ k_ ≠ gb547))) (fun _ hk => hk.2) (.int .i64 ((rd_T53 x3_1 x9_3).f0))) (fun _ hk => hk.2) (.string ((rd_T53 x3_1 x9_3).f1))) (fun _ hk => hk.2) (.int .i64 ((rd_T53 x3_1 x9_3).f2))) (fun _ hk => hk.2) (.int .i64 ((rd_T53 x3_1 x9_3).f3))) (fun _ hk => hk.1.2)⟩, ⟨by (with_reducible repeat (first | apply Kd.R_alloc | apply Kd.R_drewN | apply Kd.R_drew)); exact Kd.R_mono (Kd.R_far (p := ⟨gb547, 3, none⟩) (Kd.R_far (p := ⟨gb547, 2, none⟩) (Kd.R_far (p := ⟨gb547, 1, none⟩) (Kd.R_far (p := ⟨gb547, 0, none⟩) (Kd.R_types HO_545006.out BK547.out (by decide)) (fun _ hk => hk.2) (.int .i64 ((rd_T53 x3_1 x9_3).f0))) (fun _ hk => hk.2) (.string ((rd_T53 x3_1 x9_3).f1))) (fun _ hk => hk.2) (.int .i64 ((rd_T53 x3_1 x9_3).f2))) (fun _ hk => hk.2) (.int .i64 ((rd_T53 x3_1 x9_3).f3))) (fun _ hk => trivial)⟩, ⟨by (with_reducible repeat (first | refine blk_drewN ?_ _ | refine blk_drew ?_ | refine blk_alloc ?_ _)); refine blk_far ?_ NB544_547.out _; (with_reducible repeat (first | refine blk_drewN ?_ _ | refine blk_drew ?_ | refine blk_alloc ?_ _)); refine blk_far ?_ NB544_547.out _; (with_reducible repeat (first | refine blk_drewN ?_ _ | refine blk_drew ?_ | refine blk_alloc ?_ _)); refine blk_far ?_ NB544_547.out _; (with_reducible repeat (first | refine blk_drewN ?_ _ | refine blk_drew ?_ | refine blk_alloc ?_ _)); refine blk_far ?_ NB544_547.out _; (with_reducible repeat (first | refine blk_drewN ?_ _ | refine blk_drew ?_ | refine blk_alloc ?_ _)); exact BK544.out⟩, ⟨by (with_reducible repeat (first | refine blk_drewN ?_ _ | refine blk_drew ?_ | refine blk_alloc ?_ _)); refine blk_put (cs := #[.int .i64 ((rd_T53 x3_1 x9_3).f0), .string ((rd_T53 x3_1 x9_3).f1), .int .i64 ((rd_T53 x3_1 x9_3).f2), .int .i64 0]) ?_ 3 _ rfl; (with_reducible repeat (first | refine blk_drewN ?_ _ | refine blk_drew ?_ | refine blk_alloc ?_ _)); refine blk_put (cs := #[.int .i64 ((rd_T53 x3_1 x9_3).f0), .string ((rd_T53 x3_1 x9_3).f1), .int .i64 0, .int .i64 0]) ?_ 2 _ rfl; (with_reducible repeat (first | refine blk_drewN ?_ _ | refine blk_drew ?_ | refine blk_alloc ?_ _)); refine blk_put (cs := #[.int .i64 ((rd_T53 x3_1 x9_3).f0), .string (⟨#[]⟩ : ByteArray), .int .i64 0, .int .i64 0]) ?_ 1 _ rfl; (with_reducible repeat (first | refine blk_drewN ?_ _ | refine blk_drew ?_ | refine blk_alloc ?_ _)); refine blk_put (cs := #[.int .i64 0, .string (⟨#[]⟩ : ByteArray), .int .i64 0, .int .i64 0]) ?_ 0 _ rfl; (with_reducible repeat (first | refine blk_drewN ?_ _ | refine blk_drew ?_ | refine blk_alloc ?_ _)); exact BK547.out⟩, ⟨by repeat (first | (with_reducible first | exact HB.out | apply below_alloc | apply pw_below_drewN | apply below_drew1 | refine below_set ?_ GE544.out | refine below_set ?_ GE547.out) | exact HB.out)⟩⟩
                      ·
                       rw [if_neg c50] at H
                       exact absurd H (by simp)
                     ·
                      rw [if_neg c48] at H
                      have c48b0 : decide ((wrap64 (x9_3 + 2)) < (x3_1.length : Int)) = false := decide_eq_false c48
                      clear c48
                      have H' := Aside0.mk H
                      clear H
                      have hnb53 := NB547_544.out
                      have hnc53 := NB544_547.out
                      have hcz54_0 : w36.cell? ⟨gb547, 0, none⟩ = some (.int .i64 0) := (blk_cell BK547.out 0).trans rfl
                      have hcz54_1 : w36.cell? ⟨gb547, 1, none⟩ = some (.string (⟨#[]⟩ : ByteArray)) := (blk_cell BK547.out 1).trans rfl
                      have hcz54_2 : w36.cell? ⟨gb547, 2, none⟩ = some (.int .i64 0) := (blk_cell BK547.out 2).trans rfl
                      have hcz54_3 : w36.cell? ⟨gb547, 3, none⟩ = some (.int .i64 0) := (blk_cell BK547.out 3).trans rfl
                      have hfz54_0 := blk_frozen BK547.out 0
                      have hfz54_1 := blk_frozen BK547.out 1
                      have hfz54_2 := blk_frozen BK547.out 2
                      have hfz54_3 := blk_frozen BK547.out 3
                      have p548 : 0 ≤ ((ji42) : Int) := of_decide_eq_true (by first | (with_reducible assumption) | assumption)
                      have q548 : (ji42) < (x3_1.length : Int) := of_decide_eq_true (by first | (with_reducible assumption) | assumption)
                      obtain ⟨ad548, e548, hx548_0, hx548_1, hx548_2, hx548_3⟩ := at_T53 (Kd.R_reads' HO_3.out).2.2 (ji42) p548 q548
                      obtain rfl : ad546 = ad548 := (by injection e548)
                      have hn548_0 : ad546.block ≠ gb547 := Kd.own_blk ((by first | exact Kd.R_ne HO_3.out BK547.out (by decide) | (intro he_; have h_ := HO_3.out.1 _ he_.symm; first | exact h_ rfl | exact h_.2 rfl | exact h_.1 rfl | exact h_.2.2 rfl | exact h_.1.2 rfl)))
                      have hn548_1 : ad546.block ≠ gb547 := Kd.own_blk ((by first | exact Kd.R_ne HO_3.out BK547.out (by decide) | (intro he_; have h_ := HO_3.out.1 _ he_.symm; first | exact h_ rfl | exact h_.2 rfl | exact h_.1 rfl | exact h_.2.2 rfl | exact h_.1.2 rfl)))
                      have hn548_2 : ad546.block ≠ gb547 := Kd.own_blk ((by first | exact Kd.R_ne HO_3.out BK547.out (by decide) | (intro he_; have h_ := HO_3.out.1 _ he_.symm; first | exact h_ rfl | exact h_.2 rfl | exact h_.1 rfl | exact h_.2.2 rfl | exact h_.1.2 rfl)))
                      have hn548_3 : ad546.block ≠ gb547 := Kd.own_blk ((by first | exact Kd.R_ne HO_3.out BK547.out (by decide) | (intro he_; have h_ := HO_3.out.1 _ he_.symm; first | exact h_ rfl | exact h_.2 rfl | exact h_.1 rfl | exact h_.2.2 rfl | exact h_.1.2 rfl)))
                      replace hx548_0 := (cell_far (p := ⟨gb547, 0, none⟩) (by first | (rw [add_block]; exact hn548_0) | (show (Addr.add _ _).block ≠ _; rw [add_block]; exact hn548_0) | exact hn548_0) (.int .i64 ((rd_T53 x3_1 x9_3).f0))).trans hx548_0
                      replace hx548_1 := (cell_far (p := ⟨gb547, 0, none⟩) (by first | (rw [add_block]; exact hn548_0) | (show (Addr.add _ _).block ≠ _; rw [add_block]; exact hn548_0) | exact hn548_0) (.int .i64 ((rd_T53 x3_1 x9_3).f0))).trans hx548_1
                      replace hx548_2 := (cell_far (p := ⟨gb547, 0, none⟩) (by first | (rw [add_block]; exact hn548_0) | (show (Addr.add _ _).block ≠ _; rw [add_block]; exact hn548_0) | exact hn548_0) (.int .i64 ((rd_T53 x3_1 x9_3).f0))).trans hx548_2
                      replace hx548_3 := (cell_far (p := ⟨gb547, 0, none⟩) (by first | (rw [add_block]; exact hn548_0) | (show (Addr.add _ _).block ≠ _; rw [add_block]; exact hn548_0) | exact hn548_0) (.int .i64 ((rd_T53 x3_1 x9_3).f0))).trans hx548_3
                      replace hx548_0 := (cell_far (p := ⟨gb547, 1, none⟩) (by first | (rw [add_block]; exact hn548_1) | (show (Addr.add _ _).block ≠ _; rw [add_block]; exact hn548_1) | exact hn548_1) (.string ((rd_T53 x3_1 x9_3).f1))).trans hx548_0
                      replace hx548_1 := (cell_far (p := ⟨gb547, 1, none⟩) (by first | (rw [add_block]; exact hn548_1) | (show (Addr.add _ _).block ≠ _; rw [add_block]; exact hn548_1) | exact hn548_1) (.string ((rd_T53 x3_1 x9_3).f1))).trans hx548_1
                      replace hx548_2 := (cell_far (p := ⟨gb547, 1, none⟩) (by first | (rw [add_block]; exact hn548_1) | (show (Addr.add _ _).block ≠ _; rw [add_block]; exact hn548_1) | exact hn548_1) (.string ((rd_T53 x3_1 x9_3).f1))).trans hx548_2
                      replace hx548_3 := (cell_far (p := ⟨gb547, 1, none⟩) (by first | (rw [add_block]; exact hn548_1) | (show (Addr.add _ _).block ≠ _; rw [add_block]; exact hn548_1) | exact hn548_1) (.string ((rd_T53 x3_1 x9_3).f1))).trans hx548_3
                      replace hx548_0 := (cell_far (p := ⟨gb547, 2, none⟩) (by first | (rw [add_block]; exact hn548_2) | (show (Addr.add _ _).block ≠ _; rw [add_block]; exact hn548_2) | exact hn548_2) (.int .i64 ((rd_T53 x3_1 x9_3).f2))).trans hx548_0
                      replace hx548_1 := (cell_far (p := ⟨gb547, 2, none⟩) (by first | (rw [add_block]; exact hn548_2) | (show (Addr.add _ _).block ≠ _; rw [add_block]; exact hn548_2) | exact hn548_2) (.int .i64 ((rd_T53 x3_1 x9_3).f2))).trans hx548_1
                      replace hx548_2 := (cell_far (p := ⟨gb547, 2, none⟩) (by first | (rw [add_block]; exact hn548_2) | (show (Addr.add _ _).block ≠ _; rw [add_block]; exact hn548_2) | exact hn548_2) (.int .i64 ((rd_T53 x3_1 x9_3).f2))).trans hx548_2
                      replace hx548_3 := (cell_far (p := ⟨gb547, 2, none⟩) (by first | (rw [add_block]; exact hn548_2) | (show (Addr.add _ _).block ≠ _; rw [add_block]; exact hn548_2) | exact hn548_2) (.int .i64 ((rd_T53 x3_1 x9_3).f2))).trans hx548_3
                      replace hx548_0 := (cell_far (p := ⟨gb547, 3, none⟩) (by first | (rw [add_block]; exact hn548_3) | (show (Addr.add _ _).block ≠ _; rw [add_block]; exact hn548_3) | exact hn548_3) (.int .i64 ((rd_T53 x3_1 x9_3).f3))).trans hx548_0
                      replace hx548_1 := (cell_far (p := ⟨gb547, 3, none⟩) (by first | (rw [add_block]; exact hn548_3) | (show (Addr.add _ _).block ≠ _; rw [add_block]; exact hn548_3) | exact hn548_3) (.int .i64 ((rd_T53 x3_1 x9_3).f3))).trans hx548_1
                      replace hx548_2 := (cell_far (p := ⟨gb547, 3, none⟩) (by first | (rw [add_block]; exact hn548_3) | (show (Addr.add _ _).block ≠ _; rw [add_block]; exact hn548_3) | exact hn548_3) (.int .i64 ((rd_T53 x3_1 x9_3).f3))).trans hx548_2
                      replace hx548_3 := (cell_far (p := ⟨gb547, 3, none⟩) (by first | (rw [add_block]; exact hn548_3) | (show (Addr.add _ _).block ≠ _; rw [add_block]; exact hn548_3) | exact hn548_3) (.int .i64 ((rd_T53 x3_1 x9_3).f3))).trans hx548_3
                      clear hn548_0
                      clear hn548_1
                      clear hn548_2
                      clear hn548_3
                      replace p548 := eq_true p548
                      replace q548 := eq_true q548
                      go_wp2
                      go_meet
                      case rel => exact ⟨_, (false), (by first | rfl | (simp; done) | (simp [*]; done) | (simp only [isEmpty_ne, Bool.not_not]) | (simp only [isEmpty_ne])), H', ⟨by have := HK1.out; have := HJ18.out; have := HK3.out; first | omega | exact Nat.le_refl _⟩, ⟨by (with_reducible repeat (first | apply Kd.R_alloc | apply Kd.R_drewN | apply Kd.R_drew)); exact Kd.R_mono (Kd.R_far (p := ⟨gb547, 3, none⟩) (Kd.R_far (p := ⟨gb547, 2, none⟩) (Kd.R_far (p := ⟨gb547, 1, none⟩) (Kd.R_far (p := ⟨gb547, 0, none⟩) (Kd.R_mono HO_3.out (fun k_ hk => (⟨hk, hk.2⟩ : _ ∧ k_ ≠ gb547))) (fun _ hk => hk.2) (.int .i64 ((rd_T53 x3_1 x9_3).f0))) (fun _ hk => hk.2) (.string ((rd_T53 x3_1 x9_3).f1))) (fun _ hk => hk.2) (.int .i64 ((rd_T53 x3_1 x9_3).f2))) (fun _ hk => hk.2) (.int .i64 ((rd_T53 x3_1 x9_3).f3))) (fun _ hk => hk.1.2)⟩, ⟨by (with_reducible repeat (first | apply Kd.R_alloc | apply Kd.R_drewN | apply Kd.R_drew)); exact Kd.R_mono (Kd.R_far (p := ⟨gb547, 3, none⟩) (Kd.R_far (p := ⟨gb547, 2, none⟩) (Kd.R_far (p := ⟨gb547, 1, none⟩) (Kd.R_far (p := ⟨gb547, 0, none⟩) (Kd.R_types HO_545006.out BK547.out (by decide)) (fun _ hk => hk.2) (.int .i64 ((rd_T53 x3_1 x9_3).f0))) (fun _ hk => hk.2) (.string ((rd_T53 x3_1 x9_3).f1))) (fun _ hk => hk.2) (.int .i64 ((rd_T53 x3_1 x9_3).f2))) (fun _ hk => hk.2) (.int .i64 ((rd_T53 x3_1 x9_3).f3))) (fun _ hk => trivial)⟩, ⟨by (with_reducible repeat (first | refine blk_drewN ?_ _ | refine blk_drew ?_ | refine blk_alloc ?_ _)); refine blk_far ?_ NB544_547.out _; (with_reducible repeat (first | refine blk_drewN ?_ _ | refine blk_drew ?_ | refine blk_alloc ?_ _)); refine blk_far ?_ NB544_547.out _; (with_reducible repeat (first | refine blk_drewN ?_ _ | refine blk_drew ?_ | refine blk_alloc ?_ _)); refine blk_far ?_ NB544_547.out _; (with_reducible repeat (first | refine blk_drewN ?_ _ | refine blk_drew ?_ | refine blk_alloc ?_ _)); refine blk_far ?_ NB544_547.out _; (with_reducible repeat (first | refine blk_drewN ?_ _ | refine blk_drew ?_ | refine blk_alloc ?_ _)); exact BK544.out⟩, ⟨by (with_reducible repeat (first | refine blk_drewN ?_ _ | refine blk_drew ?_ | refine blk_alloc ?_ _)); refine blk_put (cs := #[.int .i64 ((rd_T53 x3_1 x9_3).f0), .string ((rd_T53 x3_1 x9_3).f1), .int .i64 ((rd_T53 x3_1 x9_3).f2), .int .i64 0]) ?_ 3 _ rfl; (with_reducible repeat (first | refine blk_drewN ?_ _ | refine blk_drew ?_ | refine blk_alloc ?_ _)); refine blk_put (cs := #[.int .i64 ((rd_T53 x3_1 x9_3).f0), .string ((rd_T53 x3_1 x9_3).f1), .int .i64 0, .int .i64 0]) ?_ 2 _ rfl; (with_reducible repeat (first | refine blk_drewN ?_ _ | refine blk_drew ?_ | refine blk_alloc ?_ _)); refine blk_put (cs := #[.int .i64 ((rd_T53 x3_1 x9_3).f0), .string (⟨#[]⟩ : ByteArray), .int .i64 0, .int .i64 0]) ?_ 1 _ rfl; (with_reducible repeat (first | refine blk_drewN ?_ _ | refine blk_drew ?_ | refine blk_alloc ?_ _)); refine blk_put (cs := #[.int .i64 0, .string (⟨#[]⟩ : ByteArray), .int .i64 0, .int .i64 0]) ?_ 0 _ rfl; (with_reducible repeat (first | refine blk_drewN ?_ _ | refine blk_drew ?_ | refine blk_alloc ?_ _)); exact BK547.out⟩, ⟨by repeat (first | (with_reducible first | exact HB.out | apply below_alloc | apply pw_below_drewN | apply below_drew1 | refine below_set ?_ GE544.out | refine below_set ?_ GE547.out) | exact HB.out)⟩⟩
                   ·
                    rw [if_neg c44] at H
                    exact absurd H (by simp)
                  ·
                   rw [if_neg c43] at H
                   exact absurd H (by simp)
                 ·
                  rw [if_neg c41] at H
                  have c41b0 : decide (0 < x9_3) = false := decide_eq_false c41
                  clear c41
                  by_cases c55 : (wrap64 (x9_3 + 2)) < (x3_1.length : Int)
                  ·
                   rw [if_pos c55] at H
                   have c55b0 : decide ((wrap64 (x9_3 + 2)) < (x3_1.length : Int)) = true := decide_eq_true c55
                   clear c55
                   obtain ⟨ji56, hji56⟩ : ∃ j_ : Int, (wrap64 (x9_3 + 2)) = j_ := ⟨_, rfl⟩
                   replace H : (if 0 ≤ (ji56) then (numerarylaw14_ItemMinutes.j3 k3 x3_1 x9_3 ((rd_T53 x3_1 x9_3).f1) (((rd_T53 x3_1 (ji56)).f1).toList == ([115] : List UInt8)) t533 t534 t535 t536 t537 t538 t539) else (none)) = some r := by first | (rw [hji56] at H; exact H) | (simp only [hji56] at H ⊢; exact H)
                   (try rw [hji56] at c55b0)
                   have hji56w : (IntKind.i64.wrap (x9_3 + 2)) = ji56 := (i64_w _).trans hji56
                   by_cases c57 : 0 ≤ (ji56)
                   ·
                    rw [if_pos c57] at H
                    have c57b0 : decide (0 ≤ (ji56)) = true := decide_eq_true c57
                    clear c57
                    have H' := Aside0.mk H
                    clear H
                    have hnb58 := NB547_544.out
                    have hnc58 := NB544_547.out
                    have hcz59_0 : w36.cell? ⟨gb547, 0, none⟩ = some (.int .i64 0) := (blk_cell BK547.out 0).trans rfl
                    have hcz59_1 : w36.cell? ⟨gb547, 1, none⟩ = some (.string (⟨#[]⟩ : ByteArray)) := (blk_cell BK547.out 1).trans rfl
                    have hcz59_2 : w36.cell? ⟨gb547, 2, none⟩ = some (.int .i64 0) := (blk_cell BK547.out 2).trans rfl
                    have hcz59_3 : w36.cell? ⟨gb547, 3, none⟩ = some (.int .i64 0) := (blk_cell BK547.out 3).trans rfl
                    have hfz59_0 := blk_frozen BK547.out 0
                    have hfz59_1 := blk_frozen BK547.out 1
                    have hfz59_2 := blk_frozen BK547.out 2
                    have hfz59_3 := blk_frozen BK547.out 3
                    have p550 : 0 ≤ ((ji56) : Int) := of_decide_eq_true (by first | (with_reducible assumption) | assumption)
                    have q550 : (ji56) < (x3_1.length : Int) := of_decide_eq_true (by first | (with_reducible assumption) | assumption)
                    obtain ⟨ad550, e550, hx550_0, hx550_1, hx550_2, hx550_3⟩ := at_T53 (Kd.R_reads' HO_3.out).2.2 (ji56) p550 q550
                    obtain rfl : ad546 = ad550 := (by injection e550)
                    have hn550_0 : ad546.block ≠ gb547 := Kd.own_blk ((by first | exact Kd.R_ne HO_3.out BK547.out (by decide) | (intro he_; have h_ := HO_3.out.1 _ he_.symm; first | exact h_ rfl | exact h_.2 rfl | exact h_.1 rfl | exact h_.2.2 rfl | exact h_.1.2 rfl)))
                    have hn550_1 : ad546.block ≠ gb547 := Kd.own_blk ((by first | exact Kd.R_ne HO_3.out BK547.out (by decide) | (intro he_; have h_ := HO_3.out.1 _ he_.symm; first | exact h_ rfl | exact h_.2 rfl | exact h_.1 rfl | exact h_.2.2 rfl | exact h_.1.2 rfl)))
                    have hn550_2 : ad546.block ≠ gb547 := Kd.own_blk ((by first | exact Kd.R_ne HO_3.out BK547.out (by decide) | (intro he_; have h_ := HO_3.out.1 _ he_.symm; first | exact h_ rfl | exact h_.2 rfl | exact h_.1 rfl | exact h_.2.2 rfl | exact h_.1.2 rfl)))
                    have hn550_3 : ad546.block ≠ gb547 := Kd.own_blk ((by first | exact Kd.R_ne HO_3.out BK547.out (by decide) | (intro he_; have h_ := HO_3.out.1 _ he_.symm; first | exact h_ rfl | exact h_.2 rfl | exact h_.1 rfl | exact h_.2.2 rfl | exact h_.1.2 rfl)))
                    replace hx550_0 := (cell_far (p := ⟨gb547, 0, none⟩) (by first | (rw [add_block]; exact hn550_0) | (show (Addr.add _ _).block ≠ _; rw [add_block]; exact hn550_0) | exact hn550_0) (.int .i64 ((rd_T53 x3_1 x9_3).f0))).trans hx550_0
                    replace hx550_1 := (cell_far (p := ⟨gb547, 0, none⟩) (by first | (rw [add_block]; exact hn550_0) | (show (Addr.add _ _).block ≠ _; rw [add_block]; exact hn550_0) | exact hn550_0) (.int .i64 ((rd_T53 x3_1 x9_3).f0))).trans hx550_1
                    replace hx550_2 := (cell_far (p := ⟨gb547, 0, none⟩) (by first | (rw [add_block]; exact hn550_0) | (show (Addr.add _ _).block ≠ _; rw [add_block]; exact hn550_0) | exact hn550_0) (.int .i64 ((rd_T53 x3_1 x9_3).f0))).trans hx550_2
                    replace hx550_3 := (cell_far (p := ⟨gb547, 0, none⟩) (by first | (rw [add_block]; exact hn550_0) | (show (Addr.add _ _).block ≠ _; rw [add_block]; exact hn550_0) | exact hn550_0) (.int .i64 ((rd_T53 x3_1 x9_3).f0))).trans hx550_3
                    replace hx550_0 := (cell_far (p := ⟨gb547, 1, none⟩) (by first | (rw [add_block]; exact hn550_1) | (show (Addr.add _ _).block ≠ _; rw [add_block]; exact hn550_1) | exact hn550_1) (.string ((rd_T53 x3_1 x9_3).f1))).trans hx550_0
                    replace hx550_1 := (cell_far (p := ⟨gb547, 1, none⟩) (by first | (rw [add_block]; exact hn550_1) | (show (Addr.add _ _).block ≠ _; rw [add_block]; exact hn550_1) | exact hn550_1) (.string ((rd_T53 x3_1 x9_3).f1))).trans hx550_1
                    replace hx550_2 := (cell_far (p := ⟨gb547, 1, none⟩) (by first | (rw [add_block]; exact hn550_1) | (show (Addr.add _ _).block ≠ _; rw [add_block]; exact hn550_1) | exact hn550_1) (.string ((rd_T53 x3_1 x9_3).f1))).trans hx550_2
                    replace hx550_3 := (cell_far (p := ⟨gb547, 1, none⟩) (by first | (rw [add_block]; exact hn550_1) | (show (Addr.add _ _).block ≠ _; rw [add_block]; exact hn550_1) | exact hn550_1) (.string ((rd_T53 x3_1 x9_3).f1))).trans hx550_3
                    replace hx550_0 := (cell_far (p := ⟨gb547, 2, none⟩) (by first | (rw [add_block]; exact hn550_2) | (show (Addr.add _ _).block ≠ _; rw [add_block]; exact hn550_2) | exact hn550_2) (.int .i64 ((rd_T53 x3_1 x9_3).f2))).trans hx550_0
                    replace hx550_1 := (cell_far (p := ⟨gb547, 2, none⟩) (by first | (rw [add_block]; exact hn550_2) | (show (Addr.add _ _).block ≠ _; rw [add_block]; exact hn550_2) | exact hn550_2) (.int .i64 ((rd_T53 x3_1 x9_3).f2))).trans hx550_1
                    replace hx550_2 := (cell_far (p := ⟨gb547, 2, none⟩) (by first | (rw [add_block]; exact hn550_2) | (show (Addr.add _ _).block ≠ _; rw [add_block]; exact hn550_2) | exact hn550_2) (.int .i64 ((rd_T53 x3_1 x9_3).f2))).trans hx550_2
                    replace hx550_3 := (cell_far (p := ⟨gb547, 2, none⟩) (by first | (rw [add_block]; exact hn550_2) | (show (Addr.add _ _).block ≠ _; rw [add_block]; exact hn550_2) | exact hn550_2) (.int .i64 ((rd_T53 x3_1 x9_3).f2))).trans hx550_3
                    replace hx550_0 := (cell_far (p := ⟨gb547, 3, none⟩) (by first | (rw [add_block]; exact hn550_3) | (show (Addr.add _ _).block ≠ _; rw [add_block]; exact hn550_3) | exact hn550_3) (.int .i64 ((rd_T53 x3_1 x9_3).f3))).trans hx550_0
                    replace hx550_1 := (cell_far (p := ⟨gb547, 3, none⟩) (by first | (rw [add_block]; exact hn550_3) | (show (Addr.add _ _).block ≠ _; rw [add_block]; exact hn550_3) | exact hn550_3) (.int .i64 ((rd_T53 x3_1 x9_3).f3))).trans hx550_1
                    replace hx550_2 := (cell_far (p := ⟨gb547, 3, none⟩) (by first | (rw [add_block]; exact hn550_3) | (show (Addr.add _ _).block ≠ _; rw [add_block]; exact hn550_3) | exact hn550_3) (.int .i64 ((rd_T53 x3_1 x9_3).f3))).trans hx550_2
                    replace hx550_3 := (cell_far (p := ⟨gb547, 3, none⟩) (by first | (rw [add_block]; exact hn550_3) | (show (Addr.add _ _).block ≠ _; rw [add_block]; exact hn550_3) | exact hn550_3) (.int .i64 ((rd_T53 x3_1 x9_3).f3))).trans hx550_3
                    clear hn550_0
                    clear hn550_1
                    clear hn550_2
                    clear hn550_3
                    replace p550 := eq_true p550
                    replace q550 := eq_true q550
                    go_wp2
                    go_meet
                    case rel => exact ⟨_, ((((rd_T53 x3_1 (ji56)).f1).toList == ([115] : List UInt8))), (by first | rfl | (simp; done) | (simp only [← hji56] <;> (first | rfl | simp)) | (simp [*]; done)), H', ⟨by have := HK1.out; have := HJ18.out; have := HK3.out; first | omega | exact Nat.le_refl _⟩, ⟨by (with_reducible repeat (first | apply Kd.R_alloc | apply Kd.R_drewN | apply Kd.R_drew)); exact Kd.R_mono (Kd.R_far (p := ⟨gb547, 3, none⟩) (Kd.R_far (p := ⟨gb547, 2, none⟩) (Kd.R_far (p := ⟨gb547, 1, none⟩) (Kd.R_far (p := ⟨gb547, 0, none⟩) (Kd.R_mono HO_3.out (fun k_ hk => (⟨hk, hk.2⟩ : _ ∧ k_ ≠ gb547))) (fun _ hk => hk.2) (.int .i64 ((rd_T53 x3_1 x9_3).f0))) (fun _ hk => hk.2) (.string ((rd_T53 x3_1 x9_3).f1))) (fun _ hk => hk.2) (.int .i64 ((rd_T53 x3_1 x9_3).f2))) (fun _ hk => hk.2) (.int .i64 ((rd_T53 x3_1 x9_3).f3))) (fun _ hk => hk.1.2)⟩, ⟨by (with_reducible repeat (first | apply Kd.R_alloc | apply Kd.R_drewN | apply Kd.R_drew)); exact Kd.R_mono (Kd.R_far (p := ⟨gb547, 3, none⟩) (Kd.R_far (p := ⟨gb547, 2, none⟩) (Kd.R_far (p := ⟨gb547, 1, none⟩) (Kd.R_far (p := ⟨gb547, 0, none⟩) (Kd.R_types HO_545006.out BK547.out (by decide)) (fun _ hk => hk.2) (.int .i64 ((rd_T53 x3_1 x9_3).f0))) (fun _ hk => hk.2) (.string ((rd_T53 x3_1 x9_3).f1))) (fun _ hk => hk.2) (.int .i64 ((rd_T53 x3_1 x9_3).f2))) (fun _ hk => hk.2) (.int .i64 ((rd_T53 x3_1 x9_3).f3))) (fun _ hk => trivial)⟩, ⟨by (with_reducible repeat (first | refine blk_drewN ?_ _ | refine blk_drew ?_ | refine blk_alloc ?_ _)); refine blk_far ?_ NB544_547.out _; (with_reducible repeat (first | refine blk_drewN ?_ _ | refine blk_drew ?_ | refine blk_alloc ?_ _)); refine blk_far ?_ NB544_547.out _; (with_reducible repeat (first | refine blk_drewN ?_ _ | refine blk_drew ?_ | refine blk_alloc ?_ _)); refine blk_far ?_ NB544_547.out _; (with_reducible repeat (first | refine blk_drewN ?_ _ | refine blk_drew ?_ | refine blk_alloc ?_ _)); refine blk_far ?_ NB544_547.out _; (with_reducible repeat (first | refine blk_drewN ?_ _ | refine blk_drew ?_ | refine blk_alloc ?_ _)); exact BK544.out⟩, ⟨by (with_reducible repeat (first | refine blk_drewN ?_ _ | refine blk_drew ?_ | refine blk_alloc ?_ _)); refine blk_put (cs := #[.int .i64 ((rd_T53 x3_1 x9_3).f0), .string ((rd_T53 x3_1 x9_3).f1), .int .i64 ((rd_T53 x3_1 x9_3).f2), .int .i64 0]) ?_ 3 _ rfl; (with_reducible repeat (first | refine blk_drewN ?_ _ | refine blk_drew ?_ | refine blk_alloc ?_ _)); refine blk_put (cs := #[.int .i64 ((rd_T53 x3_1 x9_3).f0), .string ((rd_T53 x3_1 x9_3).f1), .int .i64 0, .int .i64 0]) ?_ 2 _ rfl; (with_reducible repeat (first | refine blk_drewN ?_ _ | refine blk_drew ?_ | refine blk_alloc ?_ _)); refine blk_put (cs := #[.int .i64 ((rd_T53 x3_1 x9_3).f0), .string (⟨#[]⟩ : ByteArray), .int .i64 0, .int .i64 0]) ?_ 1 _ rfl; (with_reducible repeat (first | refine blk_drewN ?_ _ | refine blk_drew ?_ | refine blk_alloc ?_ _)); refine blk_put (cs := #[.int .i64 0, .string (⟨#[]⟩ : ByteArray), .int .i64 0, .int .i64 0]) ?_ 0 _ rfl; (with_reducible repeat (first | refine blk_drewN ?_ _ | refine blk_drew ?_ | refine blk_alloc ?_ _)); exact BK547.out⟩, ⟨by repeat (first | (with_reducible first | exact HB.out | apply below_alloc | apply pw_below_drewN | apply below_drew1 | refine below_set ?_ GE544.out | refine below_set ?_ GE547.out) | exact HB.out)⟩⟩
                   ·
                    rw [if_neg c57] at H
                    exact absurd H (by simp)
                  ·
                   rw [if_neg c55] at H
                   have c55b0 : decide ((wrap64 (x9_3 + 2)) < (x3_1.length : Int)) = false := decide_eq_false c55
                   clear c55
                   have H' := Aside0.mk H
                   clear H
                   have hnb60 := NB547_544.out
                   have hnc60 := NB544_547.out
                   have hcz61_0 : w36.cell? ⟨gb547, 0, none⟩ = some (.int .i64 0) := (blk_cell BK547.out 0).trans rfl
                   have hcz61_1 : w36.cell? ⟨gb547, 1, none⟩ = some (.string (⟨#[]⟩ : ByteArray)) := (blk_cell BK547.out 1).trans rfl
                   have hcz61_2 : w36.cell? ⟨gb547, 2, none⟩ = some (.int .i64 0) := (blk_cell BK547.out 2).trans rfl
                   have hcz61_3 : w36.cell? ⟨gb547, 3, none⟩ = some (.int .i64 0) := (blk_cell BK547.out 3).trans rfl
                   have hfz61_0 := blk_frozen BK547.out 0
                   have hfz61_1 := blk_frozen BK547.out 1
                   have hfz61_2 := blk_frozen BK547.out 2
                   have hfz61_3 := blk_frozen BK547.out 3
                   go_wp2
                   go_meet
                   case rel => exact ⟨_, (false), (by first | rfl | (simp; done) | (simp [*]; done) | (simp only [isEmpty_ne, Bool.not_not]) | (simp only [isEmpty_ne])), H', ⟨by have := HK1.out; have := HJ18.out; have := HK3.out; first | omega | exact Nat.le_refl _⟩, ⟨by (with_reducible repeat (first | apply Kd.R_alloc | apply Kd.R_drewN | apply Kd.R_drew)); exact Kd.R_mono (Kd.R_far (p := ⟨gb547, 3, none⟩) (Kd.R_far (p := ⟨gb547, 2, none⟩) (Kd.R_far (p := ⟨gb547, 1, none⟩) (Kd.R_far (p := ⟨gb547, 0, none⟩) (Kd.R_mono HO_3.out (fun k_ hk => (⟨hk, hk.2⟩ : _ ∧ k_ ≠ gb547))) (fun _ hk => hk.2) (.int .i64 ((rd_T53 x3_1 x9_3).f0))) (fun _ hk => hk.2) (.string ((rd_T53 x3_1 x9_3).f1))) (fun _ hk => hk.2) (.int .i64 ((rd_T53 x3_1 x9_3).f2))) (fun _ hk => hk.2) (.int .i64 ((rd_T53 x3_1 x9_3).f3))) (fun _ hk => hk.1.2)⟩, ⟨by (with_reducible repeat (first | apply Kd.R_alloc | apply Kd.R_drewN | apply Kd.R_drew)); exact Kd.R_mono (Kd.R_far (p := ⟨gb547, 3, none⟩) (Kd.R_far (p := ⟨gb547, 2, none⟩) (Kd.R_far (p := ⟨gb547, 1, none⟩) (Kd.R_far (p := ⟨gb547, 0, none⟩) (Kd.R_types HO_545006.out BK547.out (by decide)) (fun _ hk => hk.2) (.int .i64 ((rd_T53 x3_1 x9_3).f0))) (fun _ hk => hk.2) (.string ((rd_T53 x3_1 x9_3).f1))) (fun _ hk => hk.2) (.int .i64 ((rd_T53 x3_1 x9_3).f2))) (fun _ hk => hk.2) (.int .i64 ((rd_T53 x3_1 x9_3).f3))) (fun _ hk => trivial)⟩, ⟨by (with_reducible repeat (first | refine blk_drewN ?_ _ | refine blk_drew ?_ | refine blk_alloc ?_ _)); refine blk_far ?_ NB544_547.out _; (with_reducible repeat (first | refine blk_drewN ?_ _ | refine blk_drew ?_ | refine blk_alloc ?_ _)); refine blk_far ?_ NB544_547.out _; (with_reducible repeat (first | refine blk_drewN ?_ _ | refine blk_drew ?_ | refine blk_alloc ?_ _)); refine blk_far ?_ NB544_547.out _; (with_reducible repeat (first | refine blk_drewN ?_ _ | refine blk_drew ?_ | refine blk_alloc ?_ _)); refine blk_far ?_ NB544_547.out _; (with_reducible repeat (first | refine blk_drewN ?_ _ | refine blk_drew ?_ | refine blk_alloc ?_ _)); exact BK544.out⟩, ⟨by (with_reducible repeat (first | refine blk_drewN ?_ _ | refine blk_drew ?_ | refine blk_alloc ?_ _)); refine blk_put (cs := #[.int .i64 ((rd_T53 x3_1 x9_3).f0), .string ((rd_T53 x3_1 x9_3).f1), .int .i64 ((rd_T53 x3_1 x9_3).f2), .int .i64 0]) ?_ 3 _ rfl; (with_reducible repeat (first | refine blk_drewN ?_ _ | refine blk_drew ?_ | refine blk_alloc ?_ _)); refine blk_put (cs := #[.int .i64 ((rd_T53 x3_1 x9_3).f0), .string ((rd_T53 x3_1 x9_3).f1), .int .i64 0, .int .i64 0]) ?_ 2 _ rfl; (with_reducible repeat (first | refine blk_drewN ?_ _ | refine blk_drew ?_ | refine blk_alloc ?_ _)); refine blk_put (cs := #[.int .i64 ((rd_T53 x3_1 x9_3).f0), .string (⟨#[]⟩ : ByteArray), .int .i64 0, .int .i64 0]) ?_ 1 _ rfl; (with_reducible repeat (first | refine blk_drewN ?_ _ | refine blk_drew ?_ | refine blk_alloc ?_ _)); refine blk_put (cs := #[.int .i64 0, .string (⟨#[]⟩ : ByteArray), .int .i64 0, .int .i64 0]) ?_ 0 _ rfl; (with_reducible repeat (first | refine blk_drewN ?_ _ | refine blk_drew ?_ | refine blk_alloc ?_ _)); exact BK547.out⟩, ⟨by repeat (first | (with_reducible first | exact HB.out | apply below_alloc | apply pw_below_drewN | apply below_drew1 | refine below_set ?_ GE544.out | refine below_set ?_ GE547.out) | exact HB.out)⟩⟩
                ·
                 rw [if_neg c40] at H
                 have c40b0 : decide (((rd_T53 x3_1 x9_3).f2) ≤ 2) = false := decide_eq_false c40
                 clear c40
                 have H' := Aside0.mk H
                 clear H
                 have hnb62 := NB547_544.out
                 have hnc62 := NB544_547.out
                 have hcz63_0 : w36.cell? ⟨gb547, 0, none⟩ = some (.int .i64 0) := (blk_cell BK547.out 0).trans rfl
                 have hcz63_1 : w36.cell? ⟨gb547, 1, none⟩ = some (.string (⟨#[]⟩ : ByteArray)) := (blk_cell BK547.out 1).trans rfl
                 have hcz63_2 : w36.cell? ⟨gb547, 2, none⟩ = some (.int .i64 0) := (blk_cell BK547.out 2).trans rfl
                 have hcz63_3 : w36.cell? ⟨gb547, 3, none⟩ = some (.int .i64 0) := (blk_cell BK547.out 3).trans rfl
                 have hfz63_0 := blk_frozen BK547.out 0
                 have hfz63_1 := blk_frozen BK547.out 1
                 have hfz63_2 := blk_frozen BK547.out 2
                 have hfz63_3 := blk_frozen BK547.out 3
                 go_wp2
                 go_meet
                 case rel => exact ⟨_, (false), (by first | rfl | (simp; done) | (simp [*]; done) | (simp only [isEmpty_ne, Bool.not_not]) | (simp only [isEmpty_ne])), H', ⟨by have := HK1.out; have := HJ18.out; have := HK3.out; first | omega | exact Nat.le_refl _⟩, ⟨by (with_reducible repeat (first | apply Kd.R_alloc | apply Kd.R_drewN | apply Kd.R_drew)); exact Kd.R_mono (Kd.R_far (p := ⟨gb547, 3, none⟩) (Kd.R_far (p := ⟨gb547, 2, none⟩) (Kd.R_far (p := ⟨gb547, 1, none⟩) (Kd.R_far (p := ⟨gb547, 0, none⟩) (Kd.R_mono HO_3.out (fun k_ hk => (⟨hk, hk.2⟩ : _ ∧ k_ ≠ gb547))) (fun _ hk => hk.2) (.int .i64 ((rd_T53 x3_1 x9_3).f0))) (fun _ hk => hk.2) (.string ((rd_T53 x3_1 x9_3).f1))) (fun _ hk => hk.2) (.int .i64 ((rd_T53 x3_1 x9_3).f2))) (fun _ hk => hk.2) (.int .i64 ((rd_T53 x3_1 x9_3).f3))) (fun _ hk => hk.1.2)⟩, ⟨by (with_reducible repeat (first | apply Kd.R_alloc | apply Kd.R_drewN | apply Kd.R_drew)); exact Kd.R_mono (Kd.R_far (p := ⟨gb547, 3, none⟩) (Kd.R_far (p := ⟨gb547, 2, none⟩) (Kd.R_far (p := ⟨gb547, 1, none⟩) (Kd.R_far (p := ⟨gb547, 0, none⟩) (Kd.R_types HO_545006.out BK547.out (by decide)) (fun _ hk => hk.2) (.int .i64 ((rd_T53 x3_1 x9_3).f0))) (fun _ hk => hk.2) (.string ((rd_T53 x3_1 x9_3).f1))) (fun _ hk => hk.2) (.int .i64 ((rd_T53 x3_1 x9_3).f2))) (fun _ hk => hk.2) (.int .i64 ((rd_T53 x3_1 x9_3).f3))) (fun _ hk => trivial)⟩, ⟨by (with_reducible repeat (first | refine blk_drewN ?_ _ | refine blk_drew ?_ | refine blk_alloc ?_ _)); refine blk_far ?_ NB544_547.out _; (with_reducible repeat (first | refine blk_drewN ?_ _ | refine blk_drew ?_ | refine blk_alloc ?_ _)); refine blk_far ?_ NB544_547.out _; (with_reducible repeat (first | refine blk_drewN ?_ _ | refine blk_drew ?_ | refine blk_alloc ?_ _)); refine blk_far ?_ NB544_547.out _; (with_reducible repeat (first | refine blk_drewN ?_ _ | refine blk_drew ?_ | refine blk_alloc ?_ _)); refine blk_far ?_ NB544_547.out _; (with_reducible repeat (first | refine blk_drewN ?_ _ | refine blk_drew ?_ | refine blk_alloc ?_ _)); exact BK544.out⟩, ⟨by (with_reducible repeat (first | refine blk_drewN ?_ _ | refine blk_drew ?_ | refine blk_alloc ?_ _)); refine blk_put (cs := #[.int .i64 ((rd_T53 x3_1 x9_3).f0), .string ((rd_T53 x3_1 x9_3).f1), .int .i64 ((rd_T53 x3_1 x9_3).f2), .int .i64 0]) ?_ 3 _ rfl; (with_reducible repeat (first | refine blk_drewN ?_ _ | refine blk_drew ?_ | refine blk_alloc ?_ _)); refine blk_put (cs := #[.int .i64 ((rd_T53 x3_1 x9_3).f0), .string ((rd_T53 x3_1 x9_3).f1), .int .i64 0, .int .i64 0]) ?_ 2 _ rfl; (with_reducible repeat (first | refine blk_drewN ?_ _ | refine blk_drew ?_ | refine blk_alloc ?_ _)); refine blk_put (cs := #[.int .i64 ((rd_T53 x3_1 x9_3).f0), .string (⟨#[]⟩ : ByteArray), .int .i64 0, .int .i64 0]) ?_ 1 _ rfl; (with_reducible repeat (first | refine blk_drewN ?_ _ | refine blk_drew ?_ | refine blk_alloc ?_ _)); refine blk_put (cs := #[.int .i64 0, .string (⟨#[]⟩ : ByteArray), .int .i64 0, .int .i64 0]) ?_ 0 _ rfl; (with_reducible repeat (first | refine blk_drewN ?_ _ | refine blk_drew ?_ | refine blk_alloc ?_ _)); exact BK547.out⟩, ⟨by repeat (first | (with_reducible first | exact HB.out | apply below_alloc | apply pw_below_drewN | apply below_drew1 | refine below_set ?_ GE544.out | refine below_set ?_ GE547.out) | exact HB.out)⟩⟩
               ·
                rw [if_neg c39] at H
                have c39b0 : (((rd_T53 x3_1 x9_3).f1).toList == ([109] : List UInt8)) = false := beq_eq_false_iff_ne.mpr c39
                have c39b1 : (((rd_T53 x3_1 x9_3).f1).toList != ([109] : List UInt8)) = true := bne_iff_ne.mpr c39
                (first | rw [c39b0] | (simp only [i64_w, i32_w]; rw [c39b0]) | skip)
                have H' := Aside0.mk H
                clear H
                have hnb64 := NB547_544.out
                have hnc64 := NB544_547.out
                have hcz65_0 : w36.cell? ⟨gb547, 0, none⟩ = some (.int .i64 0) := (blk_cell BK547.out 0).trans rfl
                have hcz65_1 : w36.cell? ⟨gb547, 1, none⟩ = some (.string (⟨#[]⟩ : ByteArray)) := (blk_cell BK547.out 1).trans rfl
                have hcz65_2 : w36.cell? ⟨gb547, 2, none⟩ = some (.int .i64 0) := (blk_cell BK547.out 2).trans rfl
                have hcz65_3 : w36.cell? ⟨gb547, 3, none⟩ = some (.int .i64 0) := (blk_cell BK547.out 3).trans rfl
                have hfz65_0 := blk_frozen BK547.out 0
                have hfz65_1 := blk_frozen BK547.out 1
                have hfz65_2 := blk_frozen BK547.out 2
                have hfz65_3 := blk_frozen BK547.out 3
                go_wp2
                go_meet
                case rel => exact ⟨_, (false), (by first | rfl | (simp; done) | (simp [*]; done) | (simp only [isEmpty_ne, Bool.not_not]) | (simp only [isEmpty_ne])), H', ⟨by have := HK1.out; have := HJ18.out; have := HK3.out; first | omega | exact Nat.le_refl _⟩, ⟨by (with_reducible repeat (first | apply Kd.R_alloc | apply Kd.R_drewN | apply Kd.R_drew)); exact Kd.R_mono (Kd.R_far (p := ⟨gb547, 3, none⟩) (Kd.R_far (p := ⟨gb547, 2, none⟩) (Kd.R_far (p := ⟨gb547, 1, none⟩) (Kd.R_far (p := ⟨gb547, 0, none⟩) (Kd.R_mono HO_3.out (fun k_ hk => (⟨hk, hk.2⟩ : _ ∧ k_ ≠ gb547))) (fun _ hk => hk.2) (.int .i64 ((rd_T53 x3_1 x9_3).f0))) (fun _ hk => hk.2) (.string ((rd_T53 x3_1 x9_3).f1))) (fun _ hk => hk.2) (.int .i64 ((rd_T53 x3_1 x9_3).f2))) (fun _ hk => hk.2) (.int .i64 ((rd_T53 x3_1 x9_3).f3))) (fun _ hk => hk.1.2)⟩, ⟨by (with_reducible repeat (first | apply Kd.R_alloc | apply Kd.R_drewN | apply Kd.R_drew)); exact Kd.R_mono (Kd.R_far (p := ⟨gb547, 3, none⟩) (Kd.R_far (p := ⟨gb547, 2, none⟩) (Kd.R_far (p := ⟨gb547, 1, none⟩) (Kd.R_far (p := ⟨gb547, 0, none⟩) (Kd.R_types HO_545006.out BK547.out (by decide)) (fun _ hk => hk.2) (.int .i64 ((rd_T53 x3_1 x9_3).f0))) (fun _ hk => hk.2) (.string ((rd_T53 x3_1 x9_3).f1))) (fun _ hk => hk.2) (.int .i64 ((rd_T53 x3_1 x9_3).f2))) (fun _ hk => hk.2) (.int .i64 ((rd_T53 x3_1 x9_3).f3))) (fun _ hk => trivial)⟩, ⟨by (with_reducible repeat (first | refine blk_drewN ?_ _ | refine blk_drew ?_ | refine blk_alloc ?_ _)); refine blk_far ?_ NB544_547.out _; (with_reducible repeat (first | refine blk_drewN ?_ _ | refine blk_drew ?_ | refine blk_alloc ?_ _)); refine blk_far ?_ NB544_547.out _; (with_reducible repeat (first | refine blk_drewN ?_ _ | refine blk_drew ?_ | refine blk_alloc ?_ _)); refine blk_far ?_ NB544_547.out _; (with_reducible repeat (first | refine blk_drewN ?_ _ | refine blk_drew ?_ | refine blk_alloc ?_ _)); refine blk_far ?_ NB544_547.out _; (with_reducible repeat (first | refine blk_drewN ?_ _ | refine blk_drew ?_ | refine blk_alloc ?_ _)); exact BK544.out⟩, ⟨by (with_reducible repeat (first | refine blk_drewN ?_ _ | refine blk_drew ?_ | refine blk_alloc ?_ _)); refine blk_put (cs := #[.int .i64 ((rd_T53 x3_1 x9_3).f0), .string ((rd_T53 x3_1 x9_3).f1), .int .i64 ((rd_T53 x3_1 x9_3).f2), .int .i64 0]) ?_ 3 _ rfl; (with_reducible repeat (first | refine blk_drewN ?_ _ | refine blk_drew ?_ | refine blk_alloc ?_ _)); refine blk_put (cs := #[.int .i64 ((rd_T53 x3_1 x9_3).f0), .string ((rd_T53 x3_1 x9_3).f1), .int .i64 0, .int .i64 0]) ?_ 2 _ rfl; (with_reducible repeat (first | refine blk_drewN ?_ _ | refine blk_drew ?_ | refine blk_alloc ?_ _)); refine blk_put (cs := #[.int .i64 ((rd_T53 x3_1 x9_3).f0), .string (⟨#[]⟩ : ByteArray), .int .i64 0, .int .i64 0]) ?_ 1 _ rfl; (with_reducible repeat (first | refine blk_drewN ?_ _ | refine blk_drew ?_ | refine blk_alloc ?_ _)); refine blk_put (cs := #[.int .i64 0, .string (⟨#[]⟩ : ByteArray), .int .i64 0, .int .i64 0]) ?_ 0 _ rfl; (with_reducible repeat (first | refine blk_drewN ?_ _ | refine blk_drew ?_ | refine blk_alloc ?_ _)); exact BK547.out⟩, ⟨by repeat (first | (with_reducible first | exact HB.out | apply below_alloc | apply pw_below_drewN | apply below_drew1 | refine below_set ?_ GE544.out | refine below_set ?_ GE547.out) | exact HB.out)⟩⟩
              case rest =>
               clear HC35
               try clear c1
               try clear p1
               try clear q1
               try clear hx1
               try clear c2
               try clear p2
               try clear c3
               try clear c3b0
               try clear c3b1
               try clear c4
               try clear c4b0
               try clear c4b1
               try clear c5
               try clear p5
               try clear q5
               try clear hx5
               try clear c6
               try clear c6b0
               try clear p6
               try clear c7
               try clear c7b0
               try clear c8
               try clear c8b0
               try clear c10
               try clear c10b0
               try clear c11
               try clear c11b0
               try clear c12
               try clear p12
               try clear q12
               try clear hx12
               try clear c13
               try clear c26
               try clear c27
               try clear c27b0
               try clear c27b1
               try clear c32
               try clear c33
               try clear c33b0
               try clear c34
               try clear c34b0
               try clear c37
               try clear c39
               try clear c39b0
               try clear c39b1
               try clear c40
               try clear c40b0
               try clear c41
               try clear c41b0
               try clear c43
               try clear c43b0
               try clear c44
               try clear c44b0
               try clear c45
               try clear c45b0
               try clear c45b1
               try clear c46
               try clear c48
               try clear c48b0
               try clear c50
               try clear c50b0
               try clear c51
               try clear p52
               try clear q52
               try clear hx52
               try clear c53
               try clear p54
               try clear q54
               try clear hx54
               try clear c55
               try clear c55b0
               try clear p55
               try clear q55
               try clear hx55
               try clear c57
               try clear c57b0
               try clear c58
               try clear c60
               try clear c62
               try clear c64
               try clear p64
               try clear hcz23_0
               try clear hcz23_1
               try clear hcz23_2
               try clear hcz23_3
               try clear hcz23_4
               try clear hcz23_5
               try clear hcz23_6
               try clear hcz29_0
               try clear hcz29_1
               try clear hcz29_2
               try clear hcz29_3
               try clear hcz29_4
               try clear hcz29_5
               try clear hcz29_6
               try clear hcz38_0
               try clear hcz38_1
               try clear hcz38_2
               try clear hcz38_3
               try clear hcz47_0
               try clear hcz47_1
               try clear hcz47_2
               try clear hcz47_3
               try clear hcz52_0
               try clear hcz52_1
               try clear hcz52_2
               try clear hcz52_3
               try clear hcz54_0
               try clear hcz54_1
               try clear hcz54_2
               try clear hcz54_3
               try clear hcz59_0
               try clear hcz59_1
               try clear hcz59_2
               try clear hcz59_3
               try clear hcz61_0
               try clear hcz61_1
               try clear hcz61_2
               try clear hcz61_3
               try clear hcz63_0
               try clear hcz63_1
               try clear hcz63_2
               try clear hcz63_3
               try clear hcz65_0
               try clear hcz65_1
               try clear hcz65_2
               try clear hcz65_3
               try clear hfz23_0
               try clear hfz23_1
               try clear hfz23_2
               try clear hfz23_3
               try clear hfz23_4
               try clear hfz23_5
               try clear hfz23_6
               try clear hfz29_0
               try clear hfz29_1
               try clear hfz29_2
               try clear hfz29_3
               try clear hfz29_4
               try clear hfz29_5
               try clear hfz29_6
               try clear hfz38_0
               try clear hfz38_1
               try clear hfz38_2
               try clear hfz38_3
               try clear hfz47_0
               try clear hfz47_1
               try clear hfz47_2
               try clear hfz47_3
               try clear hfz52_0
               try clear hfz52_1
               try clear hfz52_2
               try clear hfz52_3
               try clear hfz54_0
               try clear hfz54_1
               try clear hfz54_2
               try clear hfz54_3
               try clear hfz59_0
               try clear hfz59_1
               try clear hfz59_2
               try clear hfz59_3
               try clear hfz61_0
               try clear hfz61_1
               try clear hfz61_2
               try clear hfz61_3
               try clear hfz63_0
               try clear hfz63_1
               try clear hfz63_2
               try clear hfz63_3
               try clear hfz65_0
               try clear hfz65_1
               try clear hfz65_2
               try clear hfz65_3
               try clear hx526_0
               try clear hx546_0
               try clear hx546_1
               try clear hx546_2
               try clear hx546_3
               try clear hx548_0
               try clear hx548_1
               try clear hx548_2
               try clear hx548_3
               try clear hx549_0
               try clear hx549_1
               try clear hx549_2
               try clear hx549_3
               try clear hx550_0
               try clear hx550_1
               try clear hx550_2
               try clear hx550_3
               try clear p1
               try clear p12
               try clear p2
               try clear p5
               try clear p526
               try clear p546
               try clear p548
               try clear p549
               try clear p550
               try clear p6
               try clear q1
               try clear q12
               try clear q5
               try clear q526
               try clear q546
               try clear q548
               try clear q549
               try clear q550
               obtain ⟨kq, x105_34, rfl, HA, HJ34, HO_3, HO_545006, BK544, BK547, HB⟩ := hcut
               cases kq with
               | zero => exact absurd HA.out (by simp [numerarylaw14_ItemMinutes.j3])
               | succ kj34 =>
                have H := HA.out
                clear HA
                simp only [numerarylaw14_ItemMinutes.j3] at H
                by_cases c66 : x105_34 = true
                ·
                 subst c66
                 have H1 : (if 0 ≤ x9_3 then (if x9_3 < (t539.length : Int) then (if ((rd_T55 t539 x9_3).f1).toList = ([110] : List UInt8) then (numerarylaw14_ItemMinutes.l1 kj34 x3_1 (wrap64 (x9_3 + 2)) t533 t534 t535 t536 t537 t538 t539) else (some false)) else (none)) else (none)) = some r := by rw [if_pos rfl] at H; exact H
                 clear H
                 have H := H1
                 clear H1
                 by_cases c67 : 0 ≤ x9_3
                 ·
                  rw [if_pos c67] at H
                  have c67b0 : decide (0 ≤ x9_3) = true := decide_eq_true c67
                  clear c67
                  by_cases c68 : x9_3 < (t539.length : Int)
                  ·
                   rw [if_pos c68] at H
                   have c68b0 : decide (x9_3 < (t539.length : Int)) = true := decide_eq_true c68
                   clear c68
                   by_cases c69 : ((rd_T55 t539 x9_3).f1).toList = ([110] : List UInt8)
                   ·
                    rw [if_pos c69] at H
                    have c69b0 : (((rd_T55 t539 x9_3).f1).toList == ([110] : List UInt8)) = true := beq_iff_eq.mpr c69
                    have c69b1 : (((rd_T55 t539 x9_3).f1).toList != ([110] : List UInt8)) = false := bne_eq_false_iff_eq.mpr c69
                    clear c69
                    have H' := Aside0.mk H
                    clear H
                    have hnb70 := NB544_547.out
                    have hnc70 := NB547_544.out
                    have hcz71_0 : wc.cell? ⟨gb544, 0, none⟩ = some (.int .i64 t533) := (blk_cell BK544.out 0).trans rfl
                    have hcz71_1 : wc.cell? ⟨gb544, 1, none⟩ = some (.int .i64 t534) := (blk_cell BK544.out 1).trans rfl
                    have hcz71_2 : wc.cell? ⟨gb544, 2, none⟩ = some (.int .i64 t535) := (blk_cell BK544.out 2).trans rfl
                    have hcz71_3 : wc.cell? ⟨gb544, 3, none⟩ = some (.bool t536) := (blk_cell BK544.out 3).trans rfl
                    have hcz71_4 : wc.cell? ⟨gb544, 4, none⟩ = some (.string t537) := (blk_cell BK544.out 4).trans rfl
                    have hcz71_5 : wc.cell? ⟨gb544, 5, none⟩ = some (.string t538) := (blk_cell BK544.out 5).trans rfl
                    have hcz71_6 : wc.cell? ⟨gb544, 6, none⟩ = some (.slice Ao24 t539.length co24) := (blk_cell BK544.out 6).trans rfl
                    have hfz71_0 := blk_frozen BK544.out 0
                    have hfz71_1 := blk_frozen BK544.out 1
                    have hfz71_2 := blk_frozen BK544.out 2
                    have hfz71_3 := blk_frozen BK544.out 3
                    have hfz71_4 := blk_frozen BK544.out 4
                    have hfz71_5 := blk_frozen BK544.out 5
                    have hfz71_6 := blk_frozen BK544.out 6
                    have p551 : 0 ≤ (x9_3 : Int) := of_decide_eq_true (by first | (with_reducible assumption) | assumption)
                    have q551 : x9_3 < (t539.length : Int) := of_decide_eq_true (by first | (with_reducible assumption) | assumption)
                    obtain ⟨ad551, e551, hx551_0, hx551_1, hx551_2⟩ := at_T55 (Kd.R_reads' HO_545006.out).2.2 x9_3 p551 q551
                    cases e551
                    replace p551 := eq_true p551
                    replace q551 := eq_true q551
                    go_wp2
                    go_roundg kj34
                    case measure => have := HK1.out; have := HJ18.out; have := HK3.out; have := HJ34.out; omega
                    case rel => exact ⟨(wrap64 (x9_3 + 2)), (by first | rfl | (simp; done) | (simp [*]; done) | (simp only [isEmpty_ne, Bool.not_not]) | (simp only [isEmpty_ne])), H', ⟨by have := HK1.out; have := HJ18.out; have := HK3.out; have := HJ34.out; omega⟩, ⟨by (with_reducible repeat (first | apply Kd.R_alloc | apply Kd.R_drewN | apply Kd.R_drew)); exact Kd.R_mono HO_3.out (fun _ hk => trivial)⟩, ⟨by (with_reducible repeat (first | apply Kd.R_alloc | apply Kd.R_drewN | apply Kd.R_drew)); exact HO_545006.out⟩, ⟨by (with_reducible repeat (first | refine blk_drewN ?_ _ | refine blk_drew ?_ | refine blk_alloc ?_ _)); exact BK544.out⟩, ⟨by repeat (first | (with_reducible first | exact HB.out | apply below_alloc | apply pw_below_drewN | apply below_drew1 | refine below_set ?_ GE544.out | refine below_set ?_ GE547.out) | exact HB.out)⟩⟩
                   ·
                    rw [if_neg c69] at H
                    have c69b0 : (((rd_T55 t539 x9_3).f1).toList == ([110] : List UInt8)) = false := beq_eq_false_iff_ne.mpr c69
                    have c69b1 : (((rd_T55 t539 x9_3).f1).toList != ([110] : List UInt8)) = true := bne_iff_ne.mpr c69
                    obtain rfl := Option.some.inj H
                    have hnb72 := NB544_547.out
                    have hnc72 := NB547_544.out
                    have hcz73_0 : wc.cell? ⟨gb544, 0, none⟩ = some (.int .i64 t533) := (blk_cell BK544.out 0).trans rfl
                    have hcz73_1 : wc.cell? ⟨gb544, 1, none⟩ = some (.int .i64 t534) := (blk_cell BK544.out 1).trans rfl
                    have hcz73_2 : wc.cell? ⟨gb544, 2, none⟩ = some (.int .i64 t535) := (blk_cell BK544.out 2).trans rfl
                    have hcz73_3 : wc.cell? ⟨gb544, 3, none⟩ = some (.bool t536) := (blk_cell BK544.out 3).trans rfl
                    have hcz73_4 : wc.cell? ⟨gb544, 4, none⟩ = some (.string t537) := (blk_cell BK544.out 4).trans rfl
                    have hcz73_5 : wc.cell? ⟨gb544, 5, none⟩ = some (.string t538) := (blk_cell BK544.out 5).trans rfl
                    have hcz73_6 : wc.cell? ⟨gb544, 6, none⟩ = some (.slice Ao24 t539.length co24) := (blk_cell BK544.out 6).trans rfl
                    have hfz73_0 := blk_frozen BK544.out 0
                    have hfz73_1 := blk_frozen BK544.out 1
                    have hfz73_2 := blk_frozen BK544.out 2
                    have hfz73_3 := blk_frozen BK544.out 3
                    have hfz73_4 := blk_frozen BK544.out 4
                    have hfz73_5 := blk_frozen BK544.out 5
                    have hfz73_6 := blk_frozen BK544.out 6
                    have p551 : 0 ≤ (x9_3 : Int) := of_decide_eq_true (by first | (with_reducible assumption) | assumption)
                    have q551 : x9_3 < (t539.length : Int) := of_decide_eq_true (by first | (with_reducible assumption) | assumption)
                    obtain ⟨ad551, e551, hx551_0, hx551_1, hx551_2⟩ := at_T55 (Kd.R_reads' HO_545006.out).2.2 x9_3 p551 q551
                    cases e551
                    replace p551 := eq_true p551
                    replace q551 := eq_true q551
                    go_wp2
                    go_ret
                    exact ⟨by first | rfl | (simp [errW_none, errW_some] <;> rfl) | (simp only [← hji2]; first | rfl | (simp [errW_none, errW_some] <;> rfl)) | (simp [*, errW_none, errW_some] <;> rfl), by repeat (first | (with_reducible first | exact HB.out | apply below_alloc | apply pw_below_drewN | apply below_drew1 | refine below_set ?_ GE544.out | refine below_set ?_ GE547.out) | exact HB.out)⟩
                  ·
                   rw [if_neg c68] at H
                   exact absurd H (by simp)
                 ·
                  rw [if_neg c67] at H
                  exact absurd H (by simp)
                ·
                 replace c66 := Bool.eq_false_iff.mpr c66
                 subst c66
                 have H1 : (if 0 ≤ x9_3 then (if x9_3 < (t539.length : Int) then (if ((rd_T55 t539 x9_3).f1).toList = ((rd_T53 x3_1 x9_3).f1).toList then (numerarylaw14_ItemMinutes.l1 kj34 x3_1 (wrap64 (x9_3 + 2)) t533 t534 t535 t536 t537 t538 t539) else (some false)) else (none)) else (none)) = some r := by rw [if_neg (show ¬ (false = true) by decide)] at H; exact H
                 clear H
                 have H := H1
                 clear H1
                 by_cases c74 : 0 ≤ x9_3
                 ·
                  rw [if_pos c74] at H
                  have c74b0 : decide (0 ≤ x9_3) = true := decide_eq_true c74
                  clear c74
                  by_cases c75 : x9_3 < (t539.length : Int)
                  ·
                   rw [if_pos c75] at H
                   have c75b0 : decide (x9_3 < (t539.length : Int)) = true := decide_eq_true c75
                   clear c75
                   by_cases c76 : ((rd_T55 t539 x9_3).f1).toList = ((rd_T53 x3_1 x9_3).f1).toList
                   ·
                    rw [if_pos c76] at H
                    have c76b0 : (((rd_T55 t539 x9_3).f1).toList == ((rd_T53 x3_1 x9_3).f1).toList) = true := beq_iff_eq.mpr c76
                    have c76b1 : (((rd_T55 t539 x9_3).f1).toList != ((rd_T53 x3_1 x9_3).f1).toList) = false := bne_eq_false_iff_eq.mpr c76
                    clear c76
                    have H' := Aside0.mk H
                    clear H
                    have hnb77 := NB544_547.out
                    have hnc77 := NB547_544.out
                    have hcz78_0 : wc.cell? ⟨gb544, 0, none⟩ = some (.int .i64 t533) := (blk_cell BK544.out 0).trans rfl
                    have hcz78_1 : wc.cell? ⟨gb544, 1, none⟩ = some (.int .i64 t534) := (blk_cell BK544.out 1).trans rfl
                    have hcz78_2 : wc.cell? ⟨gb544, 2, none⟩ = some (.int .i64 t535) := (blk_cell BK544.out 2).trans rfl
                    have hcz78_3 : wc.cell? ⟨gb544, 3, none⟩ = some (.bool t536) := (blk_cell BK544.out 3).trans rfl
                    have hcz78_4 : wc.cell? ⟨gb544, 4, none⟩ = some (.string t537) := (blk_cell BK544.out 4).trans rfl
                    have hcz78_5 : wc.cell? ⟨gb544, 5, none⟩ = some (.string t538) := (blk_cell BK544.out 5).trans rfl
                    have hcz78_6 : wc.cell? ⟨gb544, 6, none⟩ = some (.slice Ao24 t539.length co24) := (blk_cell BK544.out 6).trans rfl
                    have hfz78_0 := blk_frozen BK544.out 0
                    have hfz78_1 := blk_frozen BK544.out 1
                    have hfz78_2 := blk_frozen BK544.out 2
                    have hfz78_3 := blk_frozen BK544.out 3
                    have hfz78_4 := blk_frozen BK544.out 4
                    have hfz78_5 := blk_frozen BK544.out 5
                    have hfz78_6 := blk_frozen BK544.out 6
                    have p552 : 0 ≤ (x9_3 : Int) := of_decide_eq_true (by first | (with_reducible assumption) | assumption)
                    have q552 : x9_3 < (t539.length : Int) := of_decide_eq_true (by first | (with_reducible assumption) | assumption)
                    obtain ⟨ad552, e552, hx552_0, hx552_1, hx552_2⟩ := at_T55 (Kd.R_reads' HO_545006.out).2.2 x9_3 p552 q552
                    cases e552
                    replace p552 := eq_true p552
                    replace q552 := eq_true q552
                    go_wp2
                    go_roundg kj34
                    case measure => have := HK1.out; have := HJ18.out; have := HK3.out; have := HJ34.out; omega
                    case rel => exact ⟨(wrap64 (x9_3 + 2)), (by first | rfl | (simp; done) | (simp [*]; done) | (simp only [isEmpty_ne, Bool.not_not]) | (simp only [isEmpty_ne])), H', ⟨by have := HK1.out; have := HJ18.out; have := HK3.out; have := HJ34.out; omega⟩, ⟨by (with_reducible repeat (first | apply Kd.R_alloc | apply Kd.R_drewN | apply Kd.R_drew)); exact Kd.R_mono HO_3.out (fun _ hk => trivial)⟩, ⟨by (with_reducible repeat (first | apply Kd.R_alloc | apply Kd.R_drewN | apply Kd.R_drew)); exact HO_545006.out⟩, ⟨by (with_reducible repeat (first | refine blk_drewN ?_ _ | refine blk_drew ?_ | refine blk_alloc ?_ _)); exact BK544.out⟩, ⟨by repeat (first | (with_reducible first | exact HB.out | apply below_alloc | apply pw_below_drewN | apply below_drew1 | refine below_set ?_ GE544.out | refine below_set ?_ GE547.out) | exact HB.out)⟩⟩
                   ·
                    rw [if_neg c76] at H
                    have c76b0 : (((rd_T55 t539 x9_3).f1).toList == ((rd_T53 x3_1 x9_3).f1).toList) = false := beq_eq_false_iff_ne.mpr c76
                    have c76b1 : (((rd_T55 t539 x9_3).f1).toList != ((rd_T53 x3_1 x9_3).f1).toList) = true := bne_iff_ne.mpr c76
                    obtain rfl := Option.some.inj H
                    have hnb79 := NB544_547.out
                    have hnc79 := NB547_544.out
                    have hcz80_0 : wc.cell? ⟨gb544, 0, none⟩ = some (.int .i64 t533) := (blk_cell BK544.out 0).trans rfl
                    have hcz80_1 : wc.cell? ⟨gb544, 1, none⟩ = some (.int .i64 t534) := (blk_cell BK544.out 1).trans rfl
                    have hcz80_2 : wc.cell? ⟨gb544, 2, none⟩ = some (.int .i64 t535) := (blk_cell BK544.out 2).trans rfl
                    have hcz80_3 : wc.cell? ⟨gb544, 3, none⟩ = some (.bool t536) := (blk_cell BK544.out 3).trans rfl
                    have hcz80_4 : wc.cell? ⟨gb544, 4, none⟩ = some (.string t537) := (blk_cell BK544.out 4).trans rfl
                    have hcz80_5 : wc.cell? ⟨gb544, 5, none⟩ = some (.string t538) := (blk_cell BK544.out 5).trans rfl
                    have hcz80_6 : wc.cell? ⟨gb544, 6, none⟩ = some (.slice Ao24 t539.length co24) := (blk_cell BK544.out 6).trans rfl
                    have hfz80_0 := blk_frozen BK544.out 0
                    have hfz80_1 := blk_frozen BK544.out 1
                    have hfz80_2 := blk_frozen BK544.out 2
                    have hfz80_3 := blk_frozen BK544.out 3
                    have hfz80_4 := blk_frozen BK544.out 4
                    have hfz80_5 := blk_frozen BK544.out 5
                    have hfz80_6 := blk_frozen BK544.out 6
                    have p552 : 0 ≤ (x9_3 : Int) := of_decide_eq_true (by first | (with_reducible assumption) | assumption)
                    have q552 : x9_3 < (t539.length : Int) := of_decide_eq_true (by first | (with_reducible assumption) | assumption)
                    obtain ⟨ad552, e552, hx552_0, hx552_1, hx552_2⟩ := at_T55 (Kd.R_reads' HO_545006.out).2.2 x9_3 p552 q552
                    cases e552
                    replace p552 := eq_true p552
                    replace q552 := eq_true q552
                    go_wp2
                    go_ret
                    exact ⟨by first | rfl | (simp [errW_none, errW_some] <;> rfl) | (simp only [← hji2]; first | rfl | (simp [errW_none, errW_some] <;> rfl)) | (simp [*, errW_none, errW_some] <;> rfl), by repeat (first | (with_reducible first | exact HB.out | apply below_alloc | apply pw_below_drewN | apply below_drew1 | refine below_set ?_ GE544.out | refine below_set ?_ GE547.out) | exact HB.out)⟩
                  ·
                   rw [if_neg c75] at H
                   exact absurd H (by simp)
                 ·
                  rw [if_neg c74] at H
                  exact absurd H (by simp)
             ·
              rw [if_neg c34] at H
              exact absurd H (by simp)
            ·
             rw [if_neg c33] at H
             have c33b0 : decide (x9_3 < (x3_1.length : Int)) = false := decide_eq_false c33
             clear c33
             obtain rfl := Option.some.inj H
             go_wp2
             go_ret
             exact ⟨by first | rfl | (simp [errW_none, errW_some] <;> rfl) | (simp only [← hji2]; first | rfl | (simp [errW_none, errW_some] <;> rfl)) | (simp [*, errW_none, errW_some] <;> rfl), by repeat (first | (with_reducible first | exact HB.out | apply below_alloc | apply pw_below_drewN | apply below_drew1 | refine below_set ?_ GE544.out) | exact HB.out)⟩
   ·
    rw [if_neg c4] at H
    exact absurd H (by simp)
  ·
   rw [if_neg c3] at H
   exact absurd H (by simp)

/-- THE ONE PURE STATEMENT of numerarylaw14_ItemMinutes: yours. -/
def numerarylaw14_ItemMinutes.Pure : Prop := ∀ (l0 : List Int), l0.length ≤ maxLen → l0.length * 1 ≤ 140737488351232 → (∀ x ∈ l0, (Lit.int .u8 x).wf = true) → ∃ k, numerarylaw14_ItemMinutes.f k l0 = some true
theorem numerarylaw14_ItemMinutes.walk (P : numerarylaw14_ItemMinutes.Pure) (a0 : Option Addr) (len0 cap0 : Nat) (z0 : List Int) (w : World) (w0 : (a0 = none ∧ len0 = 0 ∧ cap0 = 0 ∧ z0 = []) ∨ ∃ x, a0 = some x ∧ len0 ≤ cap0 ∧ cap0 ≤ maxLen ∧ z0.length = cap0 ∧ (∀ i, i < z0.length → w.cell? (x.add i) = some (.int .u8 (z0.getD i 0))) ∧ ∀ n ∈ z0, (Lit.int .u8 n).wf = true) (y0 : len0 * 1 ≤ 140737488351232) (HLW_ : LW w) :
   Calls Tryz.prog 4 #[.slice a0 len0 cap0] w fun e w' => e = .returned (.bool true) ∧ Below w.heap.size w w' := by
  obtain ⟨l0, rfl, hr0, hm0, hw0, hc0⟩ := ReadsInt.ofRowC w0
  obtain ⟨k, h⟩ := P l0 hm0 y0 hw0
  refine (numerarylaw14_ItemMinutes.calls k _ _ l0 true w (Kd.C_of_reads (d := (0 : Int)) (h1 := fun _ => rfl) hr0) hc0 h HLW_).mono ?_
  rintro e w' ⟨rfl, hd⟩
  exact ⟨rfl, hd⟩

end Go.Proofs.YtiidpicgdjjikaaGreatDoor.P

