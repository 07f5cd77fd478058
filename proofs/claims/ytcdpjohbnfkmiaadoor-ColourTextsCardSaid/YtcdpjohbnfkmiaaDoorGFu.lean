/-
  strconv.FormatUint at base 16.
-/
import Derived.Test.YtcdpjohbnfkmiaaDoorGL
import Derived.Deep.LoopGhost
import Derived.WalkKit
import Derived.IntWalk
namespace Go.Proofs.YtcdpjohbnfkmiaaDoor.G
open Go.RowKit Go.Lib Go.Proofs Go.Proofs.YtcdpjohbnfkmiaaDoorW.PrintWords Go.Proofs.YtcdpjohbnfkmiaaDoorW.PrintLast Go.Proofs.YtcdpjohbnfkmiaaDoorW.PrintMore
set_option linter.unusedVariables false
set_option linter.unusedSimpArgs false

set_option maxRecDepth 100000 in
theorem tz64_16 (w : World) (HLW_ : LW w) : Calls Tryd.prog 103 #[.int .u64 16] w fun e w' => e = .returned (.int .i64 4) ∧ w' = w := by
  have h := HLW_.db64 15 (by decide)
  have h2 : w.cell? ⟨10, 15, none⟩ = some (.int .u8 4) := h
  clear h
  have key : IntKind.u64.wrap (bits .and .u64 16 (IntKind.u64.wrap (-16)) * 285870213051353865) / 288230376151711744 = 15 := by decide +kernel
  go_enter Tryd.func103, Tryd.ntmps103
  go_wp2
  go_ret
  exact ⟨rfl, rfl⟩
theorem tz_16 (w : World) (HLW_ : LW w) : Calls Tryd.prog 99 #[.int .u64 16] w fun e w' => e = .returned (.int .i64 4) ∧ w' = w := by
  have c := tz64_16 w HLW_
  go_enter Tryd.func99, Tryd.ntmps99
  go_wp2_with (go_at_call 103; refine c.mono ?_; rintro e w' ⟨rfl, rfl⟩)
  go_ret
  exact ⟨rfl, rfl⟩
theorem pow2_16 (w : World) : Calls Tryd.prog 98 #[.int .i64 16] w fun e w' => e = .returned (.bool true) ∧ w' = w := by
  go_enter Tryd.func98, Tryd.ntmps98
  go_wp2
  go_ret
  exact ⟨rfl, rfl⟩

def hexDig (n : Nat) : Int := if n < 10 then 48 + n else 87 + n
theorem frozenSet (w : World) (a b : Addr) (v : Value) (h : w.frozen? b = false) : (w.setCell a v).frozen? b = false := by simp [h]
/-- A number's digits of base 16, ahead of others. -/
def hx : Nat → Nat → List Int → List Int
  | 0, _, acc => acc
  | k + 1, u, acc => if u < 16 then hexDig u :: acc else hx k (u / 16) (hexDig (u % 16) :: acc)
theorem wrapsU64 : ∀ n : Int, 0 ≤ n → n < 2 ^ 64 → IntKind.u64.wrap n = n := fun n h0 h1 => IntWalk.u64_in n ⟨h0, by omega⟩
theorem hexAt (n : Nat) (h : n < 16) (h' : n < (⟨#[48, 49, 50, 51, 52, 53, 54, 55, 56, 57, 97, 98, 99, 100, 101, 102, 103, 104, 105, 106, 107, 108, 109, 110, 111, 112, 113, 114, 115, 116, 117, 118, 119, 120, 121, 122]⟩ : ByteArray).size) :
    (((⟨#[48, 49, 50, 51, 52, 53, 54, 55, 56, 57, 97, 98, 99, 100, 101, 102, 103, 104, 105, 106, 107, 108, 109, 110, 111, 112, 113, 114, 115, 116, 117, 118, 119, 120, 121, 122]⟩ : ByteArray)[n]'h').toNat : Int) = hexDig n := by
  have : n = 0 ∨ n = 1 ∨ n = 2 ∨ n = 3 ∨ n = 4 ∨ n = 5 ∨ n = 6 ∨ n = 7 ∨ n = 8 ∨ n = 9 ∨ n = 10 ∨ n = 11 ∨ n = 12 ∨ n = 13 ∨ n = 14 ∨ n = 15 := by omega
  rcases this with rfl | rfl | rfl | rfl | rfl | rfl | rfl | rfl | rfl | rfl | rfl | rfl | rfl | rfl | rfl | rfl <;> rfl
set_option maxHeartbeats 8000000 in
set_option maxRecDepth 1000000 in
theorem formatBits16_walk (u0 : Nat) (hu : u0 < 18446744073709551616) (w : World) (HLW_ : LW w) :
    Calls Tryd.prog 84 #[.slice none 0 0, .int .u64 u0, .int .i64 16, .bool false, .bool false] w fun e w' => e = .returned (.tuple #[.slice none 0 0, .string (strOfNums (hx 17 u0 []))]) ∧ Below w.heap.size w w' := by
  have HLW := Aside0.mk HLW_
  clear HLW_
  go_enter Tryd.func84, Tryd.ntmps84
  have cP := pow2_16 (w.alloc (.cells Tryd.zeroCells126 126))
  have cT := tz_16 (w.alloc (.cells Tryd.zeroCells126 126)) HLW.out.alloc
  have hz : Tryd.zeroCells126 = Array.replicate 65 (.int .u8 0) := by kernel_rfl
  have HZ := Aside0.mk hz
  clear hz
  go_wp2_with (first | (go_at_call 98; refine cP.mono ?_; rintro e w' ⟨rfl, rfl⟩) | (go_at_call 99; refine cT.mono ?_; rintro e w' ⟨rfl, rfl⟩))
  clear cP cT
  go_loopg [1, 13] 17 (fun gk v1 v13 wx => ∃ (u i : Nat) (c : Nat → Value) (L : List Int), v1 = .int .u64 u ∧ v13 = .int .i64 i ∧ u < 18446744073709551616 ∧ u < 16 ^ gk ∧ 1 ≤ gk ∧ gk + 48 ≤ i ∧ i ≤ 65 ∧ L.length + i = 65 ∧ Below w.heap.size w wx ∧ Aside0 (∀ j, j < 65 → wx.cell? ⟨w.heap.size, j, none⟩ = some (c j)) ∧ Aside0 (∀ j, j < 65 → wx.frozen? ⟨w.heap.size, j, none⟩ = false) ∧ Aside0 (∀ j, j < L.length → c (i + j) = .int .u8 (L.getD j 0)) ∧ Aside0 (hx gk u L = hx 17 u0 []))
  case atStart =>
    refine ⟨u0, 65, fun _ => .int .u8 0, [], rfl, rfl, hu, by omega, by omega, by omega, by omega, by simp, below_alloc (Below.refl _ _) _, ⟨fun j hj => ?_⟩, ⟨fun j hj => ?_⟩, ⟨fun j hj => by simp at hj⟩, ⟨rfl⟩⟩
    · rw [HZ.out]
      simp [World.cell?, World.alloc, -World.alloc_eq, hj]
    · simp [World.frozen?, World.alloc, -World.alloc_eq]
  case round =>
    obtain ⟨u, i, c, L, rfl, rfl, hu64, hug, hg1, hgi, hi, hL, hbw, hc, hf, hcL, hh⟩ := hrel
    by_cases h16 : 16 ≤ u
    · obtain ⟨g', rfl⟩ : ∃ g', gk = g' + 1 := ⟨gk - 1, by omega⟩
      have hg2 : 1 ≤ g' := by
        cases g' with
        | zero => simp at hug; omega
        | succ n => omega
      have hb16 : decide ((16 : Int) ≤ (u : Int)) = true := decide_eq_true (by omega)
      have hc1 := hc.out (i - 1) (by omega)
      have hf1 := hf.out (i - 1) (by omega)
      have hm : bits .and .u64 (u : Int) 15 = (u : Int) % 16 := bits_mask .u64 64 (by decide) wrapsU64 4 (by decide) u (by omega) (by omega)
      have hh := hh.out
      simp only [hx] at hh
      rw [if_neg (by omega)] at hh
      have HH := Aside0.mk hh
      clear hh
      have hpow : u < 16 ^ g' * 16 := by rw [← Nat.pow_succ]; exact hug
      have hdiv : u / 16 < 16 ^ g' := by omega
      clear hug hpow
      have hd := hexAt (u % 16) (by omega)
      have HD := Lib.hid hdiv
      clear hdiv
      go_wp2
      go_roundg g'
      case measure => omega
      case rel =>
        refine ⟨u / 16, i - 1, fun j => if j = i - 1 then .int .u8 (hexDig (u % 16)) else c j, hexDig (u % 16) :: L, by first | rfl | go_num, by first | rfl | (congr 1; omega) | go_num, by omega, HD.out, by omega, by omega, by omega, by simp; omega, hbw.setCell (Nat.le_refl _) _, ⟨fun j hj => ?_⟩, ⟨fun j hj => frozenSet _ _ _ _ (hf.out j hj)⟩, ⟨fun j hj => ?_⟩, HH⟩
        · by_cases hji : j = i - 1
          · subst hji
            rw [World.cell?_setCell_same (h := hc1)]
            simp
          · rw [World.cell?_setCell_other (h := fun h => hji (by have h2 := congrArg Addr.off h; simpa using h2.symm))]
            simp only [hji, if_false]
            exact hc.out j hj
        · cases j with
          | zero => simp
          | succ j =>
            simp only [List.length_cons] at hj
            have e1 : i - 1 + (j + 1) = i + j := by omega
            have e2 : ¬ i + j = i - 1 := by omega
            simp only [e1, e2, if_false]
            rw [hcL.out j (by omega)]
            rfl
    · have hb16 : decide ((16 : Int) ≤ (u : Int)) = false := decide_eq_false (by omega)
      have hc1 := hc.out (i - 1) (by omega)
      have hf1 := hf.out (i - 1) (by omega)
      have hal : Tryd.prog.arrayLen 126 = 65 := by kernel_rfl
      have hsl : ∀ W, (Instr.sliceAt 126 (.pointer (some ⟨w.heap.size, 0, none⟩)) (some (.int .i64 ((i : Int) - 1))) none none).run Tryd.prog W = .ok (.slice (some ⟨w.heap.size, i - 1, none⟩) (65 - (i - 1)) (65 - (i - 1))) W := fun W => by
        rw [run_sliceAt_array_l W 126 ⟨w.heap.size, 0, none⟩ (by simp [Program.arrayLen, Program.elem, Tryd.underlying126]) .i64 ((i : Int) - 1) (by omega) (by rw [hal]; omega)]
        have e1 : ((i : Int) - 1).toNat = i - 1 := by omega
        rw [e1, hal]
        have e2 : ¬ 65 = i - 1 := by omega
        go_simp
      have hd := hexAt u (by omega)
      have hread : ReadsInt (wr.setCell ⟨w.heap.size, i - 1, none⟩ (.int .u8 (hexDig u))) .u8 (some ⟨w.heap.size, i - 1, none⟩) (65 - (i - 1)) (hexDig u :: L) := by
        refine ⟨by simp; omega, by omega, fun _ => ⟨_, rfl, fun j hj => ?_⟩⟩
        have e0 : (⟨w.heap.size, i - 1, none⟩ : Addr).add j = ⟨w.heap.size, i - 1 + j, none⟩ := by cases j <;> simp [Addr.add]
        rw [e0]
        cases j with
        | zero => rw [Nat.add_zero, World.cell?_setCell_same (h := hc1)]; rfl
        | succ j =>
          have e1 : i - 1 + (j + 1) = i + j := by omega
          rw [e1, World.cell?_setCell_other (h := fun h => by have h2 := congrArg Addr.off h; simp at h2; omega), hc.out (i + j) (by omega), hcL.out j (by omega)]
          rfl
      have ks := string_of_reads (P := Tryd.prog) (src := 41) (dst := 9) (c := 65 - (i - 1)) Tryd.underlying41 Tryd.underlying5 Tryd.underlying9 hread
      have hh := hh.out
      have e17 : hx gk u L = hexDig u :: L := by
        cases gk with
        | zero => omega
        | succ n => simp only [hx]; rw [if_pos (by omega)]
      rw [e17] at hh
      obtain ⟨R, hR⟩ : ∃ R, strOfNums (hexDig u :: L) = R := ⟨_, rfl⟩
      rw [hR] at ks
      have HR := Aside0.mk (show strOfNums (hx 17 u0 []) = R by rw [← hh, hR])
      clear hug hh e17 hR hread hal
      go_wp2
      go_ret2
      exact ⟨by rw [HR.out] <;> rfl, hbw.setCell (Nat.le_refl _) _⟩

set_option maxHeartbeats 4000000 in
set_option maxRecDepth 1000000 in
theorem formatUint16_walk (u0 : Nat) (hu : u0 < 18446744073709551616) (w : World) (HLW_ : LW w) :
    Calls Tryd.prog 58 #[.int .u64 u0, .int .i64 16] w fun e w' => e = .returned (.string (strOfNums (hx 17 u0 []))) ∧ Below w.heap.size w w' := by
  have cB := formatBits16_walk u0 hu w HLW_
  generalize strOfNums (hx 17 u0 []) = R at cB ⊢
  clear HLW_
  go_enter Tryd.func58, Tryd.ntmps58
  go_wp2_with (go_at_call 84; refine cB.mono ?_; rintro e w' ⟨rfl, hb⟩)
  go_ret
  exact ⟨rfl, hb⟩
def strconv_FormatUint.f (a0 a1 : Int) : Option ByteArray := if a1 = 16 then (if 0 ≤ a0 ∧ a0 ≤ 18446744073709551615 then some (strOfNums (hx 17 a0.toNat [])) else none) else none
theorem strconv_FormatUint.calls (a0 a1 : Int) (r : ByteArray) (w : World) (h : strconv_FormatUint.f a0 a1 = some r) (HLW_ : LW w) :
    Calls Tryd.prog 38 #[.int .u64 a0, .int .i64 a1] w fun e w' => e = .returned (.string r) ∧ Below w.heap.size w w' := by
  unfold strconv_FormatUint.f at h
  split at h
  · subst a1
    split at h
    · rename_i hb
      obtain ⟨n, rfl⟩ := Int.eq_ofNat_of_zero_le hb.1
      obtain rfl := Option.some.inj h
      have cB := formatUint16_walk n (by omega) w HLW_
      rw [Int.toNat_natCast]
      generalize strOfNums (hx 17 n []) = R at cB ⊢
      clear HLW_ h hb
      go_enter Tryd.func38, Tryd.ntmps38
      go_wp2_with (go_at_call 58; refine cB.mono ?_; rintro e w' ⟨rfl, hb⟩)
      go_ret
      exact ⟨rfl, hb⟩
    · cases h
  · cases h
end Go.Proofs.YtcdpjohbnfkmiaaDoor.G
