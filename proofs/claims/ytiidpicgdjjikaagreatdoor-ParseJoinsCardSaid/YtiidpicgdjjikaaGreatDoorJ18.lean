import Derived.Deep.LoopGhost
import Derived.WalkKit
import Derived.IntWalk
import Derived.Lib.TrimU
import Derived.Test.YtiidpicgdjjikaaGreatDoorJ4
namespace Go.Proofs.YtiidpicgdjjikaaGreatDoor.G
open Go.RowKit Go.Lib Go.Proofs Go.Proofs.YtiidpicgdjjikaaGreatDoorW.PrintWords Go.Proofs.YtiidpicgdjjikaaGreatDoorW.PrintLast Go.Proofs.YtiidpicgdjjikaaGreatDoorW.PrintMore
set_option linter.unusedVariables false
set_option linter.unusedSimpArgs false

theorem plainPred (x : Nat) (W : World) (hx : x ≤ 1114111) : Calls Tryz.prog 127 #[.int .i32 (x : Int)] W fun e w' => e = .returned (.bool (decide (128 ≤ x))) ∧ w' = W := by
  have hd : decide ((128 : Int) ≤ (x : Int)) = decide (128 ≤ x) := by
    by_cases h : 128 ≤ x
    · rw [decide_eq_true h, decide_eq_true (by omega)]
    · rw [decide_eq_false h, decide_eq_false (by omega)]
  go_enter Tryz.func127, Tryz.ntmps127
  go_wp2
  go_ret
  exact ⟨by first | rfl | (rw [← hd]; rfl) | simp [hd], rfl⟩
theorem plainPred_runes (w : World) : PredAtRunes Tryz.prog 127 #[] (fun x => decide (128 ≤ x)) w := by
  intro W x hx _
  exact (plainPred x W hx).mono fun e w' ⟨h1, h2⟩ => ⟨h1, 0, h2⟩
def colour_plain.f (a0 : ByteArray) : Option Bool := some (!(decide (0 ≤ Lib.idxFunc (fun x => decide (128 ≤ x)) true a0)))
theorem colour_plain.calls (a0 : ByteArray) (r : Bool) (w : World) (h : colour_plain.f a0 = some r) (HLW_ : LW w) :
    Calls Tryz.prog 105 #[.string a0] w fun e w' => e = .returned (.bool r) ∧ Below w.heap.size w w' := by
  unfold colour_plain.f at h
  obtain rfl := Option.some.inj h
  have cC := Tryz.strings_ContainsFunc_runes 127 #[] (enters_of Tryz.func127 (by kernel_rfl) rfl) (fun x => decide (128 ≤ x)) a0 w (plainPred_runes w)
  generalize decide (0 ≤ Lib.idxFunc (fun x => decide (128 ≤ x)) true a0) = B at cC ⊢
  go_enter Tryz.func105, Tryz.ntmps105
  go_wp2_with (go_at_call 126; refine cC.mono ?_; rintro e w' ⟨rfl, hb⟩)
  go_ret
  exact ⟨rfl, hb⟩

def inSet (c : Nat) (s : ByteArray) : Nat → Nat → Bool
  | 0, _ => false
  | k + 1, pos => if pos < s.size then ((c == (Utf8.decode s pos).1) || inSet c s k (pos + (Utf8.decode s pos).2)) else false
theorem inSet_end (c : Nat) (s : ByteArray) (k pos : Nat) (h : ¬ pos < s.size) : inSet c s k pos = false := by
  cases k <;> simp [inSet, h]
def cutL (s set : ByteArray) : Nat → Nat → ByteArray
  | 0, _ => ⟨#[]⟩
  | k + 1, pos => if pos < s.size then (if inSet (Utf8.decode s pos).1 set set.size 0 = true then cutL s set k (pos + (Utf8.decode s pos).2) else s.extract pos s.size) else ⟨#[]⟩
theorem cutL_end (s set : ByteArray) (k pos : Nat) (h : ¬ pos < s.size) : cutL s set k pos = ⟨#[]⟩ := by
  cases k <;> simp [cutL, h]
def cutR (set : ByteArray) : Nat → ByteArray → ByteArray
  | 0, s => s
  | k + 1, s => if 0 < s.size then (if inSet (Lib.decodeLastL s.data.toList).1 set set.size 0 = true then cutR set k (s.extract 0 (s.size - (Lib.decodeLastL s.data.toList).2)) else s) else s
theorem cutR_end (set : ByteArray) (k : Nat) (s : ByteArray) (h : ¬ 0 < s.size) : cutR set k s = s := by
  cases k <;> simp [cutR, h]
theorem lastW (s : ByteArray) (h : 0 < s.size) : 1 ≤ (Lib.decodeLastL s.data.toList).2 ∧ (Lib.decodeLastL s.data.toList).2 ≤ s.size := by
  have := Lib.decodeLastL_width s.data.toList (by rw [← Lib.size_eq]; exact h)
  rw [← Lib.size_eq] at this
  exact this

set_option maxHeartbeats 4000000 in
set_option maxRecDepth 1000000 in
theorem colour_cutLeft_walk (s set : ByteArray) (w : World) (hs : s.size ≤ 9223372036854775807) (hset : set.size ≤ 9223372036854775807) :
    Calls Tryz.prog 107 #[.string s, .string set] w fun e w' => e = .returned (.string (cutL s set s.size 0)) ∧ Below w.heap.size w w' := by
  go_enter Tryz.func107, Tryz.ntmps107
  go_wp2
  go_loopg [] s.size (fun gf wx => ∃ pos : Nat, wx.heap[w.heap.size]? = some (.stringIter s pos) ∧ Below w.heap.size w wx ∧ Aside0 (cutL s set gf pos = cutL s set s.size 0) ∧ s.size ≤ pos + gf)
  case atStart => exact ⟨0, World.iter_heap w s 0, (Below.refl _ w).alloc (Nat.le_refl _) _, ⟨rfl⟩, by omega⟩
  case round =>
    obtain ⟨pos, hit, hbw, hleft, hfu⟩ := hrel
    by_cases hps : pos < s.size
    · obtain ⟨g', rfl⟩ : ∃ g', gk = g' + 1 := ⟨gk - 1, by omega⟩
      have hnx : ∀ ty, (Instr.next (.pointer (some ⟨w.heap.size, 0, none⟩)) true ty).run Tryz.prog wr = _ := fun ty => Lib.run_next_any_at wr w.heap.size s pos ty hit hps
      have hwd := Lib.width_pos s pos
      have hleft := hleft.out
      obtain ⟨R, hR⟩ : ∃ R, (Utf8.decode s pos).1 = R := ⟨_, rfl⟩
      obtain ⟨K, hK⟩ : ∃ K, (Utf8.decode s pos).2 = K := ⟨_, rfl⟩
      simp only [cutL, hps, if_true, hR, hK] at hleft
      rw [hR, hK] at hnx
      rw [hK] at hwd
      have hit2 := Lib.iterAt_heap wr w.heap.size s pos (pos + K) hit
      have hbw2 := Lib.below_iterAt hbw (k := w.heap.size) (Nat.le_refl _) s (pos + K)
      obtain ⟨W, hWd⟩ : ∃ W, wr.iterAt w.heap.size s (pos + K) = W := ⟨_, rfl⟩
      rw [hWd] at hnx hit2 hbw2
      have hszW : w.heap.size < W.heap.size := (Array.getElem?_eq_some_iff.1 hit2).1
      have HL := Aside0.mk hleft
      clear hleft hR hK
      go_wp2
      clear hnx hWd
      go_loopg [7] set.size (fun gi v7 wi => ∃ (q : Nat) (b : Bool), v7 = .bool b ∧ wi.heap[W.heap.size]? = some (.stringIter set q) ∧ wi.heap[w.heap.size]? = some (.stringIter s (pos + K)) ∧ Below w.heap.size w wi ∧ Aside0 ((b || inSet R set gi q) = inSet R set set.size 0) ∧ set.size ≤ q + gi)
      case atStart => exact ⟨0, false, rfl, World.iter_heap W set 0, (Below.heap_alloc W _ _ hszW).trans hit2, hbw2.alloc (by omega) _, ⟨rfl⟩, by omega⟩
      case round =>
        obtain ⟨q, b, rfl, hi1, hi2, hbi, hin, hfi⟩ := hrel
        by_cases hqs : q < set.size
        · obtain ⟨g2, rfl⟩ : ∃ g2, gk = g2 + 1 := ⟨gk - 1, by omega⟩
          have hnx : ∀ ty, (Instr.next (.pointer (some ⟨W.heap.size, 0, none⟩)) true ty).run Tryz.prog wr = _ := fun ty => Lib.run_next_any_at wr W.heap.size set q ty hi1 hqs
          have hwd2 := Lib.width_pos set q
          have hin := hin.out
          obtain ⟨D, hD⟩ : ∃ D, (Utf8.decode set q).1 = D := ⟨_, rfl⟩
          obtain ⟨K2, hK2⟩ : ∃ K2, (Utf8.decode set q).2 = K2 := ⟨_, rfl⟩
          simp only [inSet, hqs, if_true, hD, hK2] at hin
          rw [hD, hK2] at hnx
          rw [hK2] at hwd2
          have hj1 := Lib.iterAt_heap wr W.heap.size set q (q + K2) hi1
          have hj3 := Lib.below_iterAt hbi (k := W.heap.size) (by omega) set (q + K2)
          have hj2 := ((Lib.below_iterAt (Below.refl W.heap.size wr) (k := W.heap.size) (Nat.le_refl _) set (q + K2)).block _ hszW).trans hi2
          obtain ⟨W2, hWd2⟩ : ∃ W2, wr.iterAt W.heap.size set (q + K2) = W2 := ⟨_, rfl⟩
          rw [hWd2] at hnx hj1 hj2 hj3
          clear hD hK2 hWd2
          cases b
          · by_cases hRD : R = D
            · have hb1 : ((R : Int) == (D : Int)) = true := by simp [hRD]
              have HI := Aside0.mk hin
              clear hin
              go_wp2
              go_roundg g2
              case measure => omega
              case rel => exact ⟨q + K2, true, by first | rfl | simp [hRD], hj1, hj2, hj3, ⟨by rw [← HI.out]; simp [hRD]⟩, by omega⟩
            · have hb1 : ((R : Int) == (D : Int)) = false := beq_eq_false_iff_ne.2 (fun h => hRD (by omega))
              have HI := Aside0.mk hin
              clear hin
              go_wp2
              go_roundg g2
              case measure => omega
              case rel => exact ⟨q + K2, false, by first | rfl | simp [hb1], hj1, hj2, hj3, ⟨by rw [← HI.out]; simp [hRD]⟩, by omega⟩
          · have HI := Aside0.mk hin
            clear hin
            go_wp2
            go_roundg g2
            case measure => omega
            case rel => exact ⟨q + K2, true, rfl, hj1, hj2, hj3, ⟨by rw [← HI.out]; simp⟩, by omega⟩
        · have hnx : ∀ ty, (Instr.next (.pointer (some ⟨W.heap.size, 0, none⟩)) true ty).run Tryz.prog wr = _ := fun ty => Lib.run_next_end_at wr W.heap.size set q ty hi1 hqs
          have hin := hin.out
          rw [inSet_end _ _ _ _ hqs] at hin
          have hleft := HL.out
          rw [← hin] at hleft
          clear HL hin
          cases b
          · have HL := Aside0.mk hleft
            clear hleft
            go_wp2
            go_ret
            exact ⟨by rw [← HL.out] <;> rfl, hbi⟩
          · have HL := Aside0.mk hleft
            clear hleft
            go_wp2
            go_roundg g'
            case measure => omega
            case rel => exact ⟨pos + K, hi2, hbi, ⟨by rw [← HL.out]; rfl⟩, by omega⟩
    · have hnx : ∀ ty, (Instr.next (.pointer (some ⟨w.heap.size, 0, none⟩)) true ty).run Tryz.prog wr = _ := fun ty => Lib.run_next_end_at wr w.heap.size s pos ty hit hps
      have hleft := hleft.out
      rw [cutL_end s set gk pos hps] at hleft
      have HL := Aside0.mk hleft
      clear hleft
      go_wp2
      go_ret
      exact ⟨by rw [← HL.out] <;> rfl, hbw⟩

set_option maxHeartbeats 4000000 in
set_option maxRecDepth 1000000 in
theorem colour_cutRight_walk (s set : ByteArray) (w : World) (hs : s.size ≤ 9223372036854775807) (hset : set.size ≤ 9223372036854775807) (HLW_ : LW w) :
    Calls Tryz.prog 106 #[.string s, .string set] w fun e w' => e = .returned (.string (cutR set s.size s)) ∧ Below w.heap.size w w' := by
  have HLW := Aside0.mk HLW_
  clear HLW_
  go_enter Tryz.func106, Tryz.ntmps106
  go_wp2
  go_loopg [0] s.size (fun gf v0 wx => ∃ t : ByteArray, v0 = .string t ∧ t.size ≤ s.size ∧ t.size ≤ gf ∧ Below w.heap.size w wx ∧ Aside0 (cutR set gf t = cutR set s.size s))
  case atStart => exact ⟨s, rfl, Nat.le_refl _, Nat.le_refl _, Below.refl _ w, ⟨rfl⟩⟩
  case round =>
    obtain ⟨t, rfl, hts, hfu, hbw, hleft⟩ := hrel
    by_cases hps : 0 < t.size
    · obtain ⟨g', rfl⟩ : ∃ g', gk = g' + 1 := ⟨gk - 1, by omega⟩
      have hwd := lastW t hps
      have hleft := hleft.out
      have cD := Tryz.utf8_DecodeLastRuneInString t wr (by omega) (HLW.out.below hbw).utf8
      obtain ⟨R, hR⟩ : ∃ R, (Lib.decodeLastL t.data.toList).1 = R := ⟨_, rfl⟩
      obtain ⟨K, hK⟩ : ∃ K, (Lib.decodeLastL t.data.toList).2 = K := ⟨_, rfl⟩
      simp only [cutR, hps, if_true, hR, hK] at hleft
      rw [hR, hK] at cD
      rw [hK] at hwd
      have HL := Aside0.mk hleft
      have b1 : 0 ≤ (t.size : Int) - (K : Int) := by omega
      have b2 : (t.size : Int) - (K : Int) ≤ t.size := by omega
      have b3 : ((t.size : Int) - (K : Int)).toNat = t.size - K := by omega
      have b4 : IntKind.i64.wrap ((t.size : Int) - (K : Int)) = (t.size : Int) - (K : Int) := IntWalk.i64_in _ (by omega)
      have B3 := Lib.hid b3
      have B4 := Lib.hid b4
      have hpz : decide (0 < t.size) = true := decide_eq_true hps
      clear hleft hR hK b3 b4
      go_wp2_with (go_at_call 128; refine cD.mono ?_; rintro e W ⟨rfl, hbW⟩)
      clear cD
      have hbw2 := hbw.trans (hbW.mono hbw.size)
      clear hbW
      go_loopg [7] set.size (fun gi v7 wi => ∃ (q : Nat) (b : Bool), v7 = .bool b ∧ wi.heap[W.heap.size]? = some (.stringIter set q) ∧ Below w.heap.size w wi ∧ Aside0 ((b || inSet R set gi q) = inSet R set set.size 0) ∧ set.size ≤ q + gi)
      case atStart => exact ⟨0, false, rfl, World.iter_heap W set 0, hbw2.alloc hbw2.size _, ⟨rfl⟩, by omega⟩
      case round =>
        obtain ⟨q, b, rfl, hi1, hbi, hin, hfi⟩ := hrel
        by_cases hqs : q < set.size
        · obtain ⟨g2, rfl⟩ : ∃ g2, gk = g2 + 1 := ⟨gk - 1, by omega⟩
          have hnx : ∀ ty, (Instr.next (.pointer (some ⟨W.heap.size, 0, none⟩)) true ty).run Tryz.prog wr = _ := fun ty => Lib.run_next_any_at wr W.heap.size set q ty hi1 hqs
          have hwd2 := Lib.width_pos set q
          have hin := hin.out
          obtain ⟨D, hD⟩ : ∃ D, (Utf8.decode set q).1 = D := ⟨_, rfl⟩
          obtain ⟨K2, hK2⟩ : ∃ K2, (Utf8.decode set q).2 = K2 := ⟨_, rfl⟩
          simp only [inSet, hqs, if_true, hD, hK2] at hin
          rw [hD, hK2] at hnx
          rw [hK2] at hwd2
          have hj1 := Lib.iterAt_heap wr W.heap.size set q (q + K2) hi1
          have hj3 := Lib.below_iterAt hbi (k := W.heap.size) hbw2.size set (q + K2)
          obtain ⟨W2, hWd2⟩ : ∃ W2, wr.iterAt W.heap.size set (q + K2) = W2 := ⟨_, rfl⟩
          rw [hWd2] at hnx hj1 hj3
          clear hD hK2 hWd2
          cases b
          · by_cases hRD : R = D
            · have hb1 : ((R : Int) == (D : Int)) = true := by simp [hRD]
              have HI := Aside0.mk hin
              clear hin
              go_wp2
              go_roundg g2
              case measure => omega
              case rel => exact ⟨q + K2, true, by first | rfl | simp [hRD], hj1, hj3, ⟨by rw [← HI.out]; simp [hRD]⟩, by omega⟩
            · have hb1 : ((R : Int) == (D : Int)) = false := beq_eq_false_iff_ne.2 (fun h => hRD (by omega))
              have HI := Aside0.mk hin
              clear hin
              go_wp2
              go_roundg g2
              case measure => omega
              case rel => exact ⟨q + K2, false, by first | rfl | simp [hb1], hj1, hj3, ⟨by rw [← HI.out]; simp [hRD]⟩, by omega⟩
          · have HI := Aside0.mk hin
            clear hin
            go_wp2
            go_roundg g2
            case measure => omega
            case rel => exact ⟨q + K2, true, rfl, hj1, hj3, ⟨by rw [← HI.out]; simp⟩, by omega⟩
        · have hnx : ∀ ty, (Instr.next (.pointer (some ⟨W.heap.size, 0, none⟩)) true ty).run Tryz.prog wr = _ := fun ty => Lib.run_next_end_at wr W.heap.size set q ty hi1 hqs
          have hin := hin.out
          rw [inSet_end _ _ _ _ hqs] at hin
          have hleft := HL.out
          rw [← hin] at hleft
          clear HL hin
          cases b
          · have HL := Aside0.mk hleft
            clear hleft
            go_wp2
            go_ret
            exact ⟨by rw [← HL.out] <;> rfl, hbi⟩
          · have HL := Aside0.mk hleft
            clear hleft
            go_wp2
            go_roundg g'
            case measure => omega
            case rel => exact ⟨t.extract 0 (t.size - K), by first | rfl | (rw [B4.out, B3.out]) | (rw [B3.out]), by simp; omega, by simp; omega, hbi, ⟨by rw [← HL.out]; rfl⟩⟩
    · have hleft := hleft.out
      rw [cutR_end set gk t hps] at hleft
      have HL := Aside0.mk hleft
      have hpz : decide (0 < t.size) = false := decide_eq_false hps
      clear hleft
      go_wp2
      go_ret
      exact ⟨by rw [← HL.out] <;> rfl, hbw⟩
def colour_cutLeft.f (a0 a1 : ByteArray) : Option ByteArray := if a0.size ≤ 9223372036854775807 then (if a1.size ≤ 9223372036854775807 then some (cutL a0 a1 a0.size 0) else none) else none
theorem colour_cutLeft.calls (a0 a1 : ByteArray) (r : ByteArray) (w : World) (h : colour_cutLeft.f a0 a1 = some r) (HLW_ : LW w) :
    Calls Tryz.prog 107 #[.string a0, .string a1] w fun e w' => e = .returned (.string r) ∧ Below w.heap.size w w' := by
  unfold colour_cutLeft.f at h
  split at h
  · split at h
    · obtain rfl := Option.some.inj h
      exact colour_cutLeft_walk a0 a1 w (by assumption) (by assumption)
    · cases h
  · cases h
def colour_cutRight.f (a0 a1 : ByteArray) : Option ByteArray := if a0.size ≤ 9223372036854775807 then (if a1.size ≤ 9223372036854775807 then some (cutR a1 a0.size a0) else none) else none
theorem colour_cutRight.calls (a0 a1 : ByteArray) (r : ByteArray) (w : World) (h : colour_cutRight.f a0 a1 = some r) (HLW_ : LW w) :
    Calls Tryz.prog 106 #[.string a0, .string a1] w fun e w' => e = .returned (.string r) ∧ Below w.heap.size w w' := by
  unfold colour_cutRight.f at h
  split at h
  · split at h
    · obtain rfl := Option.some.inj h
      exact colour_cutRight_walk a0 a1 w (by assumption) (by assumption) HLW_
    · cases h
  · cases h


end Go.Proofs.YtiidpicgdjjikaaGreatDoor.G
