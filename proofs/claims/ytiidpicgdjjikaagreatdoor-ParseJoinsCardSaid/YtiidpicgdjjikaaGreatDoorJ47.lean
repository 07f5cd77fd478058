import Derived.Lib.Bytes
import Derived.Laws.BitsLemmas
import Derived.Lib.TrimAscii
import Derived.Test.YtiidpicgdjjikaaGreatDoorJ6
import Derived.Test.YtiidpicgdjjikaaGreatDoorJ10
import Derived.Test.YtiidpicgdjjikaaGreatDoorJ15
import Derived.Test.YtiidpicgdjjikaaGreatDoorJ16
import Derived.Test.YtiidpicgdjjikaaGreatDoorJ25
import Derived.Test.YtiidpicgdjjikaaGreatDoorJ27
import Derived.Test.YtiidpicgdjjikaaGreatDoorJ40
import Derived.Test.YtiidpicgdjjikaaGreatDoorJ41
import Derived.Test.YtiidpicgdjjikaaGreatDoorJ43
import Derived.Test.YtiidpicgdjjikaaGreatDoorJ44
import Derived.Test.YtiidpicgdjjikaaGreatDoorJ45
import Derived.Test.YtiidpicgdjjikaaGreatDoorJ46
namespace Go.Proofs.YtiidpicgdjjikaaGreatDoor.PR
open Go.RowKit Go.Lib Go.Proofs.YtiidpicgdjjikaaGreatDoor.P Go.Proofs.YtiidpicgdjjikaaGreatDoor.PL Go.Proofs.YtiidpicgdjjikaaGreatDoorW.PrintWords Go.Proofs.YtiidpicgdjjikaaGreatDoorW.PrintLast Go.Proofs.YtiidpicgdjjikaaGreatDoorW.PrintMore
set_option linter.unusedVariables false
set_option linter.unusedSimpArgs false
theorem bt_eq (s : ByteArray) (i : Nat) (c : UInt8) (h : s.data.toList[i]? = some c) : bt s (i : Int) = (c.toNat : Int) := by
  obtain ⟨hi, e⟩ := List.getElem?_eq_some_iff.1 h
  have hs : i < s.size := by rw [size_list]; exact hi
  unfold bt
  rw [dif_pos (by rw [Int.toNat_natCast]; exact hs)]
  have : s[((i : Int)).toNat]'(by rw [Int.toNat_natCast]; exact hs) = c := by
    rw [← e]
    simp [ByteArray.getElem_eq_getElem_data]
  rw [this]
def cont (b : Int) : Prop := 128 ≤ b ∧ b < 192
instance (b : Int) : Decidable (cont b) := by unfold cont; infer_instance
def n2 (s : ByteArray) : Int := (bt s 0 - 192) * 64 + (bt s 1 - 128)
def n3 (s : ByteArray) : Int := ((bt s 0 - 224) * 64 + (bt s 1 - 128)) * 64 + (bt s 2 - 128)
def n4 (s : ByteArray) : Int := (((bt s 0 - 240) * 64 + (bt s 1 - 128)) * 64 + (bt s 2 - 128)) * 64 + (bt s 3 - 128)
def ok2 (s : ByteArray) : Prop := 194 ≤ bt s 0 ∧ bt s 0 < 224 ∧ 2 ≤ s.size ∧ cont (bt s 1)
def ok3 (s : ByteArray) : Prop := 224 ≤ bt s 0 ∧ bt s 0 < 240 ∧ 3 ≤ s.size ∧ cont (bt s 1) ∧ cont (bt s 2) ∧ 2048 ≤ n3 s ∧ (n3 s < 55296 ∨ 57343 < n3 s)
def ok4 (s : ByteArray) : Prop := 240 ≤ bt s 0 ∧ bt s 0 < 248 ∧ 4 ≤ s.size ∧ cont (bt s 1) ∧ cont (bt s 2) ∧ cont (bt s 3) ∧ 65536 ≤ n4 s ∧ n4 s ≤ 1114111
instance (s : ByteArray) : Decidable (ok2 s) := by unfold ok2; infer_instance
instance (s : ByteArray) : Decidable (ok3 s) := by unfold ok3; infer_instance
instance (s : ByteArray) : Decidable (ok4 s) := by unfold ok4; infer_instance
def ru (s : ByteArray) : Int × Int × Bool :=
  if s.size = 0 then (0, 0, false) else if bt s 0 < 128 then (bt s 0, 1, true) else if ok2 s then (n2 s, 2, true) else if ok3 s then (n3 s, 3, true) else if ok4 s then (n4 s, 4, true) else (0, 0, false)
def isB (v : Int) : Prop := 0 ≤ v ∧ v ≤ 1114111 ∧ (v < 55296 ∨ 57343 < v)
instance (v : Int) : Decidable (isB v) := by unfold isB; infer_instance
theorem is_f (v : Int) : numeraryref01_Is.f v = some (decide (isB v)) := by
  unfold numeraryref01_Is.f isB
  by_cases h1 : 0 ≤ v
  · by_cases h2 : v ≤ 1114111
    · by_cases h3 : v < 55296
      · simp [h1, h2, h3]
      · by_cases h4 : 57343 < v <;> simp [h1, h2, h3, h4]
    · simp [h1, h2]
  · simp [h1]
end Go.Proofs.YtiidpicgdjjikaaGreatDoor.PR
namespace Go.Proofs.YtiidpicgdjjikaaGreatDoor.PR
open Go.RowKit Go.Proofs.YtiidpicgdjjikaaGreatDoor.P Go.Proofs.YtiidpicgdjjikaaGreatDoor.PL Go.Proofs.YtiidpicgdjjikaaGreatDoorW.PrintWords Go.Proofs.YtiidpicgdjjikaaGreatDoorW.PrintLast Go.Proofs.YtiidpicgdjjikaaGreatDoorW.PrintMore
set_option linter.unusedVariables false
set_option linter.unusedSimpArgs false
theorem or6 (x y : Int) (h0 : 0 ≤ x) (h1 : x < 1073741824) (h2 : 0 ≤ y) (h3 : y < 64) : Go.bits .or .i64 (x * 64) y = x * 64 + y :=
  bits_join .i64 40 (by decide) (fun n a b => by
    show (if (true && decide (n % 2 ^ 64 ≥ 2 ^ 63)) = true then n % 2 ^ 64 - 2 ^ 64 else n % 2 ^ 64) = n
    have e : n % 2 ^ 64 = n := Int.emod_eq_of_lt a (by omega)
    rw [if_neg (fun d => by have := of_decide_eq_true d; omega)]
    exact e) 6 (x * 64) y (by omega) (by omega) (by omega) h2 (by omega) (by omega)
def lng (c : Int) : Int × Int := if c < 128 then (1, c) else if c < 192 then (0, 0) else if c < 224 then (2, c - 192) else if c < 240 then (3, c - 224) else if c < 248 then (4, c - 240) else (0, 0)
theorem long_fin : ∀ m : Fin 256, runes_long.f (m.val : Int) = some (lng (m.val : Int)) := by decide +kernel
theorem long_f (c : Int) (h0 : 0 ≤ c) (h1 : c ≤ 255) : runes_long.f c = some (lng c) := by
  have := long_fin ⟨c.toNat, by omega⟩
  simp only [Int.toNat_of_nonneg h0] at this
  exact this
theorem low_fin : ∀ m : Fin 256, wrap64 (Go.bits .and .u8 (m.val : Int) 63) = (m.val : Int) % 64 := by decide +kernel
theorem low_f (c : Int) (h0 : 0 ≤ c) (h1 : c ≤ 255) : wrap64 (Go.bits .and .u8 c 63) = c % 64 := by
  have := low_fin ⟨c.toNat, by omega⟩
  simp only [Int.toNat_of_nonneg h0] at this
  exact this
theorem pis_f (v : Int) : runes_is.f v = some (decide (isB v)) := is_f v
def wid (v : Int) : Int := if v < 128 then 1 else if v < 2048 then 2 else if v < 65536 then 3 else 4
theorem width_f (k : Nat) (v : Int) : runes_width.f (k + 4) v = some (wid v) := by
  have w1 : wrap64 (0 + 1) = 1 := by unfold wrap64; omega
  have w2 : wrap64 (1 + 1) = 2 := by unfold wrap64; omega
  have w3 : wrap64 (2 + 1) = 3 := by unfold wrap64; omega
  have w4 : wrap64 (3 + 1) = 4 := by unfold wrap64; omega
  have r0 : rd [128, 2048, 65536] 0 = 128 := rfl
  have r1 : rd [128, 2048, 65536] 1 = 2048 := rfl
  have r2 : rd [128, 2048, 65536] 2 = 65536 := rfl
  unfold runes_width.f
  rw [Option.bind_some]
  show runes_width.l0 (k + 4) v 1 [128, 2048, 65536] 3 0 = _
  unfold wid
  rw [runes_width.l0, if_pos (by decide), if_pos (by decide), if_pos (by decide), r0, w1, w2]
  by_cases c1 : v < 128
  · rw [if_pos c1, if_neg (by omega), runes_width.l0, if_pos (by decide), if_pos (by decide), if_pos (by decide), r1, w2, if_neg (by omega), runes_width.l0, if_pos (by decide), if_pos (by decide), if_pos (by decide), r2, w3, if_neg (by omega), runes_width.l0, if_neg (by decide)]
  · rw [if_neg c1, if_pos (by omega), runes_width.l0, if_pos (by decide), if_pos (by decide), if_pos (by decide), r1, w2, w3]
    by_cases c2 : v < 2048
    · rw [if_pos c2, if_neg (by omega), runes_width.l0, if_pos (by decide), if_pos (by decide), if_pos (by decide), r2, w3, if_neg (by omega), runes_width.l0, if_neg (by decide)]
    · rw [if_neg c2, if_pos (by omega), runes_width.l0, if_pos (by decide), if_pos (by decide), if_pos (by decide), r2, w3, w4]
      by_cases c3 : v < 65536
      · rw [if_pos c3, if_neg (by omega), runes_width.l0, if_neg (by decide)]
      · rw [if_neg c3, if_pos (by omega), runes_width.l0, if_neg (by decide)]
theorem rd_ext (s : ByteArray) (n i : Nat) (hn : n ≤ s.size) (hi : i + 1 < n) : rd (bytesOf (s.extract 1 n)) (i : Int) = bt s ((i + 1 : Nat) : Int) := by
  have hl : i + 1 < s.data.toList.length := by rw [← PL.size_list]; omega
  have hb := bt_eq s (i + 1) (s.data.toList[i + 1]) (List.getElem?_eq_getElem hl)
  rw [hb]
  unfold rd bytesOf
  rw [extract_list, Int.toNat_natCast, List.getD_eq_getElem?_getD, List.getElem?_map, List.getElem?_drop, List.getElem?_take_of_lt (by omega), show 1 + i = i + 1 by omega, List.getElem?_eq_getElem hl]
  rfl
theorem len_ext (s : ByteArray) (n : Nat) (hn : n ≤ s.size) : (bytesOf (s.extract 1 n)).length = n - 1 := by
  rw [bytesOf_length, ByteArray.size_extract]
  omega
theorem p_fin (k : Nat) (w v : Int) (ys : List Int) (n : Int) (hn : n = (ys.length : Int)) : runes_First.l0 (k + 5) w v ys n n = some (if isB v ∧ wid v = w then (v, w, true) else (0, 0, false)) := by
  rw [runes_First.l0, if_neg (by omega), pis_f, Option.bind_some, width_f, Option.bind_some]
  by_cases h : isB v
  · rw [decide_eq_true h, if_pos rfl]
    by_cases c : wid v = w
    · rw [if_pos c, if_pos ⟨h, c⟩]
    · rw [if_neg c, if_neg (fun d => c d.2)]
  · rw [decide_eq_false h, if_neg (by decide), if_neg (fun d => h d.1)]
theorem p_step (k : Nat) (s : ByteArray) (w v : Int) (n i : Nat) (hn : n ≤ s.size) (hi : i + 1 < n) (hn4 : n ≤ 4) (h0 : 0 ≤ v) (h1 : v < 1000000) :
    runes_First.l0 (k + 1) w v (bytesOf (s.extract 1 n)) ((n - 1 : Nat) : Int) (i : Int) =
      if cont (bt s ((i + 1 : Nat) : Int)) then runes_First.l0 k w (v * 64 + (bt s ((i + 1 : Nat) : Int) - 128)) (bytesOf (s.extract 1 n)) ((n - 1 : Nat) : Int) ((i + 1 : Nat) : Int) else some (0, 0, false) := by
  have hb := bt_range s ((i + 1 : Nat) : Int)
  have e : wrap64 ((i : Int) + 1) = ((i + 1 : Nat) : Int) := by unfold wrap64; omega
  have e1 : wrap64 (v * 64) = v * 64 := by unfold wrap64; omega
  rw [runes_First.l0, if_pos (by omega), if_pos (by omega), if_pos (by rw [len_ext s n hn]; omega), rd_ext s n i hn hi, e, e1, low_f _ hb.1 hb.2, or6 v _ h0 (by omega) (by omega) (by omega)]
  have hc : cont (bt s ((i + 1 : Nat) : Int)) ↔ bt s ((i + 1 : Nat) : Int) / 64 = 2 := by unfold cont; omega
  by_cases c : bt s ((i + 1 : Nat) : Int) / 64 = 2
  · have := hc.2 c
    unfold cont at this
    rw [if_pos c, if_pos (hc.2 c), show bt s ((i + 1 : Nat) : Int) % 64 = bt s ((i + 1 : Nat) : Int) - 128 by omega]
  · rw [if_neg c, if_neg (fun d => c (hc.1 d))]
theorem p_in (k : Nat) (s : ByteArray) (n : Nat) (v : Int) (hn : n ≤ s.size) (h1 : 1 ≤ n) (h4 : n ≤ 4) : runes_First.j0 (k + 1) s (n : Int) v false = runes_First.l0 k (n : Int) v (bytesOf (s.extract 1 n)) ((n - 1 : Nat) : Int) 0 := by
  rw [runes_First.j0, if_neg (by decide), if_pos (by omega), if_pos (by omega), Int.toNat_natCast, if_pos (by rw [ByteArray.size_extract]; omega), Option.bind_some, len_ext s n hn]
theorem progFirst (k : Nat) (hk : 20 ≤ k) (s : ByteArray) : runes_First.f k s = some (ru s) := by
  have r0 := bt_range s 0
  have r1 := bt_range s 1
  have r2 := bt_range s 2
  have r3 := bt_range s 3
  obtain ⟨k, rfl⟩ : ∃ j, k = j + 20 := ⟨k - 20, by omega⟩
  unfold runes_First.f ru
  by_cases z : s.size = 0
  · rw [if_pos (by rw [PL.toList_data]; exact List.length_eq_zero_iff.1 (by rw [← PL.size_list]; exact z)), if_pos z]
  rw [if_neg (by rw [PL.toList_data]; exact fun d => z (by rw [PL.size_list, d]; rfl)), if_neg z, if_pos (by omega), long_f _ r0.1 r0.2, Option.bind_some]
  have none0 : ∀ (a b : Int), runes_First.j0 (k + 20) s a b true = some (0, 0, false) := fun a b => by rw [runes_First.j0, if_pos rfl]
  unfold lng
  by_cases c1 : bt s 0 < 128
  · rw [if_pos c1, if_pos c1, if_neg (show ¬ (1 : Int) = 0 by decide), decide_eq_false (by omega)]
    have a := p_in (k + 19) s 1 (bt s 0) (by omega) (by omega) (by omega)
    have b := p_fin (k + 14) 1 (bt s 0) (bytesOf (s.extract 1 1)) 0 (by rw [len_ext s 1 (by omega)]; rfl)
    refine (a.trans b).trans ?_
    rw [if_pos ⟨by unfold isB; omega, by unfold wid; rw [if_pos c1]⟩]
  rw [if_neg c1, if_neg c1]
  by_cases c2 : bt s 0 < 192
  · rw [if_pos c2, if_pos rfl, none0, if_neg (by unfold ok2; omega), if_neg (by unfold ok3; omega), if_neg (by unfold ok4; omega)]
  rw [if_neg c2]
  by_cases c3 : bt s 0 < 224
  · rw [if_pos c3, if_neg (show ¬ (2 : Int) = 0 by decide), if_neg (show ¬ ok3 s by unfold ok3; omega), if_neg (show ¬ ok4 s by unfold ok4; omega)]
    by_cases z2 : 2 ≤ s.size
    · rw [decide_eq_false (by omega)]
      have a := p_in (k + 19) s 2 (bt s 0 - 192) z2 (by omega) (by omega)
      have b := p_step (k + 18) s 2 (bt s 0 - 192) 2 0 z2 (by omega) (by omega) (by omega) (by omega)
      have c := p_fin (k + 13) 2 (n2 s) (bytesOf (s.extract 1 2)) 1 (by rw [len_ext s 2 z2]; rfl)
      refine (a.trans b).trans ?_
      by_cases d1 : cont (bt s 1)
      · refine (if_pos d1).trans (c.trans ?_)
        have hc := d1
        unfold cont at hc
        have hw : (isB (n2 s) ∧ wid (n2 s) = 2) ↔ ok2 s := by
          unfold isB wid ok2
          have hn : n2 s = (bt s 0 - 192) * 64 + (bt s 1 - 128) := rfl
          constructor
          · rintro ⟨_, h2⟩
            refine ⟨?_, c3, z2, d1⟩
            split at h2
            · omega
            · omega
          · rintro ⟨h1, _⟩
            refine ⟨by omega, ?_⟩
            rw [if_neg (by omega), if_pos (by omega)]
        by_cases o : ok2 s
        · rw [if_pos o, if_pos (hw.2 o)]
        · rw [if_neg o, if_neg (fun d => o (hw.1 d))]
      · rw [if_neg (show ¬ ok2 s from fun d => d1 d.2.2.2)]
        exact if_neg d1
    · rw [decide_eq_true (by omega), none0, if_neg (show ¬ ok2 s from fun d => z2 d.2.2.1)]
  rw [if_neg c3, if_neg (show ¬ ok2 s by unfold ok2; omega)]
  by_cases c4 : bt s 0 < 240
  · rw [if_pos c4, if_neg (show ¬ (3 : Int) = 0 by decide), if_neg (show ¬ ok4 s by unfold ok4; omega)]
    by_cases z3 : 3 ≤ s.size
    · rw [decide_eq_false (by omega)]
      have a := p_in (k + 19) s 3 (bt s 0 - 224) z3 (by omega) (by omega)
      have b := p_step (k + 18) s 3 (bt s 0 - 224) 3 0 z3 (by omega) (by omega) (by omega) (by omega)
      refine (a.trans b).trans ?_
      by_cases d1 : cont (bt s 1)
      · have h1 := d1
        unfold cont at h1
        have b2 := p_step (k + 17) s 3 ((bt s 0 - 224) * 64 + (bt s 1 - 128)) 3 1 z3 (by omega) (by omega) (by omega) (by omega)
        have c := p_fin (k + 12) 3 (n3 s) (bytesOf (s.extract 1 3)) 2 (by rw [len_ext s 3 z3]; rfl)
        refine (if_pos d1).trans (b2.trans ?_)
        by_cases d2 : cont (bt s 2)
        · have h2 := d2
          unfold cont at h2
          refine (if_pos d2).trans (c.trans ?_)
          have hw : (isB (n3 s) ∧ wid (n3 s) = 3) ↔ ok3 s := by
            unfold isB wid ok3
            have hn : n3 s = ((bt s 0 - 224) * 64 + (bt s 1 - 128)) * 64 + (bt s 2 - 128) := rfl
            constructor
            · rintro ⟨g1, g2⟩
              refine ⟨by omega, c4, z3, d1, d2, ?_, g1.2.2⟩
              split at g2
              · omega
              · split at g2
                · omega
                · omega
            · rintro ⟨g0, g1, g2, g3, g4, g5, g6⟩
              refine ⟨by omega, ?_⟩
              rw [if_neg (by omega), if_neg (by omega), if_pos (by omega)]
          by_cases o : ok3 s
          · rw [if_pos o, if_pos (hw.2 o)]
          · rw [if_neg o, if_neg (fun d => o (hw.1 d))]
        · rw [if_neg (show ¬ ok3 s from fun d => d2 d.2.2.2.2.1)]
          exact if_neg d2
      · rw [if_neg (show ¬ ok3 s from fun d => d1 d.2.2.2.1)]
        exact if_neg d1
    · rw [decide_eq_true (by omega), none0, if_neg (show ¬ ok3 s from fun d => z3 d.2.2.1)]
  rw [if_neg c4, if_neg (show ¬ ok3 s by unfold ok3; omega)]
  by_cases c5 : bt s 0 < 248
  · rw [if_pos c5, if_neg (show ¬ (4 : Int) = 0 by decide)]
    by_cases z4 : 4 ≤ s.size
    · rw [decide_eq_false (by omega)]
      have a := p_in (k + 19) s 4 (bt s 0 - 240) z4 (by omega) (by omega)
      have b := p_step (k + 18) s 4 (bt s 0 - 240) 4 0 z4 (by omega) (by omega) (by omega) (by omega)
      refine (a.trans b).trans ?_
      by_cases d1 : cont (bt s 1)
      · have h1 := d1
        unfold cont at h1
        have b2 := p_step (k + 17) s 4 ((bt s 0 - 240) * 64 + (bt s 1 - 128)) 4 1 z4 (by omega) (by omega) (by omega) (by omega)
        refine (if_pos d1).trans (b2.trans ?_)
        by_cases d2 : cont (bt s 2)
        · have h2 := d2
          unfold cont at h2
          have b3 := p_step (k + 16) s 4 (((bt s 0 - 240) * 64 + (bt s 1 - 128)) * 64 + (bt s 2 - 128)) 4 2 z4 (by omega) (by omega) (by omega) (by omega)
          have c := p_fin (k + 11) 4 (n4 s) (bytesOf (s.extract 1 4)) 3 (by rw [len_ext s 4 z4]; rfl)
          refine (if_pos d2).trans (b3.trans ?_)
          by_cases d3 : cont (bt s 3)
          · have h3 := d3
            unfold cont at h3
            refine (if_pos d3).trans (c.trans ?_)
            have hw : (isB (n4 s) ∧ wid (n4 s) = 4) ↔ ok4 s := by
              unfold isB wid ok4
              have hn : n4 s = (((bt s 0 - 240) * 64 + (bt s 1 - 128)) * 64 + (bt s 2 - 128)) * 64 + (bt s 3 - 128) := rfl
              constructor
              · rintro ⟨g1, g2⟩
                refine ⟨by omega, c5, z4, d1, d2, d3, ?_, g1.2.1⟩
                split at g2
                · omega
                · split at g2
                  · omega
                  · split at g2
                    · omega
                    · omega
              · rintro ⟨g0, g1, g2, g3, g4, g5, g6, g7⟩
                refine ⟨by omega, ?_⟩
                rw [if_neg (by omega), if_neg (by omega), if_neg (by omega)]
            by_cases o : ok4 s
            · rw [if_pos o, if_pos (hw.2 o)]
            · rw [if_neg o, if_neg (fun d => o (hw.1 d))]
          · rw [if_neg (show ¬ ok4 s from fun d => d3 d.2.2.2.2.2.1)]
            exact if_neg d3
        · rw [if_neg (show ¬ ok4 s from fun d => d2 d.2.2.2.2.1)]
          exact if_neg d2
      · rw [if_neg (show ¬ ok4 s from fun d => d1 d.2.2.2.1)]
        exact if_neg d1
    · rw [decide_eq_true (by omega), none0, if_neg (show ¬ ok4 s from fun d => z4 d.2.2.1)]
  · rw [if_neg c5, if_pos rfl, none0, if_neg (show ¬ ok4 s by unfold ok4; omega)]
theorem ru_size (s : ByteArray) (h : (ru s).2.2 = true) : 1 ≤ (ru s).2.1 ∧ (ru s).2.1 ≤ 4 ∧ (ru s).2.1 ≤ s.size := by
  unfold ru at h ⊢
  by_cases z : s.size = 0
  · rw [if_pos z] at h; exact absurd h (by decide)
  rw [if_neg z] at h ⊢
  by_cases c1 : bt s 0 < 128
  · rw [if_pos c1]; simp only []; omega
  rw [if_neg c1] at h ⊢
  by_cases c2 : ok2 s
  · rw [if_pos c2]; have := c2.2.2.1; simp only []; omega
  rw [if_neg c2] at h ⊢
  by_cases c3 : ok3 s
  · rw [if_pos c3]; have := c3.2.2.1; simp only []; omega
  rw [if_neg c3] at h ⊢
  by_cases c4 : ok4 s
  · rw [if_pos c4]; have := c4.2.2.1; simp only []; omega
  rw [if_neg c4] at h
  exact absurd h (by decide)
end Go.Proofs.YtiidpicgdjjikaaGreatDoor.PR
namespace Go.Proofs.YtiidpicgdjjikaaGreatDoor.PT
open Go.RowKit Go.Proofs.YtiidpicgdjjikaaGreatDoor.P Go.Proofs.YtiidpicgdjjikaaGreatDoor.G Go.Proofs.YtiidpicgdjjikaaGreatDoor.PL Go.Proofs.YtiidpicgdjjikaaGreatDoor.PR Go.Proofs.YtiidpicgdjjikaaGreatDoor.PC Go.Proofs.YtiidpicgdjjikaaGreatDoorW.PrintWords Go.Proofs.YtiidpicgdjjikaaGreatDoorW.PrintLast Go.Proofs.YtiidpicgdjjikaaGreatDoorW.PrintMore
set_option linter.unusedVariables false
set_option linter.unusedSimpArgs false
def ba (l : List UInt8) : ByteArray := ⟨l.toArray⟩
theorem ba_list (l : List UInt8) : (ba l).data.toList = l := mk_list l
theorem ba_of {s : ByteArray} {l : List UInt8} (h : s.data.toList = l) : s = ba l := ba_ext (by rw [h, ba_list])
theorem ext_drop (s : ByteArray) (p : Nat) : s.extract p s.size = ba (s.data.toList.drop p) := ba_of (by
  rw [extract_list]
  congr 1
  exact List.take_of_length_le (by rw [PL.size_list]; exact Nat.le_refl _))
def ruL (l : List UInt8) : Int × Int × Bool := ru (ba l)
theorem progFirstL (k : Nat) (hk : 20 ≤ k) (l : List UInt8) : runes_First.f k (ba l) = some (ruL l) := progFirst k hk (ba l)
theorem ruL_size (l : List UInt8) (h : (ruL l).2.2 = true) : 1 ≤ (ruL l).2.1.toNat ∧ (ruL l).2.1.toNat ≤ 4 ∧ (ruL l).2.1.toNat ≤ l.length ∧ ((ruL l).2.1.toNat : Int) = (ruL l).2.1 := by
  have := ru_size (ba l) h
  have e : ((ba l).size : Int) = l.length := by rw [PL.size_list, ba_list]
  unfold ruL
  omega
abbrev R7 := Int × ByteArray × Int × Int × Int × Int × Int
def cloL (last : Int) : Nat → List UInt8 → Nat → Nat × Nat
  | 0, _, p => (2, p)
  | _ + 1, [], p => (2, p)
  | f + 1, b :: l, p => if (b.toNat : Int) = last then (0, p) else if (ruL (b :: l)).2.2 = true then cloL last f ((b :: l).drop (ruL (b :: l)).2.1.toNat) (p + (ruL (b :: l)).2.1.toNat) else (1, p)
def clR (s : ByteArray) (kind e : Int) (x : Nat × Nat) : R7 := if x.1 = 0 then (kind, s.extract 1 x.2, 0, 0, (x.2 : Int) + 1, 0, 0) else if x.1 = 1 then (0, ⟨#[]⟩, 0, 0, 0, (x.2 : Int), 4) else (0, ⟨#[]⟩, 0, 0, 0, (x.2 : Int), e)
def closedS (s : ByteArray) (kind last e : Int) : R7 := clR s kind e (cloL last s.size (s.data.toList.drop 1) 1)
def markedS (s : ByteArray) (kind e : Int) : R7 :=
  if s.size < 2 then (0, ⟨#[]⟩, 0, 0, 0, 1, e) else if (ruL (s.data.toList.drop 1)).2.2 = true then (kind, s.extract 1 (1 + (ruL (s.data.toList.drop 1)).2.1.toNat), 0, 0, 1 + (ruL (s.data.toList.drop 1)).2.1, 0, 0) else (0, ⟨#[]⟩, 0, 0, 0, 1, 4)
def powerS (s : ByteArray) : Prop := 1 < s.size ∧ (bt s 0 = 69 ∨ bt s 0 = 101) ∧ (bt s 1 = 43 ∨ bt s 1 = 45)
instance (s : ByteArray) : Decidable (powerS s) := by unfold powerS; infer_instance
def beg (s : ByteArray) (w : List Nat) : Bool := decide (w.length ≤ s.size) && decide ((lows s).take w.length = w)
def runN (c : Int) (l : List UInt8) : Nat := (l.takeWhile fun b => lowI (b.toNat : Int) == c).length
def dateB (c : Int) : Bool := [121, 109, 100, 104, 115].any (· == c)
def plainB (c : Int) : Bool := [36, 45, 43, 40, 41, 58, 33, 94, 38, 39, 126, 123, 125, 60, 62, 61, 32, 49, 50, 51, 52, 53, 54, 55, 56, 57].any (· == c)
def plainS (s : ByteArray) : R7 :=
  if (ru s).2.2 = true then (if bt s 0 < 128 ∧ plainB (bt s 0) = false then (0, ⟨#[]⟩, 0, 0, 0, 0, 9) else (17, s.extract 0 (ru s).2.1.toNat, 1, 0, (ru s).2.1, 0, 0)) else (0, ⟨#[]⟩, 0, 0, 0, 0, 4)
def wordS (s : ByteArray) : R7 :=
  if beg s [97, 109, 47, 112, 109] = true then (15, ⟨#[65, 77, 47, 80, 77]⟩, 1, 0, 5, 0, 0)
  else if beg s [97, 47, 112] = true then (15, ⟨#[65, 47, 80]⟩, 1, 0, 3, 0, 0)
  else if beg s [103, 101, 110, 101, 114, 97, 108] = true then (16, ⟨#[71, 101, 110, 101, 114, 97, 108]⟩, 1, 0, 7, 0, 0)
  else if dateB (lowI (bt s 0)) = true then (14, ⟨#[UInt8.ofNat (lowI (bt s 0)).toNat]⟩, (runN (lowI (bt s 0)) s.data.toList : Int), 0, (runN (lowI (bt s 0)) s.data.toList : Int), 0, 0)
  else plainS s
def otherS (s : ByteArray) : R7 := if powerS s then (13, s.extract 1 2, 1, 0, 2, 0, 0) else wordS s
def singleS (s : ByteArray) : R7 := match singleN (bt s 0) with
  | some n => (n, s.extract 0 1, 1, 0, 1, 0, 0)
  | none => otherS s
def tokS (s : ByteArray) : R7 :=
  if bt s 0 = 34 then closedS s 1 34 5 else if bt s 0 = 92 then markedS s 2 6 else if bt s 0 = 95 then markedS s 3 8 else if bt s 0 = 42 then markedS s 4 8 else if bt s 0 = 91 then closedS s 5 93 7 else singleS s
theorem bt_drop (s : ByteArray) (p : Nat) (b : UInt8) (r : List UInt8) (h : s.data.toList.drop p = b :: r) : bt s (p : Int) = (b.toNat : Int) :=
  bt_eq s p b (by
    have := congrArg (fun l => l[0]?) h
    simp only [List.getElem?_drop, List.getElem?_cons_zero, Nat.add_zero] at this
    exact this)
theorem drop_cons (s : ByteArray) (p : Nat) (h : p < s.size) : ∃ b r, s.data.toList.drop p = b :: r := by
  have hl : p < s.data.toList.length := by rw [← PL.size_list]; exact h
  exact ⟨s.data.toList[p], s.data.toList.drop (p + 1), List.drop_eq_getElem_cons hl⟩
theorem lows_ext (s : ByteArray) (n : Nat) : lows (s.extract 0 n) = (lows s).take n := by
  unfold lows
  rw [extract_list, List.drop_zero, List.map_take]
theorem lowI_nat (n : Nat) : lowI (n : Int) = (lowN n : Int) := by unfold lowI lowN; split <;> split <;> omega
theorem closed_end (s : ByteArray) (hs : s.size ≤ 5000) (kind last e : Int) (k p : Nat) (h1 : 1 ≤ p) (h2 : p ≤ s.size) : token_closed.j1 (k + 1) s kind last e (p : Int) false = some (if p = s.size then (0, ⟨#[]⟩, 0, 0, 0, (p : Int), e) else (kind, s.extract 1 p, 0, 0, (p : Int) + 1, 0, 0)) := by
  have hw : wrap64 ((p : Int) + 1) = (p : Int) + 1 := by unfold wrap64; omega
  rw [token_closed.j1, if_neg (by decide), hw]
  by_cases c : p = s.size
  · rw [if_pos (by omega), if_pos c]
  · rw [if_neg (by omega), if_neg c, if_pos (by omega), if_pos (by omega), Int.toNat_natCast]
theorem closed_prog (s : ByteArray) (hs : s.size ≤ 5000) (kind last e : Int) (f : Nat) : ∀ (k p : Nat), s.size ≤ p + f → p ≤ s.size → 1 ≤ p → 2 * f + 41 ≤ k →
    token_closed.l0 k s kind last e (p : Int) = some (clR s kind e (cloL last f (s.data.toList.drop p) p)) := by
  have fin : ∀ (f k p : Nat), p = s.size → 2 ≤ k → 1 ≤ p → token_closed.l0 k s kind last e (p : Int) = some (clR s kind e (cloL last f (s.data.toList.drop p) p)) := by
    intro f k p hp hk h1
    obtain ⟨k, rfl⟩ : ∃ j, k = j + 2 := ⟨k - 2, by omega⟩
    have hd : s.data.toList.drop p = [] := List.drop_of_length_le (by rw [← PL.size_list]; omega)
    rw [token_closed.l0, if_neg (by omega), closed_end s hs kind last e k p h1 (by omega), if_pos hp, hd]
    cases f <;> rfl
  induction f with
  | zero => intro k p h1 h2 h3 h4; exact fin 0 k p (by omega) (by omega) h3
  | succ f ih =>
    intro k p h1 h2 h3 h4
    by_cases c : p < s.size
    · obtain ⟨k, rfl⟩ : ∃ j, k = j + 2 := ⟨k - 2, by omega⟩
      obtain ⟨b, r, hd⟩ := drop_cons s p c
      rw [token_closed.l0, if_pos (by omega), if_pos (by omega), bt_drop s p b r hd, hd, cloL]
      by_cases c2 : (b.toNat : Int) = last
      · rw [if_pos c2, bne_eq_false_iff_eq.2 c2, closed_end s hs kind last e k p h3 h2, if_neg (by omega)]
        rfl
      · rw [if_neg c2, bne_iff_ne.2 c2, token_closed.j1, if_pos rfl, if_pos (by omega), if_pos (by omega), Int.toNat_natCast, ext_drop, hd, progFirstL k (by omega), Option.bind_some]
        by_cases c3 : (ruL (b :: r)).2.2 = true
        · have hz := ruL_size _ c3
          have hl : (b :: r).length = s.size - p := by rw [← hd, List.length_drop, PL.size_list]
          rw [if_pos c3, if_pos c3]
          have ih2 := ih k (p + (ruL (b :: r)).2.1.toNat) (by omega) (by omega) (by omega) (by omega)
          rw [← List.drop_drop, hd] at ih2
          have e1 : wrap64 ((p : Int) + (ruL (b :: r)).2.1) = ((p + (ruL (b :: r)).2.1.toNat : Nat) : Int) := by unfold wrap64; omega
          rw [e1]
          exact ih2
        · rw [if_neg c3, if_neg c3]
          rfl
    · exact fin (f + 1) k p (by omega) (by omega) h3
theorem marked_prog (k : Nat) (hk : 40 ≤ k) (s : ByteArray) (h1 : 1 ≤ s.size) (hs : s.size ≤ 5000) (kind e : Int) : token_marked.f k s kind e = some (markedS s kind e) := by
  unfold token_marked.f markedS
  by_cases c : s.size < 2
  · rw [if_pos (by omega), if_pos c]
  · rw [if_neg (by omega), if_neg c, if_pos (by omega), ext_drop, progFirstL k (by omega), Option.bind_some]
    by_cases c3 : (ruL (s.data.toList.drop 1)).2.2 = true
    · have hz := ruL_size _ c3
      have hl : (s.data.toList.drop 1).length = s.size - 1 := by rw [List.length_drop, PL.size_list]
      have e1 : wrap64 (1 + (ruL (s.data.toList.drop 1)).2.1) = 1 + (ruL (s.data.toList.drop 1)).2.1 := by unfold wrap64; omega
      have e2 : (1 + (ruL (s.data.toList.drop 1)).2.1).toNat = 1 + (ruL (s.data.toList.drop 1)).2.1.toNat := by omega
      rw [if_pos c3, if_pos c3, e1, if_pos (by omega), if_pos (by omega), e2]
    · rw [if_neg c3, if_neg c3]
theorem asc_eq (s : ByteArray) : asciiB s = ascL s.data.toList := rfl
theorem word_prog (s w : ByteArray) (wl : List Nat) (hw : lows w = wl) (ha : ascL w.data.toList = true) (hf : foldS w = true) (hs : s.size ≤ 5000) : token_word.f s w = some (beg s wl) := by
  have hl : wl.length = w.size := by rw [← hw]; unfold lows; rw [List.length_map, PL.size_list]
  unfold token_word.f beg
  by_cases c : s.size < w.size
  · rw [if_neg (by omega), hl, decide_eq_false (by omega)]
    rfl
  · have hz : (s.extract 0 w.size).size < 4294967281 := by rw [ByteArray.size_extract]; omega
    rw [if_pos (by omega), if_pos (by omega), if_pos (by omega), hl, decide_eq_true (by omega), Bool.true_and, ← lows_ext, ← hw]
    by_cases a : ascL (s.extract 0 w.size).data.toList = true
    · rw [fold_f _ _ hz a ha, Option.bind_some]
    · unfold strings_EqualFold.f
      rw [if_pos hz, if_neg (by rw [asc_eq]; exact a), if_pos hf, Option.bind_some, decide_eq_false]
      intro h
      exact a (asc_of_lows ha h.symm)
theorem small_prog (c : Int) (h0 : 0 ≤ c) (h1 : c ≤ 255) : token_small.f c = some (lowI c) := by
  unfold token_small.f lowI
  by_cases a : 65 ≤ c
  · by_cases b : c ≤ 90
    · rw [if_pos (by omega), if_pos b, if_pos ⟨a, b⟩]
      congr 1
      omega
    · rw [if_pos (by omega), if_neg b, if_neg (by omega)]
  · rw [if_neg (by omega), if_neg (by omega)]
theorem date_fin : ∀ m : Fin 256, ((Lib.indexByte [121, 109, 100, 104, 115] (m.val : Int).toNat.toUInt8 < 0) ↔ ¬ dateB (m.val : Int) = true) := by decide +kernel
theorem plain_fin : ∀ m : Fin 256, ((Lib.indexByte [36, 45, 43, 40, 41, 58, 33, 94, 38, 39, 126, 123, 125, 60, 62, 61, 32, 49, 50, 51, 52, 53, 54, 55, 56, 57] (m.val : Int).toNat.toUInt8 < 0) ↔ plainB (m.val : Int) = false) := by decide +kernel
theorem date_ix (c : Int) (h0 : 0 ≤ c) (h1 : c ≤ 255) : ((Lib.indexByte (⟨#[121, 109, 100, 104, 115]⟩ : ByteArray).data.toList c.toNat.toUInt8 < 0) ↔ ¬ dateB c = true) := by
  have := date_fin ⟨c.toNat, by omega⟩
  simp only [Int.toNat_of_nonneg h0] at this
  exact this
theorem plain_ix (c : Int) (h0 : 0 ≤ c) (h1 : c ≤ 255) : ((Lib.indexByte (⟨#[36, 45, 43, 40, 41, 58, 33, 94, 38, 39, 126, 123, 125, 60, 62, 61, 32, 49, 50, 51, 52, 53, 54, 55, 56, 57]⟩ : ByteArray).data.toList c.toNat.toUInt8 < 0) ↔ plainB c = false) := by
  have := plain_fin ⟨c.toNat, by omega⟩
  simp only [Int.toNat_of_nonneg h0] at this
  exact this
theorem lowI_range (c : Int) (h0 : 0 ≤ c) (h1 : c ≤ 255) : 0 ≤ lowI c ∧ lowI c ≤ 255 := by unfold lowI; split <;> omega
theorem one_num (c : Int) : strOfNums [c] = ⟨#[UInt8.ofNat c.toNat]⟩ := by
  refine ba_ext ?_
  rw [strOfNums_data]
  rfl
theorem run_prog (s : ByteArray) (hs : s.size ≤ 5000) (c : Int) : ∀ (d i k : Nat), i + d = s.size → d + 1 ≤ k →
    token_lettered.l1 k s c (i : Int) = some (14, strOfNums [c], ((i + runN c (s.data.toList.drop i) : Nat) : Int), 0, ((i + runN c (s.data.toList.drop i) : Nat) : Int))
  | 0, i, k, hi, hk => by
    obtain ⟨k, rfl⟩ : ∃ j, k = j + 1 := ⟨k - 1, by omega⟩
    rw [token_lettered.l1, if_neg (by omega), List.drop_of_length_le (by rw [← PL.size_list]; omega)]
    rfl
  | d + 1, i, k, hi, hk => by
    obtain ⟨k, rfl⟩ : ∃ j, k = j + 1 := ⟨k - 1, by omega⟩
    have ih := run_prog s hs c d (i + 1) k (by omega) (by omega)
    have hl2 : i < s.data.toList.length := by rw [← PL.size_list]; omega
    have hb := bt_range s (i : Int)
    have e : wrap64 ((i : Int) + 1) = ((i + 1 : Nat) : Int) := by unfold wrap64; omega
    rw [token_lettered.l1, if_pos (by omega), if_pos (by omega), small_prog _ hb.1 hb.2, Option.bind_some, e, List.drop_eq_getElem_cons hl2, bt_eq s i _ (List.getElem?_eq_getElem hl2)]
    unfold runN
    rw [List.takeWhile_cons]
    by_cases c1 : lowI ((s.data.toList[i]).toNat : Int) = c
    · rw [if_pos c1, ih, if_pos (beq_iff_eq.2 c1)]
      unfold runN
      rw [List.length_cons]
      have e2 : ((i + 1 + (List.takeWhile (fun b => lowI (b.toNat : Int) == c) (List.drop (i + 1) s.data.toList)).length : Nat) : Int) = ((i + ((List.takeWhile (fun b => lowI (b.toNat : Int) == c) (List.drop (i + 1) s.data.toList)).length + 1) : Nat) : Int) := by omega
      rw [e2]
    · rw [if_neg c1, if_neg (fun d => c1 (beq_iff_eq.1 d))]
      rfl
theorem run_head (s : ByteArray) (h1 : 1 ≤ s.size) : runN (lowI (bt s 0)) s.data.toList = 1 + runN (lowI (bt s 0)) (s.data.toList.drop 1) := by
  obtain ⟨b, r, hd⟩ := drop_cons s 0 (by omega)
  have hb := bt_drop s 0 b r hd
  rw [show ((0 : Nat) : Int) = 0 from rfl] at hb
  rw [List.drop_zero] at hd
  rw [hd]
  unfold runN
  rw [List.takeWhile_cons, if_pos (by rw [hb]; exact beq_iff_eq.2 rfl), List.length_cons, List.drop_one, List.tail_cons]
  omega
def letS (s : ByteArray) : Int × ByteArray × Int × Int × Int :=
  if beg s [97, 109, 47, 112, 109] = true then (15, ⟨#[65, 77, 47, 80, 77]⟩, 1, 0, 5)
  else if beg s [97, 47, 112] = true then (15, ⟨#[65, 47, 80]⟩, 1, 0, 3)
  else if beg s [103, 101, 110, 101, 114, 97, 108] = true then (16, ⟨#[71, 101, 110, 101, 114, 97, 108]⟩, 1, 0, 7)
  else if powerS s then (13, s.extract 1 2, 1, 0, 2)
  else if dateB (lowI (bt s 0)) = true then (14, ⟨#[UInt8.ofNat (lowI (bt s 0)).toNat]⟩, (runN (lowI (bt s 0)) s.data.toList : Int), 0, (runN (lowI (bt s 0)) s.data.toList : Int))
  else (0, ⟨#[]⟩, 0, 0, 0)
theorem low101 (c : Int) (h0 : 0 ≤ c) : lowI c = 101 ↔ (c = 69 ∨ c = 101) := by unfold lowI; split <;> omega
theorem let_prog (k : Nat) (s : ByteArray) (h1 : 1 ≤ s.size) (hs : s.size ≤ 5000) (hk : s.size + 50 ≤ k) : token_lettered.f k s = some (letS s) := by
  have r0 := bt_range s 0
  have r1 := bt_range s 1
  have w1 : wrap64 (0 + 1) = 1 := by unfold wrap64; omega
  have w2 : wrap64 (1 + 1) = 2 := by unfold wrap64; omega
  obtain ⟨k, rfl⟩ : ∃ j, k = j + 4 := ⟨k - 4, by omega⟩
  unfold token_lettered.f letS
  rw [Option.bind_some]
  show token_lettered.l0 (k + 4) s [⟨#[65, 77, 47, 80, 77]⟩, ⟨#[65, 47, 80]⟩] 2 0 = _
  rw [token_lettered.l0, if_pos (by decide), if_pos (by decide), if_pos (by decide), show rdOf ByteArray.empty [(⟨#[65, 77, 47, 80, 77]⟩ : ByteArray), ⟨#[65, 47, 80]⟩] 0 = ⟨#[65, 77, 47, 80, 77]⟩ from rfl, word_prog s ⟨#[65, 77, 47, 80, 77]⟩ [97, 109, 47, 112, 109] (by decide +kernel) (by decide +kernel) (by decide +kernel) hs, Option.bind_some, w1]
  by_cases c1 : beg s [97, 109, 47, 112, 109] = true
  · rw [if_pos c1, if_pos c1]
    rfl
  rw [if_neg c1, if_neg c1, token_lettered.l0, if_pos (by decide), if_pos (by decide), if_pos (by decide), show rdOf ByteArray.empty [(⟨#[65, 77, 47, 80, 77]⟩ : ByteArray), ⟨#[65, 47, 80]⟩] 1 = ⟨#[65, 47, 80]⟩ from rfl, word_prog s ⟨#[65, 47, 80]⟩ [97, 47, 112] (by decide +kernel) (by decide +kernel) (by decide +kernel) hs, Option.bind_some, w2]
  by_cases c2 : beg s [97, 47, 112] = true
  · rw [if_pos c2, if_pos c2]
    rfl
  rw [if_neg c2, if_neg c2, token_lettered.l0, if_neg (by decide), word_prog s ⟨#[71, 101, 110, 101, 114, 97, 108]⟩ [103, 101, 110, 101, 114, 97, 108] (by decide +kernel) (by decide +kernel) (by decide +kernel) hs, Option.bind_some]
  by_cases c3 : beg s [103, 101, 110, 101, 114, 97, 108] = true
  · rw [if_pos c3, if_pos c3]
  rw [if_neg c3, if_neg c3, if_pos (by omega), small_prog _ r0.1 r0.2, Option.bind_some]
  have jt : token_lettered.j1 (k + 1) s (lowI (bt s 0)) true = some (13, s.extract 1 2, 1, 0, 2) ∨ ¬ 2 ≤ s.size := by
    by_cases z : 2 ≤ s.size
    · left
      rw [token_lettered.j1, if_pos rfl, if_pos (by decide), if_pos (by omega)]
    · exact Or.inr z
  have lr := lowI_range (bt s 0) r0.1 r0.2
  have jf : token_lettered.j1 (k + 1) s (lowI (bt s 0)) false = some (if dateB (lowI (bt s 0)) = true then (14, ⟨#[UInt8.ofNat (lowI (bt s 0)).toNat]⟩, (runN (lowI (bt s 0)) s.data.toList : Int), 0, (runN (lowI (bt s 0)) s.data.toList : Int)) else (0, ⟨#[]⟩, 0, 0, 0)) := by
    rw [token_lettered.j1, if_neg (by decide), strings_IndexByte.f, Option.bind_some]
    have hx := date_ix (lowI (bt s 0)) lr.1 lr.2
    by_cases d : dateB (lowI (bt s 0)) = true
    · have h := run_prog s hs (lowI (bt s 0)) (s.size - 1) 1 k (by omega) (by omega)
      rw [if_neg (fun e => hx.1 e d), if_pos d, run_head s h1]
      rw [show ((1 : Nat) : Int) = 1 from rfl, one_num] at h
      exact h
    · rw [if_pos (hx.2 d), if_neg d]
  by_cases e1 : lowI (bt s 0) = 101
  · rw [if_pos e1]
    by_cases z : 1 < s.size
    · rw [if_pos (by omega), if_pos (by omega)]
      have he := (low101 (bt s 0) r0.1).1 e1
      by_cases p1 : bt s 1 = 43
      · rw [if_pos p1, if_pos (show powerS s from ⟨z, he, Or.inl p1⟩)]
        exact jt.resolve_right (by omega)
      · rw [if_neg p1]
        by_cases p2 : bt s 1 = 45
        · rw [beq_iff_eq.2 p2, if_pos (show powerS s from ⟨z, he, Or.inr p2⟩)]
          exact jt.resolve_right (by omega)
        · rw [beq_eq_false_iff_ne.2 p2, if_neg (show ¬ powerS s by rintro ⟨_, _, h | h⟩; exact p1 h; exact p2 h)]
          exact jf
    · rw [if_neg (by omega), if_neg (show ¬ powerS s from fun h => z h.1)]
      exact jf
  · rw [if_neg e1, if_neg (show ¬ powerS s from fun h => e1 ((low101 (bt s 0) r0.1).2 h.2.1))]
    exact jf
theorem beg_head (s : ByteArray) (c : Nat) (w : List Nat) (h : beg s (c :: w) = true) : lowI (bt s 0) = (c : Int) := by
  unfold beg at h
  rw [Bool.and_eq_true, decide_eq_true_eq, decide_eq_true_eq] at h
  obtain ⟨h1, h2⟩ := h
  simp only [List.length_cons] at h1
  obtain ⟨b, r, hd⟩ := drop_cons s 0 (by omega)
  have hb := bt_drop s 0 b r hd
  rw [show ((0 : Nat) : Int) = 0 from rfl] at hb
  rw [List.drop_zero] at hd
  unfold lows at h2
  rw [hd, List.map_cons, List.length_cons, List.take_succ_cons, List.cons.injEq] at h2
  rw [hb, lowI_nat, h2.1]
theorem begun_prog (k : Nat) (s : ByteArray) (h1 : 1 ≤ s.size) (hs : s.size ≤ 5000) (hk : 2 * s.size + 70 ≤ k) : (token_begun.f k s).bind (fun x => if x.2.2.2.2.2.2.2 = true then some (x.1, x.2.1, x.2.2.1, x.2.2.2.1, x.2.2.2.2.1, x.2.2.2.2.2.1, x.2.2.2.2.2.2.1) else some (singleS s)) = some (tokS s) := by
  unfold token_begun.f tokS
  rw [if_pos (by omega)]
  have clo : ∀ kind last e : Int, (token_closed.f k s kind last e) = some (closedS s kind last e) := fun kind last e => closed_prog s hs kind last e s.size k 1 (by omega) (by omega) (by omega) (by omega)
  rw [clo, clo, marked_prog k (by omega) s h1 hs, marked_prog k (by omega) s h1 hs, marked_prog k (by omega) s h1 hs]
  by_cases c1 : bt s 0 = 34
  · rw [if_pos c1, if_pos c1]; rfl
  by_cases c2 : bt s 0 = 92
  · rw [if_neg c1, if_neg c1, if_pos c2, if_pos c2]; rfl
  by_cases c3 : bt s 0 = 95
  · rw [if_neg c1, if_neg c1, if_neg c2, if_neg c2, if_pos c3, if_pos c3]; rfl
  by_cases c4 : bt s 0 = 42
  · rw [if_neg c1, if_neg c1, if_neg c2, if_neg c2, if_neg c3, if_neg c3, if_pos c4, if_pos c4]; rfl
  by_cases c5 : bt s 0 = 91
  · rw [if_neg c1, if_neg c1, if_neg c2, if_neg c2, if_neg c3, if_neg c3, if_neg c4, if_neg c4, if_pos c5, if_pos c5]; rfl
  rw [if_neg c1, if_neg c1, if_neg c2, if_neg c2, if_neg c3, if_neg c3, if_neg c4, if_neg c4, if_neg c5, if_neg c5, Option.bind_some, if_neg (by decide)]
theorem progTok (k : Nat) (s : ByteArray) (h1 : 1 ≤ s.size) (hs : s.size ≤ 5000) (hk : 2 * s.size + 70 ≤ k) : token_first.f k s = some (tokS s) := by
  have r0 := bt_range s 0
  rw [← begun_prog k s h1 hs hk]
  unfold token_first.f
  congr 1
  funext x
  by_cases b : x.2.2.2.2.2.2.2 = true
  · rw [if_pos b, if_pos b]
  rw [if_neg b, if_neg b, if_pos (by omega), token_single.f, Option.bind_some]
  unfold singleS
  cases hsn : singleN (bt s 0) with
  | some n =>
    rw [if_pos (show (some n).isSome = true from rfl), if_pos (by decide), if_pos (by omega)]
    rfl
  | none =>
    rw [if_neg (show ¬ (none : Option Int).isSome = true by decide), let_prog k s h1 hs (by omega), Option.bind_some]
    unfold otherS wordS letS
    by_cases p : powerS s
    · have hp := (low101 (bt s 0) r0.1).2 p.2.1
      rw [if_neg (show ¬ beg s [97, 109, 47, 112, 109] = true from fun h => by have := beg_head s _ _ h; omega), if_neg (show ¬ beg s [97, 47, 112] = true from fun h => by have := beg_head s _ _ h; omega), if_neg (show ¬ beg s [103, 101, 110, 101, 114, 97, 108] = true from fun h => by have := beg_head s _ _ h; omega), if_pos p, if_pos p]
      rfl
    rw [if_neg p, if_neg p]
    by_cases c1 : beg s [97, 109, 47, 112, 109] = true
    · rw [if_pos c1, if_pos c1]; rfl
    rw [if_neg c1, if_neg c1]
    by_cases c2 : beg s [97, 47, 112] = true
    · rw [if_pos c2, if_pos c2]; rfl
    rw [if_neg c2, if_neg c2]
    by_cases c3 : beg s [103, 101, 110, 101, 114, 97, 108] = true
    · rw [if_pos c3, if_pos c3]; rfl
    rw [if_neg c3, if_neg c3]
    by_cases d : dateB (lowI (bt s 0)) = true
    · have hr := run_head s h1
      rw [if_pos d, if_pos d, if_pos (show (runN (lowI (bt s 0)) s.data.toList : Int) > 0 by omega)]
    rw [if_neg d, if_neg d, if_neg (show ¬ (0 : Int) > 0 by decide), progFirst k (by omega), Option.bind_some]
    unfold plainS
    by_cases r : (ru s).2.2 = true
    · have hz := ru_size s r
      have hx := plain_ix (bt s 0) r0.1 r0.2
      rw [if_pos r, if_pos r]
      by_cases a : bt s 0 < 128
      · rw [if_pos a, strings_IndexByte.f, Option.bind_some]
        by_cases q : plainB (bt s 0) = false
        · rw [if_pos (hx.2 q), if_pos ⟨a, q⟩]
        · rw [if_neg (fun e => q (hx.1 e)), if_pos (by omega), if_pos (by omega), if_neg (fun e => q e.2)]
      · rw [if_neg a, if_pos (by omega), if_pos (by omega), if_neg (fun e => a e.1)]
    · rw [if_neg r, if_neg r]
theorem cloL_range (last : Int) : ∀ (f : Nat) (l : List UInt8) (p : Nat), p ≤ (cloL last f l p).2 ∧ (cloL last f l p).2 ≤ p + l.length ∧ ((cloL last f l p).1 = 0 → (cloL last f l p).2 < p + l.length)
  | 0, l, p => by rw [cloL]; exact ⟨Nat.le_refl _, Nat.le_add_right _ _, fun h => absurd h (show ¬ (2 : Nat) = 0 by decide)⟩
  | f + 1, [], p => by rw [cloL]; exact ⟨Nat.le_refl _, Nat.le_add_right _ _, fun h => absurd h (show ¬ (2 : Nat) = 0 by decide)⟩
  | f + 1, b :: l, p => by
    rw [cloL]
    by_cases c : (b.toNat : Int) = last
    · rw [if_pos c]; refine ⟨Nat.le_refl _, Nat.le_add_right _ _, fun _ => ?_⟩; simp only [List.length_cons]; omega
    · rw [if_neg c]
      by_cases c3 : (ruL (b :: l)).2.2 = true
      · have hz := ruL_size _ c3
        have ih := cloL_range last f ((b :: l).drop (ruL (b :: l)).2.1.toNat) (p + (ruL (b :: l)).2.1.toNat)
        rw [List.length_drop] at ih
        rw [if_pos c3]
        omega
      · rw [if_neg c3]; exact ⟨Nat.le_refl _, Nat.le_add_right _ _, fun h => absurd h (show ¬ (1 : Nat) = 0 by decide)⟩
def Fits (s : ByteArray) (t : R7) : Prop := (t.2.2.2.2.2.2 = 0 → 1 ≤ t.2.2.2.2.1 ∧ t.2.2.2.2.1 ≤ s.size) ∧ 0 ≤ t.2.2.2.2.2.1 ∧ t.2.2.2.2.2.1 ≤ s.size
theorem closed_fits (s : ByteArray) (h1 : 1 ≤ s.size) (kind last e : Int) (he : e ≠ 0) : Fits s (closedS s kind last e) := by
  have h := cloL_range last s.size (s.data.toList.drop 1) 1
  have hl : (s.data.toList.drop 1).length = s.size - 1 := by rw [List.length_drop, PL.size_list]
  rw [hl] at h
  unfold closedS clR Fits
  by_cases c : (cloL last s.size (s.data.toList.drop 1) 1).1 = 0
  · have := h.2.2 c
    rw [if_pos c]
    refine ⟨fun _ => ⟨?_, ?_⟩, ?_, ?_⟩ <;> simp only [] <;> omega
  · rw [if_neg c]
    by_cases c2 : (cloL last s.size (s.data.toList.drop 1) 1).1 = 1
    · rw [if_pos c2]
      refine ⟨fun d => absurd d (by show ¬ ((4 : Int) = 0); decide), ?_, ?_⟩ <;> simp only [] <;> omega
    · rw [if_neg c2]
      refine ⟨fun d => absurd d he, ?_, ?_⟩ <;> simp only [] <;> omega
theorem marked_fits (s : ByteArray) (h1 : 1 ≤ s.size) (kind e : Int) (he : e ≠ 0) : Fits s (markedS s kind e) := by
  unfold markedS Fits
  by_cases c : s.size < 2
  · rw [if_pos c]
    refine ⟨fun d => absurd d he, ?_, ?_⟩ <;> simp only [] <;> omega
  · rw [if_neg c]
    by_cases c3 : (ruL (s.data.toList.drop 1)).2.2 = true
    · have hz := ruL_size _ c3
      have hl : (s.data.toList.drop 1).length = s.size - 1 := by rw [List.length_drop, PL.size_list]
      rw [if_pos c3]
      refine ⟨fun _ => ⟨?_, ?_⟩, ?_, ?_⟩ <;> simp only [] <;> omega
    · rw [if_neg c3]
      refine ⟨fun d => absurd d (by show ¬ ((4 : Int) = 0); decide), ?_, ?_⟩ <;> simp only [] <;> omega
theorem beg_size (s : ByteArray) (w : List Nat) (h : beg s w = true) : w.length ≤ s.size := by
  unfold beg at h
  rw [Bool.and_eq_true, decide_eq_true_eq] at h
  exact h.1
theorem plain_fits (s : ByteArray) (h1 : 1 ≤ s.size) : Fits s (plainS s) := by
  unfold plainS Fits
  by_cases r : (ru s).2.2 = true
  · have hz := ru_size s r
    rw [if_pos r]
    by_cases a : bt s 0 < 128 ∧ plainB (bt s 0) = false
    · rw [if_pos a]
      refine ⟨fun d => absurd d (by show ¬ ((9 : Int) = 0); decide), ?_, ?_⟩ <;> simp only [] <;> omega
    · rw [if_neg a]
      refine ⟨fun _ => ⟨?_, ?_⟩, ?_, ?_⟩ <;> simp only [] <;> omega
  · rw [if_neg r]
    refine ⟨fun d => absurd d (by show ¬ ((4 : Int) = 0); decide), ?_, ?_⟩ <;> simp only [] <;> omega
theorem runN_le (c : Int) (l : List UInt8) : runN c l ≤ l.length := by
  unfold runN
  exact (List.takeWhile_sublist _).length_le
theorem tok_fits (s : ByteArray) (h1 : 1 ≤ s.size) : Fits s (tokS s) := by
  unfold tokS
  by_cases c1 : bt s 0 = 34
  · rw [if_pos c1]; exact closed_fits s h1 _ _ _ (by decide)
  rw [if_neg c1]
  by_cases c2 : bt s 0 = 92
  · rw [if_pos c2]; exact marked_fits s h1 _ _ (by decide)
  rw [if_neg c2]
  by_cases c3 : bt s 0 = 95
  · rw [if_pos c3]; exact marked_fits s h1 _ _ (by decide)
  rw [if_neg c3]
  by_cases c4 : bt s 0 = 42
  · rw [if_pos c4]; exact marked_fits s h1 _ _ (by decide)
  rw [if_neg c4]
  by_cases c5 : bt s 0 = 91
  · rw [if_pos c5]; exact closed_fits s h1 _ _ _ (by decide)
  rw [if_neg c5]
  have good : ∀ (k : Int) (t : ByteArray) (c n : Int), 1 ≤ n → n ≤ s.size → Fits s (k, t, c, 0, n, 0, 0) := fun k t c n a b => ⟨fun _ => ⟨a, b⟩, Int.le_refl _, by show (0 : Int) ≤ s.size; omega⟩
  unfold singleS
  cases singleN (bt s 0) with
  | some n => exact good _ _ _ _ (by omega) (by omega)
  | none =>
    simp only []
    unfold otherS
    by_cases p : powerS s
    · rw [if_pos p]; exact good _ _ _ _ (by omega) (by have := p.1; omega)
    rw [if_neg p]
    unfold wordS
    by_cases w1 : beg s [97, 109, 47, 112, 109] = true
    · rw [if_pos w1]; exact good _ _ _ _ (by omega) (by have := beg_size s _ w1; simp only [List.length_cons, List.length_nil] at this; omega)
    rw [if_neg w1]
    by_cases w2 : beg s [97, 47, 112] = true
    · rw [if_pos w2]; exact good _ _ _ _ (by omega) (by have := beg_size s _ w2; simp only [List.length_cons, List.length_nil] at this; omega)
    rw [if_neg w2]
    by_cases w3 : beg s [103, 101, 110, 101, 114, 97, 108] = true
    · rw [if_pos w3]; exact good _ _ _ _ (by omega) (by have := beg_size s _ w3; simp only [List.length_cons, List.length_nil] at this; omega)
    rw [if_neg w3]
    by_cases d : dateB (lowI (bt s 0)) = true
    · rw [if_pos d]
      have := runN_le (lowI (bt s 0)) s.data.toList
      rw [← PL.size_list] at this
      have h := run_head s h1
      exact good _ _ _ _ (by omega) (by omega)
    rw [if_neg d]
    exact plain_fits s h1
def tokAt (t : R7) (p : Int) : S53 := ⟨t.1, t.2.1, t.2.2.1, p⟩
def allF : Nat → List UInt8 → Nat → List S53 × Int × Int
  | 0, _, p => ([], (p : Int), 0)
  | _ + 1, [], p => ([], (p : Int), 0)
  | f + 1, b :: l, p => if (tokS (ba (b :: l))).2.2.2.2.2.2 = 0 then (if (allF f ((b :: l).drop (tokS (ba (b :: l))).2.2.2.2.1.toNat) (p + (tokS (ba (b :: l))).2.2.2.2.1.toNat)).2.2 = 0 then (tokAt (tokS (ba (b :: l))) p :: (allF f ((b :: l).drop (tokS (ba (b :: l))).2.2.2.2.1.toNat) (p + (tokS (ba (b :: l))).2.2.2.2.1.toNat)).1, (allF f ((b :: l).drop (tokS (ba (b :: l))).2.2.2.2.1.toNat) (p + (tokS (ba (b :: l))).2.2.2.2.1.toNat)).2.1, 0) else allF f ((b :: l).drop (tokS (ba (b :: l))).2.2.2.2.1.toNat) (p + (tokS (ba (b :: l))).2.2.2.2.1.toNat)) else ([], (p : Int) + (tokS (ba (b :: l))).2.2.2.2.2.1, (tokS (ba (b :: l))).2.2.2.2.2.2)
def allS (s : ByteArray) : List S53 × Int × Int := if 4096 < s.size then ([], 0, 14) else allF s.size s.data.toList 0
theorem allF_ok : ∀ (f : Nat) (l : List UInt8) (p : Nat), l.length ≤ f → (allF f l p).2.2 = 0 → (allF f l p).2.1 = ((p + l.length : Nat) : Int) ∧ (allF f l p).1.length ≤ l.length
  | 0, l, p, hl, _ => by
    have : l = [] := List.length_eq_zero_iff.1 (by omega)
    subst this
    exact ⟨rfl, Nat.le_refl _⟩
  | f + 1, [], p, _, _ => ⟨rfl, Nat.le_refl _⟩
  | f + 1, b :: l, p, hl, h => by
    have hf := tok_fits (ba (b :: l)) (by rw [PL.size_list, ba_list]; simp)
    have hs : (ba (b :: l)).size = (b :: l).length := by rw [PL.size_list, ba_list]
    rw [allF] at h ⊢
    by_cases c : (tokS (ba (b :: l))).2.2.2.2.2.2 = 0
    · have hn := hf.1 c
      rw [if_pos c] at h ⊢
      generalize (tokS (ba (b :: l))).2.2.2.2.1 = n at *
      have hd : ((b :: l).drop n.toNat).length = (b :: l).length - n.toNat := List.length_drop
      have ih := allF_ok f ((b :: l).drop n.toNat) (p + n.toNat) (by omega)
      by_cases c2 : (allF f ((b :: l).drop n.toNat) (p + n.toNat)).2.2 = 0
      · have ih2 := ih c2
        rw [if_pos c2]
        simp only [List.length_cons] at *
        omega
      · rw [if_neg c2] at h
        exact absurd h c2
    · rw [if_neg c] at h
      exact absurd h c
theorem ba_ext_drop (s : ByteArray) (p : Nat) (b : UInt8) (r : List UInt8) (h : s.data.toList.drop p = b :: r) : s.extract p s.size = ba (b :: r) := by rw [ext_drop, h]
theorem prog_loop (s : ByteArray) (hs : s.size ≤ 4096) : ∀ (f : Nat) (k p : Nat) (acc : List S53), s.size ≤ p + f → p ≤ s.size → acc.length ≤ p → f + 9000 ≤ k →
    token_All.l0 k s acc (p : Int) = some (if (allF f (s.data.toList.drop p) p).2.2 = 0 then (acc ++ (allF f (s.data.toList.drop p) p).1, (s.size : Int), 0) else allF f (s.data.toList.drop p) p) := by
  have fin : ∀ (f k p : Nat) (acc : List S53), p = s.size → 1 ≤ k → token_All.l0 k s acc (p : Int) = some (if (allF f (s.data.toList.drop p) p).2.2 = 0 then (acc ++ (allF f (s.data.toList.drop p) p).1, (s.size : Int), 0) else allF f (s.data.toList.drop p) p) := by
    intro f k p acc hp hk
    obtain ⟨k, rfl⟩ : ∃ j, k = j + 1 := ⟨k - 1, by omega⟩
    have hd : s.data.toList.drop p = [] := List.drop_of_length_le (by rw [← PL.size_list]; omega)
    rw [token_All.l0, if_neg (by omega), hd]
    cases f <;> simp [allF]
  intro f
  induction f with
  | zero => intro k p acc h1 h2 h3 h4; exact fin 0 k p acc (by omega) (by omega)
  | succ f ih =>
    intro k p acc h1 h2 h3 h4
    by_cases c : p < s.size
    · obtain ⟨k, rfl⟩ : ∃ j, k = j + 1 := ⟨k - 1, by omega⟩
      obtain ⟨b, r, hd⟩ := drop_cons s p c
      have hl : (b :: r).length = s.size - p := by rw [← hd, List.length_drop, PL.size_list]
      have hz : (ba (b :: r)).size = s.size - p := by rw [PL.size_list, ba_list, hl]
      have hf := tok_fits (ba (b :: r)) (by omega)
      rw [token_All.l0, if_pos (by omega), if_pos (by omega), if_pos (by omega), Int.toNat_natCast, ba_ext_drop s p b r hd, progTok k _ (by omega) (by omega) (by omega), Option.bind_some, hd, allF]
      by_cases e : (tokS (ba (b :: r))).2.2.2.2.2.2 = 0
      · have hn := hf.1 e
        rw [if_pos e, if_pos e, if_pos (by omega)]
        have ih2 := ih k (p + (tokS (ba (b :: r))).2.2.2.2.1.toNat) (acc ++ [tokAt (tokS (ba (b :: r))) p]) (by omega) (by omega) (by simp only [List.length_append, List.length_cons, List.length_nil]; omega) (by omega)
        rw [← List.drop_drop, hd] at ih2
        have e1 : wrap64 ((p : Int) + (tokS (ba (b :: r))).2.2.2.2.1) = ((p + (tokS (ba (b :: r))).2.2.2.2.1.toNat : Nat) : Int) := by unfold wrap64; omega
        rw [e1]
        refine ih2.trans ?_
        generalize allF f ((b :: r).drop (tokS (ba (b :: r))).2.2.2.2.1.toNat) (p + (tokS (ba (b :: r))).2.2.2.2.1.toNat) = A
        by_cases z : A.2.2 = 0
        · rw [if_pos z, if_pos z, if_pos rfl, List.append_assoc]
          rfl
        · rw [if_neg z, if_neg z, if_neg z]
      · have e1 : wrap64 ((p : Int) + (tokS (ba (b :: r))).2.2.2.2.2.1) = (p : Int) + (tokS (ba (b :: r))).2.2.2.2.2.1 := by have := hf.2; unfold wrap64; omega
        rw [if_neg e, if_neg e, if_neg (by exact e), e1]
    · exact fin (f + 1) k p acc (by omega) (by omega)
theorem progAll (s : ByteArray) (k : Nat) (hk : 14000 ≤ k) : token_All.f k s = some (allS s) := by
  unfold token_All.f allS
  by_cases c : 4096 < s.size
  · rw [if_pos (by omega), if_pos c]
  · rw [if_neg (by omega), if_neg c]
    have h := prog_loop s (by omega) s.size k 0 [] (by omega) (by omega) (Nat.zero_le _) (by omega)
    rw [List.drop_zero] at h
    refine h.trans ?_
    by_cases z : (allF s.size s.data.toList 0).2.2 = 0
    · have ho := allF_ok s.size s.data.toList 0 (by rw [← PL.size_list]; exact Nat.le_refl _) z
      rw [if_pos z, List.nil_append]
      have e1 : (allF s.size s.data.toList 0).2.1 = (s.size : Int) := by rw [ho.1, ← PL.size_list]; omega
      rw [← e1]
      congr 1
      generalize allF s.size s.data.toList 0 = A at *
      obtain ⟨a, b, c⟩ := A
      simp only [] at z
      rw [z]
    · rw [if_neg z]
theorem allF_bad : ∀ (f : Nat) (l : List UInt8) (p : Nat), (allF f l p).2.2 ≠ 0 → (allF f l p).1 = []
  | 0, l, p, _ => rfl
  | f + 1, [], p, _ => rfl
  | f + 1, b :: l, p, h => by
    rw [allF] at h ⊢
    split at h
    · rename_i c
      rw [if_pos c]
      split at h
      · exact absurd rfl h
      · rename_i c2
        rw [if_neg c2]
        exact allF_bad f _ _ h
    · rename_i c
      rw [if_neg c]
theorem ba_size (l : List UInt8) : (ba l).size = l.length := by rw [PL.size_list, ba_list]
theorem bt_app (l x : List UInt8) (i : Nat) (h : i < l.length) : bt (ba (l ++ x)) (i : Int) = bt (ba l) (i : Int) := by
  rw [bt_eq (ba l) i l[i] (by rw [ba_list]; exact List.getElem?_eq_getElem h), bt_eq (ba (l ++ x)) i l[i] (by rw [ba_list, List.getElem?_append_left h]; exact List.getElem?_eq_getElem h)]
theorem ru_app (l x : List UInt8) (h : (ruL l).2.2 = true) : ruL (l ++ x) = ruL l := by
  have hz := ba_size l
  have hz' : (ba (l ++ x)).size = l.length + x.length := by rw [ba_size, List.length_append]
  unfold ruL ru at h ⊢
  by_cases z : (ba l).size = 0
  · rw [if_pos z] at h; exact absurd h (by decide)
  have e0 : bt (ba (l ++ x)) 0 = bt (ba l) 0 := bt_app l x 0 (by omega)
  rw [if_neg z] at h ⊢
  rw [if_neg (by omega), e0]
  by_cases c1 : bt (ba l) 0 < 128
  · rw [if_pos c1, if_pos c1]
  rw [if_neg c1] at h ⊢
  rw [if_neg c1]
  by_cases c2 : ok2 (ba l)
  · have e1 : bt (ba (l ++ x)) 1 = bt (ba l) 1 := bt_app l x 1 (by have := c2.2.2.1; omega)
    have c2' : ok2 (ba (l ++ x)) := by unfold ok2 at c2 ⊢; rw [e0, e1]; exact ⟨c2.1, c2.2.1, by omega, c2.2.2.2⟩
    rw [if_pos c2, if_pos c2']
    unfold n2
    rw [e0, e1]
  rw [if_neg c2] at h ⊢
  by_cases c3 : ok3 (ba l)
  · have hs := c3.2.2.1
    have e1 : bt (ba (l ++ x)) 1 = bt (ba l) 1 := bt_app l x 1 (by omega)
    have e2 : bt (ba (l ++ x)) 2 = bt (ba l) 2 := bt_app l x 2 (by omega)
    have en : n3 (ba (l ++ x)) = n3 (ba l) := by unfold n3; rw [e0, e1, e2]
    have c3' : ok3 (ba (l ++ x)) := by unfold ok3 at c3 ⊢; rw [en, e0, e1, e2]; exact ⟨c3.1, c3.2.1, by omega, c3.2.2.2⟩
    have c2' : ¬ ok2 (ba (l ++ x)) := by intro d; have := d.2.1; have := c3.1; rw [e0] at *; omega
    rw [if_pos c3, if_neg c2', if_pos c3', en]
  rw [if_neg c3] at h ⊢
  by_cases c4 : ok4 (ba l)
  · have hs := c4.2.2.1
    have e1 : bt (ba (l ++ x)) 1 = bt (ba l) 1 := bt_app l x 1 (by omega)
    have e2 : bt (ba (l ++ x)) 2 = bt (ba l) 2 := bt_app l x 2 (by omega)
    have e3 : bt (ba (l ++ x)) 3 = bt (ba l) 3 := bt_app l x 3 (by omega)
    have en : n4 (ba (l ++ x)) = n4 (ba l) := by unfold n4; rw [e0, e1, e2, e3]
    have c4' : ok4 (ba (l ++ x)) := by unfold ok4 at c4 ⊢; rw [en, e0, e1, e2, e3]; exact ⟨c4.1, c4.2.1, by omega, c4.2.2.2⟩
    have c2' : ¬ ok2 (ba (l ++ x)) := by intro d; have := d.2.1; have := c4.1; rw [e0] at *; omega
    have c3' : ¬ ok3 (ba (l ++ x)) := by intro d; have := d.2.1; have := c4.1; rw [e0] at *; omega
    rw [if_pos c4, if_neg c2', if_neg c3', if_pos c4', en]
  rw [if_neg c4] at h
  exact absurd h (by decide)
theorem clo_app (last : Int) (x : List UInt8) : ∀ (f f' : Nat) (l : List UInt8) (p : Nat), f ≤ f' → (cloL last f l p).1 = 0 → cloL last f' (l ++ x) p = cloL last f l p
  | 0, f', l, p, _, h => absurd h (show ¬ (2 : Nat) = 0 by decide)
  | f + 1, f', [], p, _, h => absurd h (show ¬ (2 : Nat) = 0 by decide)
  | f + 1, f', b :: l, p, hf, h => by
    obtain ⟨f', rfl⟩ : ∃ j, f' = j + 1 := ⟨f' - 1, by omega⟩
    rw [cloL] at h ⊢
    rw [List.cons_append, cloL]
    by_cases c : (b.toNat : Int) = last
    · rw [if_pos c, if_pos c]
    · rw [if_neg c] at h ⊢
      rw [if_neg c]
      by_cases c3 : (ruL (b :: l)).2.2 = true
      · have hr := ru_app (b :: l) x c3
        have hz := ruL_size _ c3
        rw [List.cons_append] at hr
        rw [if_pos c3] at h ⊢
        rw [hr, if_pos c3]
        rw [show (b :: (l ++ x)).drop (ruL (b :: l)).2.1.toNat = (b :: l).drop (ruL (b :: l)).2.1.toNat ++ x by rw [← List.cons_append, List.drop_append_of_le_length hz.2.2.1]]
        exact clo_app last x f f' _ _ (by omega) h
      · rw [if_neg c3] at h
        exact absurd h (show ¬ (1 : Nat) = 0 by decide)
theorem ext_app (l x : List UInt8) (a b : Nat) (h : b ≤ l.length) : (ba (l ++ x)).extract a b = (ba l).extract a b := ba_ext (by rw [extract_list, extract_list, ba_list, ba_list, List.take_append_of_le_length h])
theorem lows_ba (l : List UInt8) : lows (ba l) = l.map fun c => lowN c.toNat := by unfold lows; rw [ba_list]
theorem beg_app (l x : List UInt8) (c : UInt8) (w : List Nat) (hw : lowN c.toNat ∉ w) : beg (ba (l ++ c :: x)) w = beg (ba l) w := by
  unfold beg
  rw [ba_size, ba_size, lows_ba, lows_ba, List.length_append, List.map_append]
  by_cases h : w.length ≤ l.length
  · rw [decide_eq_true h, decide_eq_true (by omega), List.take_append_of_le_length (by rw [List.length_map]; exact h)]
  · rw [decide_eq_false h, Bool.false_and, Bool.and_eq_false_iff]
    right
    rw [decide_eq_false_iff_not]
    intro e
    apply hw
    rw [← e, List.map_cons]
    refine List.mem_of_getElem? (i := l.length) ?_
    rw [List.getElem?_take_of_lt (by omega), List.getElem?_append_right (by rw [List.length_map]; exact Nat.le_refl _), List.length_map, Nat.sub_self]
    rfl
theorem run_app (l x : List UInt8) (c : UInt8) (k : Int) (hk : lowI (c.toNat : Int) ≠ k) : runN k (l ++ c :: x) = runN k l := by
  unfold runN
  induction l with
  | nil => rw [List.nil_append, List.takeWhile_cons, if_neg (fun h => hk (beq_iff_eq.1 h))]; rfl
  | cons b l ih =>
    rw [List.cons_append, List.takeWhile_cons, List.takeWhile_cons]
    split
    · rw [List.length_cons, List.length_cons, ih]
    · rfl
theorem tok_app (l x : List UInt8) (c : UInt8) (hc : c.toNat = 59) (h1 : 1 ≤ l.length) (h : (tokS (ba l)).2.2.2.2.2.2 = 0) : tokS (ba (l ++ c :: x)) = tokS (ba l) := by
  have hz := ba_size l
  have hz' : (ba (l ++ c :: x)).size = l.length + (x.length + 1) := by rw [ba_size, List.length_append, List.length_cons]
  have e0 : bt (ba (l ++ c :: x)) 0 = bt (ba l) 0 := bt_app l (c :: x) 0 (by omega)
  have r0 := bt_range (ba l) 0
  have hclo : ∀ kind last e : Int, e ≠ 0 → (closedS (ba l) kind last e).2.2.2.2.2.2 = 0 → closedS (ba (l ++ c :: x)) kind last e = closedS (ba l) kind last e := by
    intro kind last e he hcl
    unfold closedS at hcl ⊢
    by_cases g : (cloL last (ba l).size ((ba l).data.toList.drop 1) 1).1 = 0
    · have hr := cloL_range last (ba l).size ((ba l).data.toList.drop 1) 1
      have ha := clo_app last (c :: x) (ba l).size (ba (l ++ c :: x)).size ((ba l).data.toList.drop 1) 1 (by omega) g
      simp only [ba_list] at *
      rw [List.drop_append_of_le_length h1, ha]
      unfold clR
      rw [if_pos g, if_pos g, ext_app _ _ _ _ (by
        have := hr.2.2 g
        rw [List.length_drop] at this
        omega)]
    · unfold clR at hcl
      rw [if_neg g] at hcl
      split at hcl
      · exact absurd hcl (show ¬ (4 : Int) = 0 by decide)
      · exact absurd hcl he
  have hmar : ∀ kind e : Int, e ≠ 0 → (markedS (ba l) kind e).2.2.2.2.2.2 = 0 → markedS (ba (l ++ c :: x)) kind e = markedS (ba l) kind e := by
    intro kind e he hcl
    unfold markedS at hcl ⊢
    by_cases g : (ba l).size < 2
    · rw [if_pos g] at hcl; exact absurd hcl he
    rw [if_neg g] at hcl ⊢
    rw [if_neg (by omega)]
    by_cases c3 : (ruL ((ba l).data.toList.drop 1)).2.2 = true
    · have hr := ru_app _ (c :: x) c3
      have hsz := ruL_size _ c3
      simp only [ba_list] at *
      rw [List.drop_append_of_le_length h1, hr, if_pos c3, if_pos c3, ext_app _ _ _ _ (by
        have := hsz.2.2.1
        rw [List.length_drop] at this
        omega)]
    · rw [if_neg c3] at hcl
      exact absurd hcl (show ¬ (4 : Int) = 0 by decide)
  unfold tokS at h ⊢
  rw [e0]
  by_cases c1 : bt (ba l) 0 = 34
  · rw [if_pos c1] at h ⊢; rw [if_pos c1]; exact hclo _ _ _ (by decide) h
  rw [if_neg c1] at h ⊢
  rw [if_neg c1]
  by_cases c2 : bt (ba l) 0 = 92
  · rw [if_pos c2] at h ⊢; rw [if_pos c2]; exact hmar _ _ (by decide) h
  rw [if_neg c2] at h ⊢
  rw [if_neg c2]
  by_cases c3 : bt (ba l) 0 = 95
  · rw [if_pos c3] at h ⊢; rw [if_pos c3]; exact hmar _ _ (by decide) h
  rw [if_neg c3] at h ⊢
  rw [if_neg c3]
  by_cases c4 : bt (ba l) 0 = 42
  · rw [if_pos c4] at h ⊢; rw [if_pos c4]; exact hmar _ _ (by decide) h
  rw [if_neg c4] at h ⊢
  rw [if_neg c4]
  by_cases c5 : bt (ba l) 0 = 91
  · rw [if_pos c5] at h ⊢; rw [if_pos c5]; exact hclo _ _ _ (by decide) h
  rw [if_neg c5] at h ⊢
  rw [if_neg c5]
  unfold singleS at h ⊢
  rw [e0]
  cases hsn : singleN (bt (ba l) 0) with
  | some n => simp only []; rw [ext_app _ _ _ _ h1]
  | none =>
    rw [hsn] at h
    simp only [] at h ⊢
    have hp : powerS (ba (l ++ c :: x)) ↔ powerS (ba l) := by
      unfold powerS
      rw [e0]
      by_cases g : 1 < l.length
      · rw [show bt (ba (l ++ c :: x)) 1 = bt (ba l) 1 from bt_app l (c :: x) 1 g]
        constructor
        · rintro ⟨_, b⟩; exact ⟨by omega, b⟩
        · rintro ⟨_, b⟩; exact ⟨by omega, b⟩
      · have e1 : bt (ba (l ++ c :: x)) 1 = (c.toNat : Int) := bt_eq _ 1 c (by
          rw [ba_list, List.getElem?_append_right (by omega), show 1 - l.length = 0 by omega]
          rfl)
        rw [e1]
        constructor
        · rintro ⟨_, _, d⟩; omega
        · rintro ⟨d, _⟩; omega
    unfold otherS at h ⊢
    by_cases p : powerS (ba l)
    · rw [if_pos p, if_pos (hp.2 p), ext_app _ _ _ _ (by have := p.1; omega)]
    rw [if_neg p] at h ⊢
    rw [if_neg (fun d => p (hp.1 d))]
    have hlc : lowN c.toNat = 59 := by rw [hc]; rfl
    unfold wordS at h ⊢
    rw [beg_app l x c _ (by rw [hlc]; decide), beg_app l x c _ (by rw [hlc]; decide), beg_app l x c _ (by rw [hlc]; decide), e0]
    by_cases w1 : beg (ba l) [97, 109, 47, 112, 109] = true
    · rw [if_pos w1, if_pos w1]
    rw [if_neg w1] at h ⊢
    rw [if_neg w1]
    by_cases w2 : beg (ba l) [97, 47, 112] = true
    · rw [if_pos w2, if_pos w2]
    rw [if_neg w2] at h ⊢
    rw [if_neg w2]
    by_cases w3 : beg (ba l) [103, 101, 110, 101, 114, 97, 108] = true
    · rw [if_pos w3, if_pos w3]
    rw [if_neg w3] at h ⊢
    rw [if_neg w3]
    by_cases d : dateB (lowI (bt (ba l) 0)) = true
    · rw [if_pos d, if_pos d, ba_list, ba_list, run_app l x c _ (by
        rw [hc]
        intro e
        rw [← e] at d
        exact absurd d (by decide))]
    rw [if_neg d] at h ⊢
    rw [if_neg d]
    unfold plainS at h ⊢
    rw [e0]
    by_cases r : (ru (ba l)).2.2 = true
    · have hr : ru (ba (l ++ c :: x)) = ru (ba l) := ru_app l (c :: x) r
      have hsz := ruL_size l r
      rw [hr, if_pos r, if_pos r, ext_app _ _ _ _ (by unfold ruL at hsz; exact hsz.2.2.1)]
    · rw [if_neg r] at h
      exact absurd h (show ¬ (4 : Int) = 0 by decide)
end Go.Proofs.YtiidpicgdjjikaaGreatDoor.PT
namespace Go.Proofs.YtiidpicgdjjikaaGreatDoor.PC
open Go.RowKit Go.Lib Go.Proofs.YtiidpicgdjjikaaGreatDoor.P Go.Proofs.YtiidpicgdjjikaaGreatDoor.G Go.Proofs.YtiidpicgdjjikaaGreatDoor.PL Go.Proofs.YtiidpicgdjjikaaGreatDoorW.PrintWords Go.Proofs.YtiidpicgdjjikaaGreatDoorW.PrintLast
set_option linter.unusedVariables false
set_option linter.unusedSimpArgs false

def elapS : List Nat → ByteArray × Int × Bool
  | [] => (⟨#[]⟩, 0, false)
  | c :: r => if r.length + 1 ≤ 9 ∧ (c = 104 ∨ c = 109 ∨ c = 115) ∧ r.all (· == c) = true then (⟨#[UInt8.ofNat c]⟩, ((r.length + 1 : Nat) : Int), true) else (⟨#[]⟩, 0, false)

theorem all_nats (c : UInt8) : ∀ l : List UInt8, l.all (· == c) = (l.map (fun b => b.toNat)).all (· == c.toNat)
  | [] => rfl
  | b :: l => by
    have e : (b == c) = (b.toNat == c.toNat) := by
      by_cases h : b = c
      · subst h; simp
      · have : ¬ b.toNat = c.toNat := fun e => h (UInt8.toNat_inj.1 e)
        rw [beq_eq_false_iff_ne.2 h, beq_eq_false_iff_ne.2 this]
    simp only [List.all_cons, List.map_cons, e, all_nats c l]
theorem ofNat_toNat (c : UInt8) : UInt8.ofNat c.toNat = c := by simp
theorem lowerB_nat (b : UInt8) : (lowerB b).toNat = lowN b.toNat := by
  have h : ∀ n : Fin 256, (lowerB (UInt8.ofNat n.val)).toNat = lowN n.val := by decide +kernel
  have := h ⟨b.toNat, UInt8.toNat_lt b⟩
  simpa using this
theorem lower_lows (t : ByteArray) (h : ascL t.data.toList = true) : (Lib.toLowerD t.data.toList).map (fun b => b.toNat) = lows t := by
  rw [toLowerD_ascii _ (fun b hb => by have := List.all_eq_true.1 h b hb; simpa using this)]
  unfold toLowerA lows
  rw [List.map_map]
  exact List.map_congr_left fun b _ => lowerB_nat b
theorem elapS_asc (t : ByteArray) (h : ascL t.data.toList ≠ true) : elapS (lows t) = (⟨#[]⟩, 0, false) := by
  cases hl : lows t with
  | nil => rfl
  | cons c r =>
    simp only [elapS]
    rw [if_neg]
    rintro ⟨_, hc, hr⟩
    apply h
    apply List.all_eq_true.2
    intro b hb
    have h1 : lowN b.toNat ∈ lows t := List.mem_map.2 ⟨b, hb, rfl⟩
    rw [hl] at h1
    have h2 : lowN b.toNat = c := by
      rcases List.mem_cons.1 h1 with h1 | h1
      · exact h1
      · have := List.all_eq_true.1 hr _ h1
        simpa using this
    have := lowN_ge b.toNat
    simp only [decide_eq_true_eq]
    omega
theorem inSet_one (R : Nat) (c : UInt8) (hc : c.toNat < 128) : inSet R (⟨#[c]⟩ : ByteArray) (⟨#[c]⟩ : ByteArray).size 0 = (R == c.toNat) := by
  have hs : (⟨#[c]⟩ : ByteArray).size = 1 := rfl
  have hd := decode_ascii (⟨#[c]⟩ : ByteArray) 0 (by rw [hs]; omega) (by exact hc)
  rw [hs]
  simp only [inSet]
  rw [if_pos (by omega), hd]
  rw [Bool.or_false]
  rfl
theorem cutL_one (c : UInt8) (hc : c.toNat < 128) (s : ByteArray) (ha : ascL s.data.toList = true) : ∀ (f pos : Nat), s.size ≤ pos + f → (cutL s (⟨#[c]⟩ : ByteArray) f pos).data.toList = (s.data.toList.drop pos).dropWhile (· == c)
  | 0, pos, h => by
    have : s.data.toList.drop pos = [] := List.drop_of_length_le (by rw [← size_list]; omega)
    rw [this]
    rfl
  | f + 1, pos, h => by
    simp only [cutL]
    by_cases hp : pos < s.size
    · have hlt : pos < s.data.toList.length := by rw [← size_list]; exact hp
      have hb : (s.data.toList[pos]).toNat < 128 := by
        have := List.all_eq_true.1 ha _ (List.getElem_mem hlt)
        simpa using this
      have hd := decode_ascii s pos hp (by rw [get_list s pos hp]; exact hb)
      rw [get_list s pos hp] at hd
      rw [if_pos hp, hd, inSet_one _ c hc, List.drop_eq_getElem_cons hlt]
      by_cases e : s.data.toList[pos] = c
      · have e2 : (s.data.toList[pos].toNat == c.toNat) = true := by rw [e]; simp
        rw [if_pos e2, cutL_one c hc s ha f (pos + 1) (by omega), List.dropWhile_cons]
        simp [e]
      · have e2 : ¬ ((s.data.toList[pos].toNat == c.toNat) = true) := fun h => e (UInt8.toNat_inj.1 (by simpa using h))
        rw [if_neg e2, extract_list, List.dropWhile_cons]
        have e3 : (s.data.toList[pos] == c) = false := by simpa using e
        rw [e3, ← List.drop_eq_getElem_cons hlt]
        rw [size_list, List.take_length, if_neg Bool.false_ne_true]
    · rw [if_neg hp]
      have : s.data.toList.drop pos = [] := List.drop_of_length_le (by rw [← size_list]; omega)
      rw [this]
      rfl
theorem cutR_ne (c : UInt8) (hc : c.toNat < 128) : ∀ (f : Nat) (s : ByteArray) (x : UInt8) (r : List UInt8), s.data.toList = x :: r → x ≠ c → ascL s.data.toList = true → (cutR (⟨#[c]⟩ : ByteArray) f s).data.toList ≠ []
  | 0, s, x, r, hs, _, _ => by simp only [cutR]; rw [hs]; simp
  | f + 1, s, x, r, hs, hx, ha => by
    obtain ⟨init, b, hb⟩ : ∃ init b, s.data.toList = init ++ [b] := ⟨s.data.toList.dropLast, s.data.toList.getLast (by rw [hs]; simp), (List.dropLast_concat_getLast _).symm⟩
    have hpos : 0 < s.size := by rw [size_list, hs]; simp
    have hb8 : b.toNat < 128 := by
      have := List.all_eq_true.1 ha b (by rw [hb]; simp)
      simpa using this
    have hdl : Lib.decodeLastL s.data.toList = (b.toNat, 1) := by rw [hb]; exact decodeLastL_ascii init b hb8
    simp only [cutR]
    rw [if_pos hpos, hdl, inSet_one _ c hc]
    by_cases e : b = c
    · have e2 : (b.toNat == c.toNat) = true := by rw [e]; simp
      rw [if_pos e2]
      cases init with
      | nil =>
        rw [hs] at hb
        simp at hb
        exact absurd (hb.1.trans e) hx
      | cons y init =>
        have hy : y = x := by
          rw [hs] at hb
          simp at hb
          exact hb.1.symm
        subst hy
        have hd : (s.extract 0 (s.size - 1)).data.toList = y :: init := by
          rw [extract_list, hb, size_list, hb]
          simp
        refine cutR_ne c hc f _ y init hd hx ?_
        rw [hd]
        have h2 := ha
        rw [hb] at h2
        simp only [ascL, List.all_append, List.all_cons, Bool.and_eq_true, List.cons_append] at h2 ⊢
        exact ⟨h2.1, h2.2.1⟩
    · have e2 : ¬ ((b.toNat == c.toNat) = true) := fun h => e (UInt8.toNat_inj.1 (by simpa using h))
      rw [if_neg e2, hs]
      simp
theorem dropWhile_all (c : UInt8) : ∀ l : List UInt8, l.all (· == c) = true → l.dropWhile (· == c) = []
  | [], _ => rfl
  | b :: l, h => by
    simp only [List.all_cons, Bool.and_eq_true] at h
    rw [List.dropWhile_cons, if_pos h.1, dropWhile_all c l h.2]
theorem dropWhile_not (c : UInt8) : ∀ l : List UInt8, l.all (· == c) ≠ true → ∃ x r, l.dropWhile (· == c) = x :: r ∧ x ≠ c
  | [], h => by simp at h
  | b :: l, h => by
    by_cases e : (b == c) = true
    · rw [List.dropWhile_cons, if_pos e]
      exact dropWhile_not c l (by simpa [List.all_cons, e] using h)
    · rw [List.dropWhile_cons, if_neg e]
      exact ⟨b, l, rfl, by simpa using e⟩
theorem elapsed_f (t : ByteArray) (ht : t.size ≤ 900) : colour_Elapsed.f t = some (elapS (lows t)) := by
  unfold colour_Elapsed.f
  have h1 : strings_ToLower.f t = some ⟨(Lib.toLowerD t.data.toList).toArray⟩ := by
    unfold strings_ToLower.f
    rw [if_pos (by omega)]
  rw [h1]
  simp only [Option.bind_some]
  obtain ⟨x, hx⟩ : ∃ x : ByteArray, ⟨(Lib.toLowerD t.data.toList).toArray⟩ = x := ⟨_, rfl⟩
  have hxd : x.data.toList = Lib.toLowerD t.data.toList := by rw [← hx]
  rw [hx, plain_f]
  simp only [Option.bind_some]
  by_cases ha : ascL t.data.toList = true
  · have hl := lower_lows t ha
    rw [← hxd] at hl
    rw [← hl]
    cases hc : x.data.toList with
    | nil =>
      rw [if_pos (by rw [PL.toList_data, hc])]
      rfl
    | cons c r =>
      have hs : x.size = r.length + 1 := by rw [size_list, hc]; rfl
      rw [if_neg (by rw [PL.toList_data, hc]; simp)]
      simp only [List.map_cons, elapS, List.length_map]
      by_cases h9 : r.length + 1 ≤ 9
      · have hax : ascL x.data.toList = true := by
          apply List.all_eq_true.2
          intro b hb
          have h2 : b.toNat ∈ lows t := by rw [← hl]; exact List.mem_map.2 ⟨b, hb, rfl⟩
          obtain ⟨q, hq, e⟩ := List.mem_map.1 h2
          have := List.all_eq_true.1 ha q hq
          simp only [decide_eq_true_eq] at this ⊢
          have := lowN_lt q.toNat this
          omega
        have hc8 : c.toNat < 128 := by
          have := List.all_eq_true.1 hax c (by rw [hc]; simp)
          simpa using this
        have he : x.extract 0 1 = ⟨#[c]⟩ := ba_ext (by rw [extract_list, hc]; rfl)
        rw [if_neg (by omega), if_pos ha, if_pos (by omega), if_pos (by omega), he]
        have hcon : strings_Contains.f (⟨#[104, 109, 115]⟩ : ByteArray) (⟨#[c]⟩ : ByteArray) = some (decide (c ∈ ([104, 109, 115] : List UInt8))) := by
          unfold strings_Contains.f
          rw [if_pos (by decide)]
          have : (⟨#[c]⟩ : ByteArray).data.toList = [c] := rfl
          rw [this, contains_iff]
        rw [hcon]
        simp only [Option.bind_some]
        have hm : c ∈ ([104, 109, 115] : List UInt8) ↔ (c.toNat = 104 ∨ c.toNat = 109 ∨ c.toNat = 115) := by
          simp only [List.mem_cons, List.mem_nil_iff, or_false, ← UInt8.toNat_inj]
          rfl
        by_cases hcm : c ∈ ([104, 109, 115] : List UInt8)
        · rw [if_pos (decide_eq_true hcm)]
          have hcl : colour_cutLeft.f x (⟨#[c]⟩ : ByteArray) = some (cutL x (⟨#[c]⟩ : ByteArray) x.size 0) := by
            unfold colour_cutLeft.f
            rw [if_pos (by omega), if_pos (by show (1 : Nat) ≤ 9223372036854775807; omega)]
          rw [hcl]
          simp only [Option.bind_some]
          obtain ⟨y, hy⟩ : ∃ y, cutL x (⟨#[c]⟩ : ByteArray) x.size 0 = y := ⟨_, rfl⟩
          have hyd := cutL_one c hc8 x hax x.size 0 (by omega)
          rw [hy, List.drop_zero] at hyd
          have hys : y.size ≤ 1000 := by
            rw [size_list, hyd]
            have := (List.dropWhile_sublist (l := x.data.toList) (· == c)).length_le
            rw [hc] at this ⊢
            simp at this ⊢
            omega
          have hcr : colour_cutRight.f y (⟨#[c]⟩ : ByteArray) = some (cutR (⟨#[c]⟩ : ByteArray) y.size y) := by
            unfold colour_cutRight.f
            rw [if_pos (by omega), if_pos (by show (1 : Nat) ≤ 9223372036854775807; omega)]
          rw [hy, hcr]
          simp only [Option.bind_some]
          have hall : x.data.toList.all (· == c) = (r.map (fun b => b.toNat)).all (· == c.toNat) := by
            rw [hc, List.all_cons, all_nats c r]
            simp
          by_cases hA : x.data.toList.all (· == c) = true
          · have h0 := dropWhile_all c _ hA
            rw [h0] at hyd
            have hy0 : y = ⟨#[]⟩ := ba_ext (by rw [hyd])
            have hz : y.size = 0 := by rw [hy0]; rfl
            have hE : (cutR (⟨#[c]⟩ : ByteArray) y.size y).toList = ([] : List UInt8) := by
              rw [hz]
              show y.toList = []
              rw [hy0, PL.toList_data]
            rw [if_pos hE, if_pos ⟨h9, hm.1 hcm, by rw [← hall]; exact hA⟩, ofNat_toNat, hs]
          · obtain ⟨q, r2, h0, hq⟩ := dropWhile_not c _ hA
            rw [h0] at hyd
            have hay : ascL y.data.toList = true := by
              rw [hyd, ← h0]
              apply List.all_eq_true.2
              intro b hb
              exact List.all_eq_true.1 hax b ((List.dropWhile_sublist _).subset hb)
            have := cutR_ne c hc8 y.size y q r2 hyd hq hay
            rw [if_neg (by rw [PL.toList_data]; exact this), if_neg (fun h => hA (by rw [hall]; exact h.2.2))]
        · rw [if_neg (by simpa using hcm), if_neg (fun h => hcm (hm.2 h.2.1))]
      · rw [if_pos (by omega), if_neg (fun h => h9 h.1)]
  · rw [elapS_asc t ha, if_neg ha]
    split
    · rfl
    · split <;> rfl

theorem hexV_small (c : Nat) (h : c < 256) (hv : (hexV (c : Int)).isSome = true) : c < 128 := by
  have : ∀ m : Fin 256, (hexV (m.val : Int)).isSome = true → m.val < 128 := by decide +kernel
  exact this ⟨c, h⟩ hv
theorem pu16_digs : ∀ (l : List Int) (n : Int), (pu16 n l).1 = 0 → ∀ c ∈ l, (hexV c).isSome = true
  | [], _, _, c, hc => by simp at hc
  | x :: l, n, h, c, hc => by
    simp only [pu16] at h
    cases hx : hexV x with
    | none => rw [hx] at h; cases h
    | some d =>
      rw [hx] at h
      simp only at h
      split at h
      · cases h
      · rcases List.mem_cons.1 hc with rfl | hc
        · rw [hx]; rfl
        · exact pu16_digs l _ h c hc
theorem pr16_digs (s : ByteArray) (h : (pr16 s).1 = 0) : ∀ b ∈ s.data.toList, (hexV (b.toNat : Int)).isSome = true := by
  unfold pr16 at h
  split at h
  · cases h
  · intro b hb
    exact pu16_digs _ _ h _ (List.mem_map.2 ⟨b, hb, rfl⟩)
theorem pr16_ascii (s : ByteArray) (h : (pr16 s).1 = 0) : asciiB s = true := by
  apply List.all_eq_true.2
  intro b hb
  have := hexV_small b.toNat (UInt8.toNat_lt b) (pr16_digs s h b hb)
  simpa using this
end Go.Proofs.YtiidpicgdjjikaaGreatDoor.PC
namespace Go.Proofs.YtiidpicgdjjikaaGreatDoor.PC
open Go.RowKit Go.Lib Go.Proofs.YtiidpicgdjjikaaGreatDoor.P Go.Proofs.YtiidpicgdjjikaaGreatDoor.G Go.Proofs.YtiidpicgdjjikaaGreatDoor.PL Go.Proofs.YtiidpicgdjjikaaGreatDoor.PC Go.Proofs.YtiidpicgdjjikaaGreatDoorW.PrintWords Go.Proofs.YtiidpicgdjjikaaGreatDoorW.PrintLast
set_option linter.unusedVariables false
set_option linter.unusedSimpArgs false

def hexR (c : Int) : Int := match hexV c with | some d => d | none => -1
theorem hexR_range (c : Nat) (h : c < 256) : -1 ≤ hexR c ∧ hexR c ≤ 15 ∧ ((hexV (c : Int)).isSome = true ↔ 0 ≤ hexR c) := by
  have : ∀ m : Fin 256, -1 ≤ hexR (m.val : Int) ∧ hexR (m.val : Int) ≤ 15 ∧ ((hexV (m.val : Int)).isSome = true ↔ 0 ≤ hexR (m.val : Int)) := by decide +kernel
  exact this ⟨c, h⟩
def valR : Int → List UInt8 → Int
  | n, [] => n
  | n, b :: l => if hexR b.toNat < 0 then -1 else valR (16 * n + hexR b.toNat) l
theorem valR_bound : ∀ (l : List UInt8) (n : Int), 0 ≤ n → -1 ≤ valR n l ∧ valR n l < (n + 1) * 16 ^ l.length
  | [], n, h => by simp only [valR, List.length_nil, Int.pow_zero]; omega
  | b :: l, n, h => by
    have hr := hexR_range b.toNat (UInt8.toNat_lt b)
    have hp : (0 : Int) < 16 ^ l.length := Int.pow_pos (by omega)
    simp only [valR, List.length_cons]
    split
    · have : (0 : Int) ≤ (n + 1) * 16 ^ (l.length + 1) := Int.mul_nonneg (by omega) (Int.le_of_lt (Int.pow_pos (by omega)))
      omega
    · have ih := valR_bound l (16 * n + hexR b.toNat) (by omega)
      refine ⟨ih.1, Int.lt_of_lt_of_le ih.2 ?_⟩
      rw [Int.pow_succ, Int.mul_comm (16 ^ l.length) 16, ← Int.mul_assoc]
      exact Int.mul_le_mul_of_nonneg_right (by omega) (Int.le_of_lt hp)
theorem pu16_valR : ∀ (l : List UInt8) (n : Int), 0 ≤ n → (n + 1) * 16 ^ l.length ≤ 4294967296 →
    pu16 n (l.map fun b => (b.toNat : Int)) = if valR n l < 0 then (2, 0) else (0, valR n l)
  | [], n, h, hb => by
    have e : valR n [] = n := rfl
    rw [e, if_neg (by omega)]
    rfl
  | b :: l, n, h, hb => by
    have hr := hexR_range b.toNat (UInt8.toNat_lt b)
    have hp : (1 : Int) ≤ 16 ^ l.length := Int.pow_pos (by omega)
    have eV : valR n (b :: l) = if hexR b.toNat < 0 then -1 else valR (16 * n + hexR b.toNat) l := rfl
    rw [eV]
    simp only [List.map_cons, pu16]
    cases hv : hexV (b.toNat : Int) with
    | none =>
      have : hexR b.toNat < 0 := by unfold hexR; rw [hv]; decide
      rw [if_pos this, if_pos (by omega)]
    | some d =>
      have hd : hexR b.toNat = d := by unfold hexR; rw [hv]
      have h0 : ¬ hexR b.toNat < 0 := by
        have := hr.2.2.1 (by rw [hv]; rfl)
        omega
      rw [if_neg h0, hd]
      have hb2 : (16 * n + d + 1) * 16 ^ l.length ≤ 4294967296 := by
        refine Int.le_trans ?_ hb
        rw [List.length_cons, Int.pow_succ, Int.mul_comm (16 ^ l.length) 16, ← Int.mul_assoc]
        exact Int.mul_le_mul_of_nonneg_right (by omega) (by omega)
      have hb3 : 16 * n + d + 1 ≤ 4294967296 := by
        have : (16 * n + d + 1) * 1 ≤ (16 * n + d + 1) * 16 ^ l.length := Int.mul_le_mul_of_nonneg_left hp (by omega)
        omega
      have e : n * 16 + d = 16 * n + d := by omega
      simp only [e]
      rw [if_neg (by omega)]
      exact pu16_valR l (16 * n + d) (by omega) hb2
def moneyS (t : ByteArray) : ByteArray × Int × Bool :=
  if mHas t = true then
    if mDash (mRest t) = true then
      if (mHex (mRest t)).size < 1 ∨ 8 < (mHex (mRest t)).size then (⟨#[]⟩, 0, false)
      else if valR 0 (mHex (mRest t)).data.toList < 0 then (⟨#[]⟩, 0, false)
      else (mName (mRest t), valR 0 (mHex (mRest t)).data.toList, true)
    else (mRest t, 0, true)
  else (⟨#[]⟩, 0, false)
theorem dash_no {r : ByteArray} (h : ¬ mDash r = true) : mName r = r := by
  unfold mDash at h
  unfold mName
  unfold Lib.cut at h ⊢
  by_cases h1 : 0 ≤ Lib.index r.data.toList [45]
  · rw [if_pos h1] at h
    exact absurd rfl h
  · rw [if_neg h1]
theorem rest_size (t : ByteArray) : (mRest t).size ≤ t.size := by
  rw [size_list, size_list t]
  unfold mRest Lib.trimPrefix
  split <;> simp
theorem hex_size (t : ByteArray) : (mHex t).size ≤ t.size := by
  rw [size_list, size_list t]
  unfold mHex Lib.cut
  split <;> simp
theorem digs_plain (s : ByteArray) (h : (pr16 s).1 = 0) : Lib.containsAny s.data.toList [95, 43] = false := by
  apply containsAny_none
  intro b hb hm
  have h1 := pr16_digs s h b hb
  have h2 : ¬ (hexV (95 : Int)).isSome = true := by decide +kernel
  have h3 : ¬ (hexV (43 : Int)).isSome = true := by decide +kernel
  simp only [List.mem_cons, List.mem_nil_iff, or_false] at hm
  rcases hm with rfl | rfl
  · exact h2 h1
  · exact h3 h1
theorem bytes_map (s : ByteArray) : bytesOf s = s.data.toList.map fun b => (b.toNat : Int) := rfl
theorem pow16_le (n : Nat) (h : n ≤ 8) : (16 : Int) ^ n ≤ 4294967296 := by
  have : n = 0 ∨ n = 1 ∨ n = 2 ∨ n = 3 ∨ n = 4 ∨ n = 5 ∨ n = 6 ∨ n = 7 ∨ n = 8 := by omega
  rcases this with rfl | rfl | rfl | rfl | rfl | rfl | rfl | rfl | rfl <;> decide
theorem money_f (t : ByteArray) (ht : t.size ≤ 1000) : colour_Money.f t = some (moneyS t) := by
  have h1 := rest_size t
  have h2 := hex_size (mRest t)
  unfold colour_Money.f moneyS
  by_cases c1 : mHas t = true
  · rw [if_pos c1, if_pos c1, if_pos (by omega)]
    by_cases c2 : mDash (mRest t) = true
    · rw [if_pos c2, if_pos c2, if_pos (by omega)]
      obtain ⟨X, hX⟩ : ∃ X, mHex (mRest t) = X := ⟨_, rfl⟩
      rw [hX] at h2 ⊢
      by_cases c3 : X.size < 1 ∨ 8 < X.size
      · rw [if_pos c3]
        by_cases c4 : (pr16 X).1 = 0
        · rw [if_pos c4]
          rcases c3 with c3 | c3
          · have : pr16 X = (2, 0) := by unfold pr16; rw [if_pos (by omega)]
            rw [this] at c4
            cases c4
          · rw [if_pos c3]
        · rw [if_neg c4]
      · rw [if_neg c3]
        have hp : pr16 X = if valR 0 X.data.toList < 0 then (2, 0) else (0, valR 0 X.data.toList) := by
          unfold pr16
          rw [if_neg (by omega), bytes_map]
          refine pu16_valR _ 0 (by omega) ?_
          have := pow16_le X.data.toList.length (by rw [← size_list]; omega)
          omega
        by_cases c4 : valR 0 X.data.toList < 0
        · rw [if_pos c4] at hp
          rw [if_pos c4, hp, if_neg (by decide)]
        · rw [if_neg c4] at hp
          have c5 : (pr16 X).1 = 0 := by rw [hp]
          rw [if_neg c4, if_pos c5, if_neg (by omega), if_pos (pr16_ascii X c5), digs_plain X c5, if_neg Bool.false_ne_true, hp]
          have hb := (valR_bound X.data.toList 0 (by omega)).2
          have := pow16_le X.data.toList.length (by rw [← size_list]; omega)
          have hw : IntKind.u32.wrap (valR 0 X.data.toList) = valR 0 X.data.toList := IntWalk.u32_in _ (by omega)
          rw [hw]
    · rw [if_neg c2, if_neg c2, dash_no c2]
  · rw [if_neg c1, if_neg c1]

end Go.Proofs.YtiidpicgdjjikaaGreatDoor.PC
namespace Go.Proofs.YtiidpicgdjjikaaGreatDoor.PN
open Go.RowKit Go.Proofs.YtiidpicgdjjikaaGreatDoor.P Go.Proofs.YtiidpicgdjjikaaGreatDoor.G Go.Proofs.YtiidpicgdjjikaaGreatDoor.PL Go.Proofs.YtiidpicgdjjikaaGreatDoor.PR Go.Proofs.YtiidpicgdjjikaaGreatDoorW.PrintWords Go.Proofs.YtiidpicgdjjikaaGreatDoorW.PrintLast Go.Proofs.YtiidpicgdjjikaaGreatDoorW.PrintMore
set_option linter.unusedVariables false
set_option linter.unusedSimpArgs false
theorem clone_t (l : List Int) (h : l.length ≤ 1000000) : slices_CloneU32.f l = some l := by
  unfold slices_CloneU32.f
  rw [if_pos (by omega)]
theorem made_loop (l : List Int) (hl : l.length ≤ 100000) : ∀ (n k : Nat), n ≤ l.length → n + 1 ≤ k → ∃ r, nat_Made.l0 k l (n : Int) = some r ∧ r.length ≤ l.length
  | 0, k, hn, hk => by
    obtain ⟨k, rfl⟩ : ∃ j, k = j + 1 := ⟨k - 1, by omega⟩
    refine ⟨[], ?_, Nat.zero_le _⟩
    rw [nat_Made.l0, if_neg (by omega), if_pos (by omega), if_pos (by omega), clone_t _ (by rw [List.length_take]; omega)]
    rfl
  | n + 1, k, hn, hk => by
    obtain ⟨k, rfl⟩ : ∃ j, k = j + 1 := ⟨k - 1, by omega⟩
    have e : wrap64 (((n + 1 : Nat) : Int) - 1) = (n : Int) := by unfold wrap64; omega
    rw [nat_Made.l0, if_pos (by omega), e, if_pos (by omega), if_pos (by omega)]
    by_cases c : rd l (n : Int) = 0
    · rw [if_pos c]
      exact made_loop l hl n k (by omega) (by omega)
    · rw [if_neg c, if_pos (by omega), if_pos (by omega), Int.toNat_natCast, clone_t _ (by rw [List.length_take]; omega)]
      exact ⟨_, rfl, by rw [List.length_take]; omega⟩
theorem made_t (l : List Int) (hl : l.length ≤ 100000) (k : Nat) (hk : l.length + 1 ≤ k) : ∃ r, nat_Made.f k l = some r ∧ r.length ≤ l.length := made_loop l hl l.length k (Nat.le_refl _) hk
theorem at_t (l : List Int) (i : Nat) : ∃ x, nat_Nat_at.f l (i : Int) = some x := by
  unfold nat_Nat_at.f
  by_cases c : (i : Int) < (l.length : Int)
  · rw [if_pos c, if_pos (by omega)]; exact ⟨_, rfl⟩
  · rw [if_neg c]; exact ⟨_, rfl⟩
theorem add_loop (a b : List Int) (L : Nat) (hL : L ≤ 100000) : ∀ (d i k : Nat) (x : List Int) (c : Int), x.length = L → i + d = L → d + L + 3 ≤ k → ∃ r, nat_Add.l0 k x c (L : Int) (i : Int) a b = some r ∧ r.length ≤ L
  | 0, i, k, x, c, hx, hi, hk => by
    obtain ⟨k, rfl⟩ : ∃ j, k = j + 1 := ⟨k - 1, by omega⟩
    obtain ⟨r, e, hr⟩ := made_t x (by omega) k (by omega)
    rw [nat_Add.l0, if_neg (by omega), e]
    exact ⟨r, rfl, by omega⟩
  | d + 1, i, k, x, c, hx, hi, hk => by
    obtain ⟨k, rfl⟩ : ∃ j, k = j + 1 := ⟨k - 1, by omega⟩
    obtain ⟨u, eu⟩ := at_t a i
    obtain ⟨v, ev⟩ := at_t b i
    have e : wrap64 ((i : Int) + 1) = ((i + 1 : Nat) : Int) := by unfold wrap64; omega
    rw [nat_Add.l0, if_pos (by omega), eu, Option.bind_some, ev, Option.bind_some, bits_Add32.f, Option.bind_some, if_pos (by omega), if_pos (by omega), e]
    exact add_loop a b L hL d (i + 1) k _ _ (by rw [List.length_set]; exact hx) (by omega) (by omega)
theorem mx_nat (a b : Nat) : mx (a : Int) (b : Int) = ((max a b : Nat) : Int) := by unfold mx; split <;> omega
theorem add_t (a b : List Int) (ha : a.length ≤ 10000) (hb : b.length ≤ 10000) (k : Nat) (hk : 2 * max a.length b.length + 10 ≤ k) : ∃ r, nat_Add.f k a b = some r ∧ r.length ≤ max a.length b.length + 1 := by
  have e : wrap64 (((max a.length b.length : Nat) : Int) + 1) = ((max a.length b.length + 1 : Nat) : Int) := by unfold wrap64; omega
  unfold nat_Add.f
  rw [mx_nat, e, if_pos (by omega), Int.toNat_natCast, if_pos (by omega), Option.bind_some, List.length_replicate]
  exact add_loop a b _ (by omega) _ 0 k _ _ List.length_replicate (Nat.zero_add _) (by omega)
theorem mul_inner (x : List Int) (L : Nat) (hL : L ≤ 20000) (a : List Int) (n : Nat) (i : Nat) (w : Int) (hi : i + x.length < L) : ∀ (d j k : Nat) (y : List Int) (c : Int), y.length = L → j + d = x.length →
    ∃ y' : List Int, y'.length = L ∧ times_Mul.l1 (k + d + 1) x y (i : Int) w c a (n : Int) (i : Int) x (x.length : Int) (j : Int) = times_Mul.l0 k x y' a (n : Int) ((i + 1 : Nat) : Int)
  | 0, j, k, y, c, hy, hj => by
    have e : wrap64 ((i : Int) + (x.length : Int)) = ((i + x.length : Nat) : Int) := by unfold wrap64; omega
    have e2 : wrap64 ((i : Int) + 1) = ((i + 1 : Nat) : Int) := by unfold wrap64; omega
    rw [show k + 0 + 1 = k + 1 from rfl, times_Mul.l1, if_neg (by omega), e, if_pos (by omega), if_pos (by omega), e2]
    exact ⟨_, by rw [List.length_set]; exact hy, rfl⟩
  | d + 1, j, k, y, c, hy, hj => by
    have e : wrap64 ((i : Int) + (j : Int)) = ((i + j : Nat) : Int) := by unfold wrap64; omega
    have e2 : wrap64 ((j : Int) + 1) = ((j + 1 : Nat) : Int) := by unfold wrap64; omega
    rw [show k + (d + 1) + 1 = (k + d + 1) + 1 by omega, times_Mul.l1, if_pos (by omega), if_pos (by omega), if_pos (by omega), e, if_pos (by omega), if_pos (by omega), e2]
    exact mul_inner x L hL a n i w hi d (j + 1) k _ _ (by rw [List.length_set]; exact hy) (by omega)
theorem mul_outer (x a : List Int) (L : Nat) (hL : L ≤ 20000) (hx : a.length + x.length = L) : ∀ (d i k : Nat) (y : List Int), y.length = L → i + d = a.length → ∃ r, times_Mul.l0 (k + d * (x.length + 2) + L + 3) x y a (a.length : Int) (i : Int) = some r ∧ r.length ≤ L
  | 0, i, k, y, hy, hi => by
    obtain ⟨r, e, hr⟩ := made_t y (by omega) (k + L + 2) (by omega)
    rw [show k + 0 * (x.length + 2) + L + 3 = (k + L + 2) + 1 by omega, times_Mul.l0, if_neg (by omega), e]
    exact ⟨r, rfl, by omega⟩
  | d + 1, i, k, y, hy, hi => by
    obtain ⟨y', hy', e⟩ := mul_inner x L hL a a.length i (rd a (i : Int)) (by omega) x.length 0 (k + d * (x.length + 2) + L + 3) y 0 hy (by omega)
    obtain ⟨r, er, hr⟩ := mul_outer x a L hL hx d (i + 1) k y' hy' (by omega)
    refine ⟨r, ?_, hr⟩
    rw [show k + (d + 1) * (x.length + 2) + L + 3 = (k + d * (x.length + 2) + L + 3 + x.length + 1) + 1 by rw [Nat.succ_mul]; omega, times_Mul.l0, if_pos (by omega), if_pos (by omega), if_pos (by omega)]
    exact e.trans er
theorem limbs_t (l : List Int) (h : l.length ≤ 1000000) : nat_Nat_Limbs.f l = some l := by
  unfold nat_Nat_Limbs.f
  rw [clone_t l h, Option.bind_some]
theorem mul_t (a b : List Int) (ha : a.length ≤ 9000) (hb : b.length ≤ 9000) (k : Nat) (hk : a.length * (b.length + 2) + a.length + b.length + 3 ≤ k) : ∃ r, times_Mul.f k a b = some r ∧ r.length ≤ a.length + b.length := by
  have e : wrap64 ((a.length : Int) + (b.length : Int)) = ((a.length + b.length : Nat) : Int) := by unfold wrap64; omega
  unfold times_Mul.f
  rw [limbs_t a (by omega), Option.bind_some, limbs_t b (by omega), Option.bind_some, e, if_pos (by omega), Int.toNat_natCast, if_pos (by omega)]
  generalize hm : a.length * (b.length + 2) = m at hk
  obtain ⟨q, rfl⟩ : ∃ q, k = q + m + (a.length + b.length) + 3 := ⟨k - (m + a.length + b.length + 3), by omega⟩
  obtain ⟨r, er, hr⟩ := mul_outer b a (a.length + b.length) (by omega) rfl a.length 0 q (List.replicate (a.length + b.length) 0) List.length_replicate (Nat.zero_add _)
  rw [hm, show ((0 : Nat) : Int) = 0 from rfl] at er
  exact ⟨r, er, hr⟩
theorem of_t (n : Int) (k : Nat) (hk : 3 ≤ k) : ∃ r, nat_Of.f k n = some r ∧ r.length ≤ 2 := by
  obtain ⟨r, e, hr⟩ := made_t [n % 4294967296, (n / 4294967296) % 4294967296] (by simp) k hk
  unfold nat_Of.f
  rw [e]
  exact ⟨r, rfl, hr⟩
theorem ten_fin : ∀ m : Fin 10, ((tens_Ten.f 60 (m.val : Int)).map fun r => decide (r.length ≤ 1)) = some true := by decide +kernel
theorem ten_t (n : Nat) (h : n ≤ 9) (k : Nat) (hk : 60 ≤ k) : ∃ r, tens_Ten.f k (n : Int) = some r ∧ r.length ≤ 1 := by
  have := ten_fin ⟨n, by omega⟩
  simp only [Option.map_eq_some_iff] at this
  obtain ⟨r, e, hr⟩ := this
  exact ⟨r, at_rounds (tens_Ten.mono _) hk e, of_decide_eq_true hr⟩
end Go.Proofs.YtiidpicgdjjikaaGreatDoor.PN
namespace Go.Proofs.YtiidpicgdjjikaaGreatDoor.PN
open Go.RowKit Go.Proofs.YtiidpicgdjjikaaGreatDoor.P Go.Proofs.YtiidpicgdjjikaaGreatDoor.G Go.Proofs.YtiidpicgdjjikaaGreatDoor.PL Go.Proofs.YtiidpicgdjjikaaGreatDoor.PR Go.Proofs.YtiidpicgdjjikaaGreatDoor.PT Go.Proofs.YtiidpicgdjjikaaGreatDoorW.PrintWords Go.Proofs.YtiidpicgdjjikaaGreatDoorW.PrintLast Go.Proofs.YtiidpicgdjjikaaGreatDoorW.PrintMore
set_option linter.unusedVariables false
set_option linter.unusedSimpArgs false
def digB (b : UInt8) : Bool := decide (48 ≤ b.toNat) && decide (b.toNat ≤ 57)
theorem digB_iff (b : UInt8) : digB b = true ↔ 48 ≤ b.toNat ∧ b.toNat ≤ 57 := by unfold digB; rw [Bool.and_eq_true, decide_eq_true_eq, decide_eq_true_eq]
theorem digit_f (b : UInt8) : digits_digit.f (b.toNat : Int) = some (digB b) := by
  unfold digits_digit.f digB
  by_cases c : 48 ≤ b.toNat
  · rw [if_pos (by omega), decide_eq_true c, Bool.true_and]
    congr 1
    by_cases d : b.toNat ≤ 57
    · rw [decide_eq_true d, decide_eq_true (by omega)]
    · rw [decide_eq_false d, decide_eq_false (by omega)]
  · rw [if_neg (by omega), decide_eq_false c]
    rfl
theorem puM (l : List UInt8) : ∀ (acc e : Nat), l.all digB = true → l.length + e = 9 → acc < 10 ^ e → ∃ u, Lib.parseUintM (2 ^ 64 - 1) acc l = .ok u := by
  induction l with
  | nil => intro acc e _ _ _; exact ⟨acc, rfl⟩
  | cons b l ih =>
    intro acc e hd hl ha
    rw [List.all_cons, Bool.and_eq_true, digB_iff] at hd
    rw [List.length_cons] at hl
    have he : 10 ^ e ≤ 10 ^ 9 := Nat.pow_le_pow_right (by decide) (by omega)
    have hp : 10 ^ (e + 1) = 10 ^ e * 10 := Nat.pow_succ 10 e
    rw [show (10 : Nat) ^ 9 = 1000000000 from rfl] at he
    unfold Lib.parseUintM
    rw [if_pos hd.1, if_neg (by omega), if_neg (by rw [show (2 : Nat) ^ 64 - 1 = 18446744073709551615 from rfl]; omega)]
    exact ih _ (e + 1) hd.2 (by omega) (by omega)
theorem pu_t (s : ByteArray) (h0 : s.size ≠ 0) (h9 : s.size ≤ 9) (hd : s.data.toList.all digB = true) : ∃ u, strconv_ParseUint.f s 10 64 = some (u, none) := by
  obtain ⟨u, hu⟩ := puM s.data.toList 0 (9 - s.data.toList.length) hd (by rw [← PL.size_list]; omega) (Nat.pow_pos (by decide))
  have hn : s.data.toList ≠ [] := fun e => h0 (by rw [PL.size_list, e]; rfl)
  unfold strconv_ParseUint.f Lib.parseUintB
  rw [if_pos rfl, if_pos rfl, if_pos (by omega), if_neg hn, hu]
  exact ⟨_, rfl⟩
theorem all_ext (s : ByteArray) (a b : Nat) (h : s.data.toList.all digB = true) : (s.extract a b).data.toList.all digB = true := by
  rw [List.all_eq_true] at h ⊢
  intro x hx
  rw [extract_list] at hx
  exact h x (List.mem_of_mem_take (List.mem_of_mem_drop hx))
theorem parse_l1 : ∀ (n : Nat) (s : ByteArray) (acc : List Int) (k L : Nat), s.size ≤ 9 * n → s.data.toList.all digB = true → acc.length ≤ L → L + 3 * n ≤ 1000 → n + 6000 ≤ k → ∃ r, digits_Parse.l1 k s acc = some (r, true)
  | n, s, acc, k, L, h1, h2, h3, h4, h5 => by
    obtain ⟨k, rfl⟩ : ∃ j, k = j + 1 := ⟨k - 1, by omega⟩
    rw [digits_Parse.l1]
    by_cases z : s.size = 0
    · rw [if_pos (by rw [PL.toList_data]; exact List.length_eq_zero_iff.1 (by rw [← PL.size_list]; exact z))]
      exact ⟨acc, rfl⟩
    · match n, h1, h4, h5 with
      | 0, h1, _, _ => omega
      | n + 1, h1, h4, h5 =>
        have hm : mn (s.size : Int) 9 = ((min s.size 9 : Nat) : Int) := by unfold mn; split <;> omega
        have hz : (s.extract 0 (min s.size 9)).size = min s.size 9 := by rw [ByteArray.size_extract]; omega
        obtain ⟨u, eu⟩ := pu_t (s.extract 0 (min s.size 9)) (by omega) (by omega) (all_ext s _ _ h2)
        obtain ⟨t, et, ht⟩ := ten_t (min s.size 9) (by omega) k (by omega)
        have hp : acc.length * (t.length + 2) ≤ acc.length * 3 := Nat.mul_le_mul_left _ (by omega)
        obtain ⟨m, em, hm2⟩ := mul_t acc t (by omega) (by omega) k (by omega)
        obtain ⟨o, eo, ho⟩ := of_t u k (by omega)
        obtain ⟨a, ea, ha⟩ := add_t m o (by omega) (by omega) k (by omega)
        obtain ⟨r, er⟩ := parse_l1 n (s.extract (min s.size 9) s.size) a k (L + 3) (by rw [ByteArray.size_extract]; omega) (all_ext s _ _ h2) (by omega) (by omega) (by omega)
        refine ⟨r, ?_⟩
        rw [if_neg (by rw [PL.toList_data]; exact fun d => z (by rw [PL.size_list, d]; rfl)), hm, if_pos (by omega), if_pos (by omega), Int.toNat_natCast, eu, Option.bind_some, et, Option.bind_some, em, Option.bind_some, eo, Option.bind_some, ea, Option.bind_some]
        exact er
theorem parse_l0 (s : ByteArray) (hs : s.size ≤ 900) : ∀ (d i k : Nat), i + d = s.size → d + 7000 ≤ k → (s.data.toList.take i).all digB = true → ∃ r, digits_Parse.l0 k s (bytesOf s) (s.size : Int) (i : Int) = some (r, s.data.toList.all digB)
  | 0, i, k, hi, hk, hd => by
    obtain ⟨k, rfl⟩ : ∃ j, k = j + 1 := ⟨k - 1, by omega⟩
    have ha : s.data.toList.all digB = true := by rw [List.take_of_length_le (by rw [← PL.size_list]; omega)] at hd; exact hd
    obtain ⟨r, er⟩ := parse_l1 100 s [] k 0 (by omega) ha (Nat.le_refl _) (by omega) (by omega)
    rw [digits_Parse.l0, if_neg (by omega), ha]
    exact ⟨r, er⟩
  | d + 1, i, k, hi, hk, hd => by
    obtain ⟨k, rfl⟩ : ∃ j, k = j + 1 := ⟨k - 1, by omega⟩
    have hl : i < s.data.toList.length := by rw [← PL.size_list]; omega
    have e : wrap64 ((i : Int) + 1) = ((i + 1 : Nat) : Int) := by unfold wrap64; omega
    have er : rd (bytesOf s) (i : Int) = ((s.data.toList[i]).toNat : Int) := by
      unfold rd bytesOf
      rw [Int.toNat_natCast, List.getD_eq_getElem?_getD, List.getElem?_map, List.getElem?_eq_getElem hl]
      rfl
    rw [digits_Parse.l0, if_pos (by omega), if_pos (by omega), if_pos (by rw [bytesOf_length]; omega), er, digit_f, Option.bind_some, e]
    by_cases c : digB s.data.toList[i] = true
    · rw [if_pos c]
      exact parse_l0 s hs d (i + 1) k (by omega) (by omega) (by rw [List.take_succ_eq_append_getElem hl, List.all_append, hd, List.all_cons, c]; rfl)
    · rw [if_neg c]
      have : s.data.toList.all digB = false := by
        rw [Bool.eq_false_iff]
        intro h
        exact c (List.all_eq_true.1 h _ (List.getElem_mem hl))
      rw [this]
      exact ⟨_, rfl⟩
def runS (s : ByteArray) : Bool := !(s.size == 0) && s.data.toList.all digB && decide (s.size ≤ 30)
theorem run_f (s : ByteArray) (hs : s.size ≤ 900) (k : Nat) (hk : 8000 ≤ k) : cond_run.f k s = some (runS s) := by
  unfold cond_run.f digits_Parse.f runS
  by_cases z : s.size = 0
  · rw [if_pos (by rw [PL.toList_data]; exact List.length_eq_zero_iff.1 (by rw [← PL.size_list]; exact z)), Option.bind_some, if_neg (by decide), beq_iff_eq.2 z]
    rfl
  · obtain ⟨r, er⟩ := parse_l0 s hs s.size 0 k (by omega) (by omega) rfl
    rw [show ((0 : Nat) : Int) = 0 from rfl] at er
    rw [if_neg (by rw [PL.toList_data]; exact fun d => z (by rw [PL.size_list, d]; rfl)), if_pos (by omega), Option.bind_some, bytesOf_length, er, Option.bind_some, beq_eq_false_iff_ne.2 z]
    by_cases c : s.data.toList.all digB = true
    · rw [if_pos c, c]
      congr 1
      rw [Bool.not_false, Bool.true_and, Bool.true_and]
      by_cases d : s.size ≤ 30
      · rw [decide_eq_true d, decide_eq_true (by omega)]
      · rw [decide_eq_false d, decide_eq_false (by omega)]
    · have c' : s.data.toList.all digB = false := by simpa using c
      rw [if_neg c, c']
      rfl
def condO (s : ByteArray) : Int × ByteArray × Bool := opL s [2, 4, 6, 1, 3, 5]
def condM (s : ByteArray) : ByteArray := ⟨(Lib.trimPrefix (condO s).2.1.data.toList [45]).toArray⟩
def condN (s : ByteArray) : Bool := Lib.hasPrefix (condO s).2.1.data.toList [45]
def condW (s : ByteArray) : ByteArray := ⟨(Lib.cut (condM s).data.toList [46]).1.toArray⟩
def condF (s : ByteArray) : ByteArray := ⟨(Lib.cut (condM s).data.toList [46]).2.1.toArray⟩
def condH (s : ByteArray) : Bool := (Lib.cut (condM s).data.toList [46]).2.2
def condOk (s : ByteArray) : Bool := (condO s).2.2 && runS (condW s) && (!condH s || runS (condF s))
def condA (s : ByteArray) : ByteArray := ⟨(Lib.trimLeftB (condW s).data.toList 48).toArray⟩
def condB (s : ByteArray) : ByteArray := ⟨(Lib.trimRightB (condF s).data.toList 48).toArray⟩
def condS (s : ByteArray) : Int × Bool × ByteArray × ByteArray × Bool :=
  if condOk s = true then ((condO s).1, (if condN s = true then ((condA s ++ condB s).toList != ([] : List UInt8)) else false), condA s, condB s, true) else (0, false, ⟨#[]⟩, ⟨#[]⟩, false)
theorem trimPrefix_le (l p : List UInt8) : (Lib.trimPrefix l p).length ≤ l.length := by
  unfold Lib.trimPrefix
  split
  · rw [List.length_drop]; omega
  · exact Nat.le_refl _
theorem cut_le (l p : List UInt8) : (Lib.cut l p).1.length ≤ l.length ∧ (Lib.cut l p).2.1.length ≤ l.length := by
  unfold Lib.cut
  split
  · simp only [List.length_take, List.length_drop]; omega
  · exact ⟨Nat.le_refl _, Nat.zero_le _⟩
theorem opL_le (s : ByteArray) : ∀ l : List Int, (opL s l).2.1.size ≤ s.size
  | [] => Nat.zero_le _
  | o :: l => by
    unfold opL
    split
    · show (⟨(Lib.trimPrefix s.data.toList (sg o).data.toList).toArray⟩ : ByteArray).size ≤ s.size
      rw [PL.size_list, PL.size_list s, mk_list]
      exact trimPrefix_le _ _
    · exact opL_le s l
theorem condM_le (s : ByteArray) : (condM s).size ≤ s.size := by
  unfold condM
  rw [PL.size_list, mk_list]
  refine Nat.le_trans (trimPrefix_le _ _) ?_
  rw [← PL.size_list]
  exact opL_le s _
theorem condW_le (s : ByteArray) : (condW s).size ≤ s.size := by
  unfold condW
  rw [PL.size_list, mk_list]
  refine Nat.le_trans (cut_le _ _).1 ?_
  rw [← PL.size_list]
  exact condM_le s
theorem condF_le (s : ByteArray) : (condF s).size ≤ s.size := by
  unfold condF
  rw [PL.size_list, mk_list]
  refine Nat.le_trans (cut_le _ _).2 ?_
  rw [← PL.size_list]
  exact condM_le s
theorem trimL_le (l : List UInt8) (c : UInt8) : (Lib.trimLeftB l c).length ≤ l.length := (List.dropWhile_sublist _).length_le
theorem trimR_le (l : List UInt8) (c : UInt8) : (Lib.trimRightB l c).length ≤ l.length := by
  unfold Lib.trimRightB
  rw [List.length_reverse]
  refine Nat.le_trans (List.dropWhile_sublist _).length_le ?_
  rw [List.length_reverse]
  exact Nat.le_refl _
theorem cond_j0 (s : ByteArray) (hs : s.size ≤ 900) (k : Nat) (b : Bool) : cond_Parse.j0 (k + 1) (condO s).1 (condN s) (condW s) (condF s) b = some (if b = true then (0, false, ⟨#[]⟩, ⟨#[]⟩, false) else ((condO s).1, (if condN s = true then ((condA s ++ condB s).toList != ([] : List UInt8)) else false), condA s, condB s, true)) := by
  have hw := condW_le s
  have hf := condF_le s
  have ha : (condA s).size ≤ 900 := by unfold condA; rw [PL.size_list, mk_list]; have := trimL_le (condW s).data.toList 48; rw [← PL.size_list] at this; omega
  have hb : (condB s).size ≤ 900 := by unfold condB; rw [PL.size_list, mk_list]; have := trimR_le (condF s).data.toList 48; rw [← PL.size_list] at this; omega
  have e1 : strings_TrimLeft.f (condW s) ⟨#[48]⟩ = some (condA s) := by
    show (if (48 : UInt8).toNat < 128 then (if (condW s).size ≤ 9223372036854775807 then some (condA s) else none) else none) = _
    rw [if_pos (by decide), if_pos (by omega)]
  have e2 : digits_Trim.f (condF s) = some (condB s) := by
    unfold digits_Trim.f
    rw [show strings_TrimRight.f (condF s) ⟨#[48]⟩ = some (condB s) from (by
      show (if (48 : UInt8).toNat < 128 then (if (condF s).size ≤ 9223372036854775807 then some (condB s) else none) else none) = _
      rw [if_pos (by decide), if_pos (by omega)])]
    rfl
  rw [cond_Parse.j0, e1, Option.bind_some, e2, Option.bind_some]
  cases b with
  | true => rw [if_pos rfl, if_pos rfl]
  | false =>
    rw [if_neg (show ¬ (false = true) by decide), if_neg (show ¬ (false = true) by decide)]
    by_cases n : condN s = true
    · rw [if_pos n, if_pos n, if_pos (by omega)]
    · rw [if_neg n, if_neg n]
theorem cond_f (s : ByteArray) (hs : s.size ≤ 900) (k : Nat) (hk : 9000 ≤ k) : cond_Parse.f k s = some (condS s) := by
  obtain ⟨k, rfl⟩ : ∃ j, k = j + 1 := ⟨k - 1, by omega⟩
  have hm := condM_le s
  have j := cond_j0 s hs k
  have r1 := run_f (condW s) (by have := condW_le s; omega) (k + 1) (by omega)
  have r2 := run_f (condF s) (by have := condF_le s; omega) (k + 1) (by omega)
  have e3 : strings_Cut.f (condM s) ⟨#[46]⟩ = some (condW s, condF s, condH s) := by
    unfold strings_Cut.f
    rw [if_pos (by omega)]
    rfl
  unfold cond_Parse.f condS condOk
  rw [show cond_op.f s = some (condO s) from rfl, Option.bind_some, show strings_CutPrefix.f (condO s).2.1 ⟨#[45]⟩ = some (condM s, condN s) from rfl, Option.bind_some, e3, Option.bind_some]
  simp only []
  rw [r1, r2]
  by_cases a : (condO s).2.2 = true
  · rw [if_pos a, Option.bind_some, a, Bool.true_and]
    by_cases b : runS (condW s) = true
    · rw [if_pos b, b, Bool.true_and]
      by_cases c : condH s = true
      · rw [if_pos c, Option.bind_some, c, Bool.not_true, Bool.false_or, j]
        cases runS (condF s) <;> rfl
      · have c' : condH s = false := by simpa using c
        rw [if_neg c, c', Bool.not_false, Bool.true_or, j]
        rfl
    · have b' : runS (condW s) = false := by simpa using b
      rw [if_neg b, b', Bool.false_and, j]
      rfl
  · have a' : (condO s).2.2 = false := by simpa using a
    rw [if_neg a, a', Bool.false_and, Bool.false_and, j]
    rfl
end Go.Proofs.YtiidpicgdjjikaaGreatDoor.PN
namespace Go.Proofs.YtiidpicgdjjikaaGreatDoor.PI
open Go.RowKit Go.Proofs.YtiidpicgdjjikaaGreatDoor.P Go.Proofs.YtiidpicgdjjikaaGreatDoor.G Go.Proofs.YtiidpicgdjjikaaGreatDoor.PL Go.Proofs.YtiidpicgdjjikaaGreatDoor.PN Go.Proofs.YtiidpicgdjjikaaGreatDoor.PC Go.Proofs.YtiidpicgdjjikaaGreatDoorW.PrintWords Go.Proofs.YtiidpicgdjjikaaGreatDoorW.PrintLast Go.Proofs.YtiidpicgdjjikaaGreatDoorW.PrintMore
set_option linter.unusedVariables false
set_option linter.unusedSimpArgs false
def KK : Nat := 10000
theorem number_t (t : ByteArray) : ∃ x, colour_Number.f KK t = some x := ⟨_, number_f t KK (by decide)⟩
theorem cond_t (t : ByteArray) (h : t.size ≤ 900) : cond_Parse.f KK t = some (condS t) := cond_f t h KK (by decide)
theorem named_t (t : ByteArray) (h : t.size ≤ 900) : ∃ x, item_named.f KK t = some x := by
  obtain ⟨x, e⟩ := number_t t
  unfold item_named.f
  rw [e, Option.bind_some, cond_t t h, Option.bind_some]
  split <;> exact ⟨_, rfl⟩
theorem sorts_t (a : Int) (t : ByteArray) (c d : Int) (h : t.size ≤ 900) : ∃ s, item_sorts.f KK a t c d = some s ∧ 0 ≤ s ∧ s < 8 := by
  obtain ⟨x, ex⟩ := named_t t h
  have ek : KK = 9999 + 1 := rfl
  have nm : ∃ x, item_named.f 9999 t = some x := by
    unfold item_named.f
    rw [number_f t 9999 (by decide), Option.bind_some, cond_f t h 9999 (by decide), Option.bind_some]
    split <;> exact ⟨_, rfl⟩
  obtain ⟨y, ey⟩ := nm
  have j : ∀ b : Bool, ∃ s, item_sorts.j0 (9999 + 1) a b a t c d = some s ∧ 0 ≤ s ∧ s < 8 := by
    intro b
    rw [item_sorts.j0]
    split
    · exact ⟨5, rfl, by decide, by decide⟩
    split
    · exact ⟨6, rfl, by decide, by decide⟩
    split
    · exact ⟨7, rfl, by decide, by decide⟩
    split
    · exact ⟨2, rfl, by decide, by decide⟩
    split
    · rw [elapsed_f t h, Option.bind_some]
      split
      · rw [ey, Option.bind_some]
        split
        · exact ⟨0, rfl, by decide, by decide⟩
        · exact ⟨5, rfl, by decide, by decide⟩
      · exact ⟨0, rfl, by decide, by decide⟩
    · exact ⟨0, rfl, by decide, by decide⟩
  unfold item_sorts.f
  rw [ek]
  split
  · exact j _
  · exact j _
theorem kind_loop (l : List Int) (hl : l.length ≤ 10) (x : Int) : ∀ (d i k : Nat), i + d = l.length → d + 1 ≤ k → ∃ r, token_Kind_110.l0 k l x (l.length : Int) (i : Int) = some r
  | 0, i, k, hi, hk => by
    obtain ⟨k, rfl⟩ : ∃ j, k = j + 1 := ⟨k - 1, by omega⟩
    rw [token_Kind_110.l0, if_neg (by omega)]
    exact ⟨_, rfl⟩
  | d + 1, i, k, hi, hk => by
    obtain ⟨k, rfl⟩ : ∃ j, k = j + 1 := ⟨k - 1, by omega⟩
    have e : wrap64 ((i : Int) + 1) = ((i + 1 : Nat) : Int) := by unfold wrap64; omega
    rw [token_Kind_110.l0, if_pos (by omega), if_pos (by omega), if_pos (by omega), e]
    split
    · exact ⟨_, rfl⟩
    · exact kind_loop l hl x d (i + 1) k (by omega) (by omega)
theorem kind_t (l : List Int) (hl : l.length ≤ 10) (x : Int) : ∃ b, token_Kind_83.f KK l x = some b := by
  obtain ⟨r, e⟩ := kind_loop l hl x l.length 0 KK (by omega) (by unfold KK; omega)
  unfold token_Kind_83.f token_Kind_110.f
  rw [show ((0 : Nat) : Int) = 0 from rfl] at e
  rw [e]
  exact ⟨_, rfl⟩
def Inv (n : Nat) (b : BSt) : Prop := b.items.length ≤ n ∧ ∀ x ∈ b.items, x.f1.size ≤ 1000 * n
theorem Inv.up {n : Nat} {b : BSt} (h : Inv n b) : Inv (n + 1) b := ⟨Nat.le_succ_of_le h.1, fun x hx => Nat.le_trans (h.2 x hx) (by omega)⟩
theorem last_size {n : Nat} {b : BSt} (h : Inv n b) (hp : 0 < b.items.length) : (lastI b.items).f1.size ≤ 1000 * n := by
  unfold lastI rd_T55
  have e : ((b.items.length : Int) - 1).toNat = b.items.length - 1 := by omega
  rw [e, List.getD_eq_getElem?_getD, List.getElem?_eq_getElem (by omega)]
  exact h.2 _ (List.getElem_mem _)
theorem add_t {n : Nat} {b : BSt} (h : Inv n b) (hn : n ≤ 1000) (x : S55) (hx : x.f1.size ≤ 1000) : ∃ b', addF b x = some b' ∧ Inv (n + 1) b' ∧ b'.pos = b.pos := by
  unfold addF
  split
  · exact ⟨b, rfl, h.up, rfl⟩
  split
  · rename_i c
    have hl := last_size h c.2.1
    rw [if_pos (by omega)]
    refine ⟨_, rfl, ⟨?_, ?_⟩, rfl⟩
    · show (b.items.set _ _).length ≤ n + 1
      rw [List.length_set]
      exact Nat.le_succ_of_le h.1
    · intro y hy
      rcases List.mem_or_eq_of_mem_set hy with hy | hy
      · exact Nat.le_trans (h.2 y hy) (by omega)
      · rw [hy]
        show ((lastI b.items).f1 ++ x.f1).size ≤ _
        rw [ByteArray.size_append]
        omega
  · have := h.1
    rw [if_pos (by omega)]
    refine ⟨_, rfl, ⟨?_, ?_⟩, rfl⟩
    · show (b.items ++ [x]).length ≤ n + 1
      rw [List.length_append, List.length_cons, List.length_nil]
      omega
    · intro y hy
      have hy : y ∈ b.items ++ [x] := hy
      rcases List.mem_append.1 hy with hy | hy
      · exact Nat.le_trans (h.2 y hy) (by omega)
      · rw [List.mem_singleton.1 hy]
        omega
theorem only_t {n : Nat} {b : BSt} (h : Inv n b) (k : Int) : Inv n (onlyF b k).2 ∧ (onlyF b k).2.pos = b.pos := by
  unfold onlyF
  split
  · exact ⟨h, rfl⟩
  · exact ⟨h, rfl⟩
theorem elap_size (l : List Nat) : (elapS l).1.size ≤ 1 := by
  cases l with
  | nil => exact Nat.zero_le _
  | cons c r =>
    simp only [elapS]
    split
    · exact Nat.le_refl _
    · exact Nat.zero_le _
theorem money_size (t : ByteArray) (h : t.size ≤ 900) : (moneyS t).1.size ≤ 900 := by
  have hr := rest_size t
  have hn : (mName (mRest t)).size ≤ (mRest t).size := by
    unfold mName
    rw [PL.size_list, mk_list]
    refine Nat.le_trans (cut_le _ _).1 ?_
    rw [← PL.size_list]
    exact Nat.le_refl _
  unfold moneyS
  repeat' split
  all_goals first | (show (mName (mRest t)).size ≤ 900; omega) | (show (mRest t).size ≤ 900; omega) | exact Nat.zero_le _
def Good (n : Nat) (p : Int) (o : Option (Int × BSt)) : Prop := ∃ r b', o = some (r, b') ∧ Inv (n + 1) b' ∧ b'.pos = p
theorem good_add {n : Nat} {b : BSt} (h : Inv n b) (hn : n ≤ 1000) (x : S55) (hx : x.f1.size ≤ 1000) (r : Int) : Good n b.pos ((addF b x).bind fun b2 => some (r, b2)) := by
  obtain ⟨b', e, h1, h2⟩ := add_t h hn x hx
  rw [e]
  exact ⟨r, b', rfl, h1, h2⟩
theorem good_only {n : Nat} {b : BSt} (h : Inv n b) (hn : n ≤ 1000) (x : S55) (hx : x.f1.size ≤ 1000) (q : Int) : Good n b.pos ((addF b x).bind fun b2 => some (onlyF b2 q)) := by
  obtain ⟨b', e, h1, h2⟩ := add_t h hn x hx
  rw [e]
  exact ⟨_, _, rfl, (only_t h1 q).1, (only_t h1 q).2.trans h2⟩
theorem good_same {n : Nat} {b : BSt} (h : Inv n b) (r : Int) : Good n b.pos (some (r, b)) := ⟨r, b, rfl, h.up, rfl⟩
theorem bracket_t {n : Nat} {b : BSt} (h : Inv n b) (hn : n ≤ 1000) (t : ByteArray) (ht : t.size ≤ 900) : Good n b.pos (bracketF KK b t) := by
  obtain ⟨x, ex⟩ := number_t t
  unfold bracketF
  rw [ex, Option.bind_some]
  split
  · split
    · exact ⟨_, _, rfl, h.up, rfl⟩
    · exact good_same h _
  rw [cond_t t ht, Option.bind_some]
  split
  · split
    · exact ⟨_, _, rfl, h.up, rfl⟩
    · exact good_same h _
  rw [elapsed_f t ht, Option.bind_some]
  split
  · exact good_add h hn _ (by have := elap_size (lows t); show (elapS (lows t)).1.size ≤ 1000; omega) _
  rw [money_f t (by omega), Option.bind_some]
  split
  · exact good_add h hn _ (by have := money_size t ht; show (moneyS t).1.size ≤ 1000; omega) _
  · exact good_same h _
theorem wrong_len (s : Int) : (wrongL s).length ≤ 10 := by unfold wrongL; (repeat' split) <;> simp
theorem means_len (s : Int) : (meansL s).length ≤ 10 := by unfold meansL; (repeat' split) <;> simp
theorem sign_t {n : Nat} {b : BSt} (h : Inv n b) (hn : n ≤ 1000) (x : S53) (hx : x.f1.size ≤ 900) : Good n b.pos (signF KK b x) := by
  obtain ⟨c, ec⟩ := kind_t (wrongL b.sort) (wrong_len _) x.f0
  obtain ⟨m, em⟩ := kind_t (meansL b.sort) (means_len _) x.f0
  have ho := only_t h x.f0
  unfold signF
  rw [ec, Option.bind_some]
  split
  · exact good_same h _
  rw [em, Option.bind_some]
  split
  · split
    · exact good_add h hn _ (by show x.f1.size ≤ 1000; omega) _
    · split
      · have := good_add ho.1 hn (⟨kindN x.f0, x.f1, 0⟩ : S55) (by show x.f1.size ≤ 1000; omega) 0
        rw [ho.2] at this
        exact this
      · exact ⟨_, _, rfl, ho.1.up, ho.2⟩
  split
  · rw [if_pos (by omega)]
    exact good_add h hn _ (by show ((⟨#[69]⟩ : ByteArray) ++ x.f1).size ≤ 1000; rw [ByteArray.size_append]; have : (⟨#[69]⟩ : ByteArray).size = 1 := rfl; omega) _
  · exact good_add h hn _ (by show x.f1.size ≤ 1000; omega) _
theorem counted_t (x : S53) : ∃ a t c, item_counted.f x.f0 x.f1 x.f2 x.f3 = some (a, t, c) ∧ t = x.f1 := by
  unfold item_counted.f
  repeat' split
  all_goals exact ⟨_, _, _, rfl, rfl⟩
theorem other_t {n : Nat} {b : BSt} (h : Inv n b) (hn : n ≤ 1000) (x : S53) (hx : x.f1.size ≤ 900) : Good n b.pos (otherF KK b x) := by
  have hx2 : x.f1.size ≤ 1000 := by omega
  unfold otherF
  split
  · exact good_add h hn _ hx2 _
  split
  · exact good_add h hn _ hx2 _
  split
  · exact good_add h hn _ hx2 _
  split
  · exact good_add h hn _ hx2 _
  split
  · exact good_only h hn _ hx2 _
  split
  · exact good_add h hn _ hx2 _
  split
  · exact good_add h hn _ hx2 _
  split
  · exact good_only h hn _ hx2 _
  split
  · exact good_add h hn _ hx2 _
  split
  · obtain ⟨a, t, c, e, rfl⟩ := counted_t x
    rw [e, Option.bind_some]
    exact good_add h hn _ hx2 _
  split
  · exact bracket_t h hn _ hx
  · exact good_same h _
theorem cnt_range : ∀ (l : List S53) (n : Int), 0 ≤ n → n ≤ 3 → 0 ≤ cntF l n ∧ cntF l n ≤ 3
  | [], n, a, b => ⟨a, b⟩
  | t :: l, n, a, b => by
    unfold cntF
    split
    · rename_i c
      exact cnt_range l (n + 1) (by omega) (by have := c.2.2; omega)
    · exact ⟨a, b⟩
def Small (l : List S53) : Prop := ∀ x ∈ l, x.f1.size ≤ 900
theorem rd_small {l : List S53} (h : Small l) (i : Int) : (rd_T53 l i).f1.size ≤ 900 := by
  unfold rd_T53
  rw [List.getD_eq_getElem?_getD]
  cases e : l[i.toNat]? with
  | none => exact Nat.zero_le _
  | some x => exact h x (List.mem_of_getElem? e)
theorem part_t {l : List S53} (hs : Small l) (b : BSt) : ∃ r, partF KK l b = some r ∧ 0 ≤ r ∧ r ≤ 3 := by
  have hz := rd_small hs (b.pos - 1)
  have hc := cnt_range (l.drop (b.pos.toNat + 1)) 0 (by omega) (by omega)
  obtain ⟨x, ex⟩ := named_t (rd_T53 l (b.pos - 1)).f1 hz
  unfold partF
  split
  · rw [elapsed_f _ hz, Option.bind_some]
    split
    · exact ⟨_, rfl, hc⟩
    split
    · rw [ex, Option.bind_some]
      split
      · exact ⟨0, rfl, by omega, by omega⟩
      · exact ⟨_, rfl, hc⟩
    · exact ⟨0, rfl, by omega, by omega⟩
  · exact ⟨0, rfl, by omega, by omega⟩
theorem rest_t {n : Nat} {b : BSt} (h : Inv n b) (hn : n ≤ 1000) (x : S53) (hx : x.f1.size ≤ 900) : ∃ e b', restF KK b x = some (1, e, b') ∧ Inv (n + 1) b' ∧ b'.pos = b.pos := by
  unfold restF
  split
  · obtain ⟨r, b', e, h1, h2⟩ := sign_t h hn x hx
    rw [e]
    exact ⟨r, b', rfl, h1, h2⟩
  · obtain ⟨r, b', e, h1, h2⟩ := other_t h hn x hx
    rw [e]
    exact ⟨r, b', rfl, h1, h2⟩
theorem token_t {n : Nat} {l : List S53} {b : BSt} (h : Inv n b) (hn : n ≤ 1000) (hs : Small l) : ∃ r e b', tokenF KK l b = some (r, e, b') ∧ Inv (n + 1) b' ∧ b'.pos = b.pos ∧ (e = 0 → 1 ≤ r ∧ r ≤ 4) := by
  have hz := rd_small hs b.pos
  have hp : ∃ m, (if (rd_T53 l b.pos).f0 = 7 then partF KK l b else some 0) = some m ∧ 0 ≤ m ∧ m ≤ 3 := by
    split
    · exact part_t hs b
    · exact ⟨0, rfl, by omega, by omega⟩
  obtain ⟨m, em, m0, m3⟩ := hp
  unfold tokenF
  rw [em, Option.bind_some]
  split
  · obtain ⟨b', e, h1, h2⟩ := add_t h hn (⟨16, ⟨#[]⟩, m⟩ : S55) (Nat.zero_le _)
    rw [e, Option.bind_some]
    refine ⟨_, _, _, rfl, h1, h2, fun _ => ?_⟩
    unfold wrap64
    omega
  obtain ⟨s, es, s0, s8⟩ := sorts_t (rd_T53 l b.pos).f0 (rd_T53 l b.pos).f1 (rd_T53 l b.pos).f2 (rd_T53 l b.pos).f3 hz
  rw [es, Option.bind_some]
  split
  · obtain ⟨e, b', er, h1, h2⟩ := rest_t h hn _ hz
    exact ⟨1, e, b', er, h1, h2, fun _ => ⟨by omega, by omega⟩⟩
  split
  · obtain ⟨e, b', er, h1, h2⟩ := rest_t (b := { b with kind := s }) h hn _ hz
    exact ⟨1, e, b', er, h1, h2, fun _ => ⟨by omega, by omega⟩⟩
  · exact ⟨0, 11, b, rfl, h.up, rfl, fun h => absurd h (by decide)⟩
theorem min_len : ∀ (l : List S55) (ah : ByteArray), (minL ah l).length = l.length
  | [], _ => rfl
  | x :: l, ah => by
    unfold minL
    split <;> simp only [List.length_cons, min_len l]
theorem ofL_t (l : List S53) (hs : Small l) (hl : l.length ≤ 900) : ∀ (d f n : Nat) (b : BSt), Inv n b → 0 ≤ b.pos → (l.length : Int) ≤ b.pos + d → n + d ≤ 950 → d + 1 ≤ f → ∃ r, ofL KK l f b = some r ∧ (r.2.2.2.2.2.2.2.2 ≠ 0 → 0 ≤ r.2.2.2.2.2.2.2.1 ∧ r.2.2.2.2.2.2.2.1 < (l.length : Int)) ∧ r.2.2.2.2.2.2.1.length ≤ 1000
  | d, f, n, b, h, h0, h1, h2, h3 => by
    obtain ⟨f, rfl⟩ : ∃ j, f = j + 1 := ⟨f - 1, by omega⟩
    rw [ofL, if_pos h0]
    by_cases c : b.pos < (l.length : Int)
    · rw [if_pos c]
      match d, h1, h2, h3 with
      | 0, h1, _, _ => omega
      | d + 1, h1, h2, h3 =>
        obtain ⟨r, e, b', et, i1, i2, i3⟩ := token_t h (by omega) hs
        rw [et, Option.bind_some]
        by_cases z : e = 0
        · have hr := i3 z
          have e1 : wrap64 (b'.pos + r) = b'.pos + r := by rw [i2]; unfold wrap64; omega
          rw [if_pos z]
          exact ofL_t l hs hl d f (n + 1) { b' with pos := wrap64 (b'.pos + r) } i1 (by show 0 ≤ wrap64 (b'.pos + r); rw [e1, i2]; omega) (by show (l.length : Int) ≤ wrap64 (b'.pos + r) + d; rw [e1, i2]; omega) (by omega) (by omega)
        · rw [if_neg z]
          exact ⟨_, rfl, fun _ => ⟨by show 0 ≤ b'.pos; rw [i2]; exact h0, by show b'.pos < _; rw [i2]; exact c⟩, Nat.zero_le _⟩
    · rw [if_neg c]
      exact ⟨_, rfl, fun h => absurd rfl h, by show (minL ⟨#[]⟩ b.items).length ≤ 1000; rw [min_len]; have := h.1; omega⟩
theorem sortL_t (l : List S53) (hs : Small l) : ∀ (h : List Bool) (a b : Bool), ∃ r, sortL KK l h a b = some r := by
  induction l with
  | nil => intro h a b; exact ⟨_, rfl⟩
  | cons t l ih =>
    intro h a b
    obtain ⟨s, es, s0, s8⟩ := sorts_t t.f0 t.f1 t.f2 t.f3 (hs t (by simp))
    rw [sortL, es, Option.bind_some, if_pos ⟨s0, s8⟩]
    exact ih (fun x hx => hs x (by simp [hx])) _ _ _
theorem of_t (l : List S53) (hs : Small l) (hl : l.length ≤ 900) : ∃ r, item_Of.f KK l = some r ∧ (r.2.2.2.2.2.2.2.2 ≠ 0 → 0 ≤ r.2.2.2.2.2.2.2.1 ∧ r.2.2.2.2.2.2.2.1 < (l.length : Int)) ∧ r.2.2.2.2.2.2.1.length ≤ 1000 := by
  obtain ⟨s, es⟩ := sortL_t l hs (List.replicate 8 false) false false
  have e : sortF KK l = some (sortR s.1 s.2.1 s.2.2) := by
    unfold sortF
    rw [es]
    rfl
  unfold item_Of.f
  rw [e, Option.bind_some]
  exact ofL_t l hs hl l.length KK 0 _ ⟨Nat.zero_le _, fun x hx => by cases hx⟩ (Int.le_refl _) (by show (l.length : Int) ≤ 0 + (l.length : Int); omega) (by omega) (by unfold KK; omega)
def ofS (l : List S53) : OfR := (item_Of.f KK l).getD (0, 0, 0, false, ⟨#[]⟩, ⟨#[]⟩, [], 0, 0)
theorem of_f (l : List S53) (hs : Small l) (hl : l.length ≤ 900) (k : Nat) (hk : KK ≤ k) : item_Of.f k l = some (ofS l) := by
  obtain ⟨r, e, _, _⟩ := of_t l hs hl
  refine at_rounds (item_Of.mono l) hk ?_
  unfold ofS
  rw [e]
  rfl
theorem of_pos (l : List S53) (hs : Small l) (hl : l.length ≤ 900) (h : (ofS l).2.2.2.2.2.2.2.2 ≠ 0) : 0 ≤ (ofS l).2.2.2.2.2.2.2.1 ∧ (ofS l).2.2.2.2.2.2.2.1 < (l.length : Int) := by
  obtain ⟨r, e, hr, _⟩ := of_t l hs hl
  unfold ofS at h ⊢
  rw [e] at h ⊢
  exact hr h
theorem of_len (l : List S53) (hs : Small l) (hl : l.length ≤ 900) : (ofS l).2.2.2.2.2.2.1.length ≤ 1000 := by
  obtain ⟨r, e, _, hr⟩ := of_t l hs hl
  unfold ofS
  rw [e]
  exact hr
end Go.Proofs.YtiidpicgdjjikaaGreatDoor.PI
namespace Go.Proofs.YtiidpicgdjjikaaGreatDoor.PP
open Go.RowKit Go.Proofs.YtiidpicgdjjikaaGreatDoor.P Go.Proofs.YtiidpicgdjjikaaGreatDoor.G Go.Proofs.YtiidpicgdjjikaaGreatDoor.PL Go.Proofs.YtiidpicgdjjikaaGreatDoor.PR Go.Proofs.YtiidpicgdjjikaaGreatDoor.PT Go.Proofs.YtiidpicgdjjikaaGreatDoor.PI Go.Proofs.YtiidpicgdjjikaaGreatDoorW.PrintWords Go.Proofs.YtiidpicgdjjikaaGreatDoorW.PrintLast Go.Proofs.YtiidpicgdjjikaaGreatDoorW.PrintMore
set_option linter.unusedVariables false
set_option linter.unusedSimpArgs false
theorem ext_size (s : ByteArray) (a b : Nat) : (s.extract a b).size ≤ s.size := by rw [ByteArray.size_extract]; omega
theorem tok_text (s : ByteArray) : (tokS s).2.1.size ≤ max s.size 7 := by
  have h0 : (⟨#[]⟩ : ByteArray).size ≤ max s.size 7 := Nat.zero_le _
  have hx : ∀ a b, (s.extract a b).size ≤ max s.size 7 := fun a b => Nat.le_trans (ext_size s a b) (Nat.le_max_left _ _)
  have hc : ∀ kind last e : Int, (closedS s kind last e).2.1.size ≤ max s.size 7 := by
    intro kind last e
    unfold closedS clR
    split
    · exact hx _ _
    split
    · exact h0
    · exact h0
  have hm : ∀ kind e : Int, (markedS s kind e).2.1.size ≤ max s.size 7 := by
    intro kind e
    unfold markedS
    split
    · exact h0
    split
    · exact hx _ _
    · exact h0
  unfold tokS
  split
  · exact hc _ _ _
  split
  · exact hm _ _
  split
  · exact hm _ _
  split
  · exact hm _ _
  split
  · exact hc _ _ _
  unfold singleS
  split
  · exact hx _ _
  unfold otherS
  split
  · exact hx _ _
  unfold wordS
  split
  · exact Nat.le_trans (show 5 ≤ 7 by decide) (Nat.le_max_right _ _)
  split
  · exact Nat.le_trans (show 3 ≤ 7 by decide) (Nat.le_max_right _ _)
  split
  · exact Nat.le_trans (show 7 ≤ 7 by decide) (Nat.le_max_right _ _)
  split
  · exact Nat.le_trans (show 1 ≤ 7 by decide) (Nat.le_max_right _ _)
  unfold plainS
  split
  · split
    · exact h0
    · exact hx _ _
  · exact h0
theorem allF_small : ∀ (f : Nat) (l : List UInt8) (p : Nat), l.length ≤ 900 → Small (allF f l p).1
  | 0, l, p, _ => fun x hx => by cases hx
  | f + 1, [], p, _ => fun x hx => by cases hx
  | f + 1, b :: l, p, h => by
    have ht := tok_text (ba (b :: l))
    have hz : (ba (b :: l)).size = (b :: l).length := by rw [PL.size_list, ba_list]
    have hd : ((b :: l).drop (tokS (ba (b :: l))).2.2.2.2.1.toNat).length ≤ (b :: l).length := by rw [List.length_drop]; omega
    have ih := allF_small f ((b :: l).drop (tokS (ba (b :: l))).2.2.2.2.1.toNat) (p + (tokS (ba (b :: l))).2.2.2.2.1.toNat) (by omega)
    rw [allF]
    split
    · split
      · intro x hx
        rcases List.mem_cons.1 hx with rfl | hx
        · show (tokS (ba (b :: l))).2.1.size ≤ 900
          omega
        · exact ih x hx
      · exact ih
    · intro x hx
      cases hx
theorem all_small (s : ByteArray) (h : s.size ≤ 900) : Small (allS s).1 ∧ (allS s).1.length ≤ 900 := by
  unfold allS
  rw [if_neg (by omega)]
  refine ⟨allF_small _ _ _ (by rw [← PL.size_list]; exact h), ?_⟩
  by_cases z : (allF s.size s.data.toList 0).2.2 = 0
  · have := (allF_ok _ _ 0 (by rw [← PL.size_list]; exact Nat.le_refl _) z).2
    rw [← PL.size_list] at this
    omega
  · rw [allF_bad _ _ _ z]
    exact Nat.zero_le _
def lastP (acc : List S112) : S112 := rd_T112 acc ((acc.length : Int) - 1)
def pts : List S112 → List S53 → List S112 × Int
  | acc, [] => (acc, -1)
  | acc, t :: r => if t.f0 = 11 then (if acc.length = 4 then (acc, t.f3) else pts (acc ++ [⟨[], wrap64 (t.f3 + 1)⟩]) r) else pts (acc.set (acc.length - 1) ⟨(lastP acc).f0 ++ [t], (lastP acc).f1⟩) r
def Fine (n : Nat) (acc : List S112) : Prop := 1 ≤ acc.length ∧ acc.length ≤ 4 ∧ ∀ p ∈ acc, p.f0.length ≤ n ∧ Small p.f0
theorem last_mem (acc : List S112) (h : 1 ≤ acc.length) : lastP acc ∈ acc := by
  unfold lastP rd_T112
  have e : ((acc.length : Int) - 1).toNat = acc.length - 1 := by omega
  rw [e, List.getD_eq_getElem?_getD, List.getElem?_eq_getElem (by omega)]
  exact List.getElem_mem _
theorem fine_push {n : Nat} {acc : List S112} (h : Fine n acc) (h4 : acc.length ≠ 4) (q : Int) : Fine n (acc ++ [⟨[], q⟩]) := by
  refine ⟨by rw [List.length_append, List.length_cons, List.length_nil]; omega, by have := h.2.1; rw [List.length_append, List.length_cons, List.length_nil]; omega, fun p hp => ?_⟩
  rcases List.mem_append.1 hp with hp | hp
  · exact h.2.2 p hp
  · rw [List.mem_singleton.1 hp]
    exact ⟨Nat.zero_le _, fun x hx => by cases hx⟩
theorem fine_put {n : Nat} {acc : List S112} (h : Fine n acc) (t : S53) (ht : t.f1.size ≤ 900) : Fine (n + 1) (acc.set (acc.length - 1) ⟨(lastP acc).f0 ++ [t], (lastP acc).f1⟩) := by
  have hl := h.2.2 _ (last_mem acc h.1)
  refine ⟨by rw [List.length_set]; exact h.1, by rw [List.length_set]; exact h.2.1, fun p hp => ?_⟩
  rcases List.mem_or_eq_of_mem_set hp with hp | hp
  · have := h.2.2 p hp
    exact ⟨by omega, this.2⟩
  · rw [hp]
    refine ⟨by show ((lastP acc).f0 ++ [t]).length ≤ n + 1; rw [List.length_append, List.length_cons, List.length_nil]; omega, fun x hx => ?_⟩
    have hx : x ∈ (lastP acc).f0 ++ [t] := hx
    rcases List.mem_append.1 hx with hx | hx
    · exact hl.2 x hx
    · rw [List.mem_singleton.1 hx]
      exact ht
theorem parts_loop (l : List S53) (hl : l.length ≤ 900) (hs : Small l) : ∀ (d i k n : Nat) (acc : List S112), i + d = l.length → d + 1 ≤ k → Fine n acc → n + d ≤ 900 →
    parse_parts.l0 k acc l (l.length : Int) (i : Int) = some (pts acc (l.drop i)) ∧ Fine 900 (pts acc (l.drop i)).1
  | 0, i, k, n, acc, hi, hk, hf, hn => by
    obtain ⟨k, rfl⟩ : ∃ j, k = j + 1 := ⟨k - 1, by omega⟩
    rw [parse_parts.l0, if_neg (by omega), List.drop_of_length_le (by omega)]
    exact ⟨rfl, hf.1, hf.2.1, fun p hp => ⟨by have := (hf.2.2 p hp).1; omega, (hf.2.2 p hp).2⟩⟩
  | d + 1, i, k, n, acc, hi, hk, hf, hn => by
    obtain ⟨k, rfl⟩ : ∃ j, k = j + 1 := ⟨k - 1, by omega⟩
    have h : i < l.length := by omega
    have er : rd_T53 l (i : Int) = l[i] := by
      unfold rd_T53
      rw [Int.toNat_natCast, List.getD_eq_getElem?_getD, List.getElem?_eq_getElem h]
      rfl
    have e1 : wrap64 ((i : Int) + 1) = ((i + 1 : Nat) : Int) := by unfold wrap64; omega
    have e2 : wrap64 ((acc.length : Int) - 1) = (acc.length : Int) - 1 := by have := hf.2.1; unfold wrap64; omega
    have h1 := hf.1
    have h4 := hf.2.1
    have hl2 := hf.2.2 _ (last_mem acc hf.1)
    rw [parse_parts.l0, if_pos (by omega), if_pos (by omega), if_pos (by omega), er, e1, e2, List.drop_eq_getElem_cons h, pts]
    by_cases c : (l[i]).f0 = 11
    · rw [if_pos c, if_pos c]
      by_cases c4 : acc.length = 4
      · rw [if_pos (by omega), if_pos c4]
        exact ⟨rfl, hf.1, hf.2.1, fun p hp => ⟨by have := (hf.2.2 p hp).1; omega, (hf.2.2 p hp).2⟩⟩
      · rw [if_neg (by omega), if_neg c4, if_pos (by omega)]
        exact parts_loop l hl hs d (i + 1) k n _ (by omega) (by omega) (fine_push hf c4 _) (by omega)
    · have e3 : ((acc.length : Int) - 1).toNat = acc.length - 1 := by omega
      rw [if_neg c, if_neg c, if_pos (by omega), if_pos (by omega), if_pos (by show (lastP acc).f0.length < _; omega), e3]
      exact parts_loop l hl hs d (i + 1) k (n + 1) _ (by omega) (by omega) (fine_put hf _ (hs _ (List.getElem_mem _))) (by omega)
def parts0 : List S112 := [⟨[], 0⟩]
theorem fine0 : Fine 0 parts0 := ⟨Nat.le_refl _, by decide, fun p hp => by rw [List.mem_singleton.1 hp]; exact ⟨Nat.zero_le _, fun x hx => by cases hx⟩⟩
theorem parts_f (l : List S53) (hl : l.length ≤ 900) (hs : Small l) (k : Nat) (hk : 1000 ≤ k) : parse_parts.f k l = some (pts parts0 l) ∧ Fine 900 (pts parts0 l).1 := by
  have h := parts_loop l hl hs l.length 0 k 0 parts0 (by omega) (by omega) fine0 (by omega)
  rw [List.drop_zero] at h
  exact h
def anySort (x : Int) : Bool := decide (x = 1) || decide (x = 6) || decide (x = 7)
theorem sort_f (x : Int) (k : Nat) : item_Sort_67.f (k + 4) [1, 6, 7] x = some (anySort x) := by
  have w1 : wrap64 (0 + 1) = 1 := by unfold wrap64; omega
  have w2 : wrap64 (1 + 1) = 2 := by unfold wrap64; omega
  have w3 : wrap64 (2 + 1) = 3 := by unfold wrap64; omega
  have r0 : rd [1, 6, 7] 0 = 1 := rfl
  have r1 : rd [1, 6, 7] 1 = 6 := rfl
  have r2 : rd [1, 6, 7] 2 = 7 := rfl
  unfold item_Sort_67.f item_Sort_92.f anySort
  show (item_Sort_92.l0 (k + 4) [1, 6, 7] x 3 0).bind _ = _
  rw [item_Sort_92.l0, if_pos (by decide), if_pos (by decide), if_pos (by decide), r0, w1]
  by_cases c1 : x = 1
  · rw [if_pos c1, decide_eq_true c1]; rfl
  rw [if_neg c1, decide_eq_false c1, item_Sort_92.l0, if_pos (by decide), if_pos (by decide), if_pos (by decide), r1, w2]
  by_cases c2 : x = 6
  · rw [if_pos c2, decide_eq_true c2]; rfl
  rw [if_neg c2, decide_eq_false c2, item_Sort_92.l0, if_pos (by decide), if_pos (by decide), if_pos (by decide), r2, w3]
  by_cases c3 : x = 7
  · rw [if_pos c3, decide_eq_true c3]; rfl
  rw [if_neg c3, decide_eq_false c3, item_Sort_92.l0, if_neg (by decide)]
  rfl
def mayS (sort op : Int) (n : Nat) : Bool := if 2 ≤ n ∧ op ≠ 0 then false else decide (n < 3) || anySort sort
theorem may_f (k : Nat) (a b c : Int) (d : Bool) (e f : ByteArray) (l : List S55) (n : Nat) : parse_may.f (k + 4) a b c d e f l (n : Int) = some (mayS a c n) := by
  unfold parse_may.f mayS
  rw [sort_f, Option.bind_some]
  by_cases h2 : 2 ≤ n
  · rw [if_pos (by omega)]
    by_cases hc : c = 0
    · rw [if_pos hc, if_neg (show ¬ (2 ≤ n ∧ c ≠ 0) from fun h => h.2 hc)]
      by_cases h3 : n < 3
      · rw [if_pos (by omega), decide_eq_true h3]; rfl
      · rw [if_neg (by omega), decide_eq_false h3]; rfl
    · rw [if_neg hc, if_pos ⟨h2, hc⟩]
  · rw [if_neg (by omega), if_pos (by omega), if_neg (fun h => h2 h.1), decide_eq_true (by omega)]
    rfl
def secOf (o : OfR) : S33 := ⟨o.1, o.2.1, ⟨o.2.2.1, o.2.2.2.1, o.2.2.2.2.1, o.2.2.2.2.2.1⟩, o.2.2.2.2.2.2.1⟩
def secL (over sz : Int) : List S112 → Nat → List S33 → List S33 × Int × Int
  | [], _, acc => if over ≥ 0 then ([], over, 12) else (acc, sz, 0)
  | p :: r, n, acc => if (ofS p.f0).2.2.2.2.2.2.2.2 = 0 then (if mayS (ofS p.f0).1 (ofS p.f0).2.2.1 n = true then secL over sz r (n + 1) (acc ++ [secOf (ofS p.f0)]) else ([], p.f1, 12)) else ([], (rd_T53 p.f0 (ofS p.f0).2.2.2.2.2.2.2.1).f3, (ofS p.f0).2.2.2.2.2.2.2.2)
def parseS (s : ByteArray) : List S33 × Int × Int :=
  if (allS s).2.2 = 0 then secL (pts parts0 (allS s).1).2 s.size (pts parts0 (allS s).1).1 0 [] else ([], (allS s).2.1, (allS s).2.2)
def joinR (ts : List S53) (r : List S53 × Int × Int) : List S53 × Int × Int := if r.2.2 = 0 then (ts ++ r.1, r.2.1, 0) else r
theorem joinR_nil (r : List S53 × Int × Int) : joinR [] r = r := by
  unfold joinR
  split
  · rename_i h
    obtain ⟨a, b, c⟩ := r
    simp only [] at h
    rw [h]
    rfl
  · rfl
theorem allF_step (f : Nat) (b : UInt8) (l : List UInt8) (p : Nat) (h : (tokS (ba (b :: l))).2.2.2.2.2.2 = 0) : allF (f + 1) (b :: l) p = joinR [tokAt (tokS (ba (b :: l))) p] (allF f ((b :: l).drop (tokS (ba (b :: l))).2.2.2.2.1.toNat) (p + (tokS (ba (b :: l))).2.2.2.2.1.toNat)) := by
  rw [allF, if_pos h]
  unfold joinR
  split <;> rfl
theorem tok_n (b : UInt8) (l : List UInt8) (h : (tokS (ba (b :: l))).2.2.2.2.2.2 = 0) : 1 ≤ (tokS (ba (b :: l))).2.2.2.2.1.toNat ∧ (tokS (ba (b :: l))).2.2.2.2.1.toNat ≤ (b :: l).length := by
  have hz := ba_size (b :: l)
  have := (tok_fits (ba (b :: l)) (by rw [hz, List.length_cons]; omega)).1 h
  omega
theorem allF_fuel : ∀ (f g : Nat) (l : List UInt8) (p : Nat), l.length ≤ f → l.length ≤ g → allF f l p = allF g l p
  | f, g, [], p, _, _ => by cases f <;> cases g <;> rfl
  | f, g, b :: l, p, hf, hg => by
    obtain ⟨f, rfl⟩ : ∃ j, f = j + 1 := ⟨f - 1, by simp only [List.length_cons] at hf; omega⟩
    obtain ⟨g, rfl⟩ : ∃ j, g = j + 1 := ⟨g - 1, by simp only [List.length_cons] at hg; omega⟩
    by_cases h : (tokS (ba (b :: l))).2.2.2.2.2.2 = 0
    · have hn := tok_n b l h
      rw [allF_step f b l p h, allF_step g b l p h]
      rw [allF_fuel f g _ _ (by rw [List.length_drop]; simp only [List.length_cons] at *; omega) (by rw [List.length_drop]; simp only [List.length_cons] at *; omega)]
    · rw [allF, allF, if_neg h, if_neg h]
theorem allF_app (c : UInt8) (hc : c.toNat = 59) (x : List UInt8) : ∀ (f : Nat) (l : List UInt8) (p F G : Nat), l.length ≤ f → (l ++ c :: x).length ≤ F → (c :: x).length ≤ G → (allF f l p).2.2 = 0 →
    allF F (l ++ c :: x) p = joinR (allF f l p).1 (allF G (c :: x) (p + l.length))
  | f, [], p, F, G, hf, hF, hG, h => by
    have e : (allF f [] p).1 = [] := by cases f <;> rfl
    rw [e, joinR_nil]
    exact allF_fuel F G (c :: x) p hF hG
  | 0, b :: l, p, F, G, hf, _, _, _ => by simp at hf
  | f + 1, b :: l, p, F, G, hf, hF, hG, h => by
    obtain ⟨F, rfl⟩ : ∃ j, F = j + 1 := ⟨F - 1, by simp only [List.length_append, List.length_cons] at hF; omega⟩
    by_cases e : (tokS (ba (b :: l))).2.2.2.2.2.2 = 0
    · have hn := tok_n b l e
      have ht := tok_app (b :: l) x c hc (by simp) e
      rw [List.cons_append] at ht
      rw [allF_step f b l p e] at h ⊢
      have hd : (b :: (l ++ c :: x)).drop (tokS (ba (b :: l))).2.2.2.2.1.toNat = (b :: l).drop (tokS (ba (b :: l))).2.2.2.2.1.toNat ++ c :: x := by
        rw [← List.cons_append, List.drop_append_of_le_length hn.2]
      rw [List.cons_append, allF_step F b (l ++ c :: x) p (by rw [ht]; exact e), ht, hd]
      have hl : ((b :: l).drop (tokS (ba (b :: l))).2.2.2.2.1.toNat).length = (b :: l).length - (tokS (ba (b :: l))).2.2.2.2.1.toNat := List.length_drop
      have h2 : (allF f ((b :: l).drop (tokS (ba (b :: l))).2.2.2.2.1.toNat) (p + (tokS (ba (b :: l))).2.2.2.2.1.toNat)).2.2 = 0 := by
        unfold joinR at h
        split at h
        · assumption
        · assumption
      rw [allF_app c hc x f _ _ F G (by omega) (by rw [List.length_append, hl]; simp only [List.length_append, List.length_cons] at *; omega) hG h2, hl]
      unfold joinR at *
      rw [if_pos h2]
      rw [show p + (tokS (ba (b :: l))).2.2.2.2.1.toNat + ((b :: l).length - (tokS (ba (b :: l))).2.2.2.2.1.toNat) = p + (b :: l).length by omega]
      by_cases z : (allF G (c :: x) (p + (b :: l).length)).2.2 = 0
      · rw [if_pos z, if_pos rfl, if_pos z, List.append_assoc]
      · rw [if_neg z, if_neg z, if_neg z]
    · rw [allF, if_neg e] at h
      exact absurd h e
def semi (p : Nat) : S53 := ⟨11, ⟨#[59]⟩, 1, (p : Int)⟩
theorem tok_semi (c : UInt8) (hc : c.toNat = 59) (x : List UInt8) : tokS (ba (c :: x)) = (11, ⟨#[59]⟩, 1, 0, 1, 0, 0) := by
  have e0 : bt (ba (c :: x)) 0 = 59 := by
    have := bt_eq (ba (c :: x)) 0 c (by rw [ba_list]; rfl)
    rw [hc] at this
    exact this
  have ec : c = 59 := UInt8.toNat_inj.1 (by rw [hc]; rfl)
  unfold tokS singleS
  rw [e0]
  show (11, (ba (c :: x)).extract 0 1, (1 : Int), (0 : Int), (1 : Int), (0 : Int), (0 : Int)) = _
  rw [show (ba (c :: x)).extract 0 1 = ⟨#[59]⟩ from ba_ext (by rw [extract_list, ba_list, ec]; rfl)]
theorem allF_semi (c : UInt8) (hc : c.toNat = 59) (x : List UInt8) (G p : Nat) : allF (G + 1) (c :: x) p = joinR [semi p] (allF G x (p + 1)) := by
  have ht := tok_semi c hc x
  rw [allF_step G c x p (by rw [ht]), ht]
  rfl
theorem allF_pos : ∀ (f : Nat) (l : List UInt8) (p : Nat), ∀ t ∈ (allF f l p).1, 0 ≤ t.f3
  | 0, l, p => fun t ht => by cases ht
  | f + 1, [], p => fun t ht => by cases ht
  | f + 1, b :: l, p => by
    intro t ht
    rw [allF] at ht
    split at ht
    · split at ht
      · rcases List.mem_cons.1 ht with rfl | ht
        · show (0 : Int) ≤ (p : Int); omega
        · exact allF_pos f _ _ t ht
      · exact allF_pos f _ _ t ht
    · cases ht
theorem pts_app (r : List S53) : ∀ (l : List S53) (acc : List S112), (∀ t ∈ l, 0 ≤ t.f3) → (pts acc l).2 < 0 → pts acc (l ++ r) = pts (pts acc l).1 r
  | [], acc, _, _ => rfl
  | t :: l, acc, h0, h => by
    rw [List.cons_append, pts]
    rw [pts] at h ⊢
    by_cases c : t.f0 = 11
    · rw [if_pos c] at h ⊢
      rw [if_pos c]
      by_cases c4 : acc.length = 4
      · rw [if_pos c4] at h
        have := h0 t (by simp)
        exact absurd h (by show ¬ t.f3 < 0; omega)
      · rw [if_neg c4] at h ⊢
        rw [if_neg c4]
        exact pts_app r l _ (fun x hx => h0 x (by simp [hx])) h
    · rw [if_neg c] at h ⊢
      rw [if_neg c]
      exact pts_app r l _ (fun x hx => h0 x (by simp [hx])) h
theorem pts_semi (acc : List S112) (p : Nat) : pts acc [semi p] = if acc.length = 4 then (acc, (p : Int)) else (acc ++ [⟨[], wrap64 ((p : Int) + 1)⟩], -1) := by
  rw [pts, if_pos (show (semi p).f0 = 11 from rfl)]
  rfl
theorem secL_ok (over sz : Int) : ∀ (P : List S112) (n : Nat) (acc : List S33), (secL over sz P n acc).2.2 = 0 →
    over < 0 ∧ (secL over sz P n acc).1.length = acc.length + P.length ∧ (∀ (over' sz' : Int) (Q : List S112), secL over' sz' (P ++ Q) n acc = secL over' sz' Q (n + P.length) (secL over sz P n acc).1) ∧ (secL over sz P n acc).1 = acc ++ P.map fun p => secOf (ofS p.f0)
  | [], n, acc, h => by
    rw [secL] at h ⊢
    by_cases c : over ≥ 0
    · rw [if_pos c] at h
      exact absurd h (show ¬ (12 : Int) = 0 by decide)
    · rw [if_neg c]
      exact ⟨by omega, rfl, fun _ _ Q => rfl, by simp⟩
  | p :: P, n, acc, h => by
    rw [secL] at h ⊢
    by_cases c : (ofS p.f0).2.2.2.2.2.2.2.2 = 0
    · rw [if_pos c] at h ⊢
      by_cases m : mayS (ofS p.f0).1 (ofS p.f0).2.2.1 n = true
      · rw [if_pos m] at h ⊢
        obtain ⟨h1, h2, h3, h4⟩ := secL_ok over sz P (n + 1) _ h
        refine ⟨h1, ?_, fun over' sz' Q => ?_, ?_⟩
        · rw [h2, List.length_append, List.length_cons, List.length_cons, List.length_nil]; omega
        · rw [List.cons_append, secL, if_pos c, if_pos m, h3 over' sz' Q, List.length_cons, show n + 1 + P.length = n + (P.length + 1) by omega]
        · rw [h4, List.map_cons, List.append_assoc]; rfl
      · rw [if_neg m] at h
        exact absurd h (show ¬ (12 : Int) = 0 by decide)
    · rw [if_neg c] at h
      exact absurd h c
theorem of_nil : ofS [] = (1, 0, 0, false, ⟨#[]⟩, ⟨#[]⟩, [], 0, 0) := by
  unfold ofS
  rw [show item_Of.f KK [] = some (1, 0, 0, false, ⟨#[]⟩, ⟨#[]⟩, [], 0, 0) from at_rounds (item_Of.mono []) (show 5 ≤ KK by decide) rfl]
  rfl
theorem item_loop (l : List S55) (hl : l.length ≤ 2000) : ∀ (d i k : Nat), i + d = l.length → d + 1 ≤ k → item_Item.l0 k l l (l.length : Int) (i : Int) = some true
  | 0, i, k, hi, hk => by
    obtain ⟨k, rfl⟩ : ∃ j, k = j + 1 := ⟨k - 1, by omega⟩
    rw [item_Item.l0, if_neg (by omega)]
  | d + 1, i, k, hi, hk => by
    obtain ⟨k, rfl⟩ : ∃ j, k = j + 1 := ⟨k - 1, by omega⟩
    have e1 : wrap64 ((i : Int) + 1) = ((i + 1 : Nat) : Int) := by unfold wrap64; omega
    rw [item_Item.l0, if_pos (by omega), if_pos (by omega), if_pos (by omega), if_pos (by omega), e1, if_neg (by simp)]
    exact item_loop l hl d (i + 1) k (by omega) (by omega)
theorem sec_refl (k : Nat) (x : S33) (hl : x.f3.length ≤ 2000) (hk : 3000 ≤ k) : item_Section_Equal.f k x.f0 x.f1 x.f2.f0 x.f2.f1 x.f2.f2 x.f2.f3 x.f3 x.f0 x.f1 x.f2.f0 x.f2.f1 x.f2.f2 x.f2.f3 x.f3 = some true := by
  unfold item_Section_Equal.f item_Item.f
  have h := item_loop x.f3 hl x.f3.length 0 k (by omega) (by omega)
  rw [show ((0 : Nat) : Int) = 0 from rfl] at h
  rw [if_pos rfl, if_pos rfl, if_pos (by simp), if_pos rfl, h]
  rfl
theorem sec_loop (s : ByteArray) (hz : s.size ≤ 900) (over : Int) (P : List S112) (hP : Fine 900 P) : ∀ (d i k : Nat) (acc : List S33), i + d = P.length → d + KK + 10 ≤ k → acc.length ≤ i →
    parse_Parse.l0 k s over P (P.length : Int) (i : Int) acc = some (secL over s.size (P.drop i) i acc)
  | 0, i, k, acc, hi, hk, ha => by
    obtain ⟨k, rfl⟩ : ∃ j, k = j + 1 := ⟨k - 1, by omega⟩
    rw [parse_Parse.l0, if_neg (by omega), List.drop_of_length_le (by omega), secL]
    split <;> rfl
  | d + 1, i, k, acc, hi, hk, ha => by
    obtain ⟨k, rfl⟩ : ∃ j, k = j + 5 := ⟨k - 5, by omega⟩
    have h : i < P.length := by omega
    have h4 := hP.2.1
    have er : rd_T112 P (i : Int) = P[i] := by
      unfold rd_T112
      rw [Int.toNat_natCast, List.getD_eq_getElem?_getD, List.getElem?_eq_getElem h]
      rfl
    have hp := hP.2.2 P[i] (List.getElem_mem _)
    have e1 : wrap64 ((i : Int) + 1) = ((i + 1 : Nat) : Int) := by unfold wrap64; omega
    have ho := of_pos (P[i]).f0 hp.2 hp.1
    rw [parse_Parse.l0, if_pos (by omega), if_pos (by omega), if_pos (by omega), er, e1, of_f _ hp.2 hp.1 (k + 4) (by omega), Option.bind_some, List.drop_eq_getElem_cons h, secL]
    by_cases c : (ofS (P[i]).f0).2.2.2.2.2.2.2.2 = 0
    · rw [if_pos c, if_pos c, may_f, Option.bind_some]
      by_cases m : mayS (ofS (P[i]).f0).1 (ofS (P[i]).f0).2.2.1 i = true
      · rw [if_pos m, if_pos m, if_pos (by omega)]
        exact sec_loop s hz over P hP d (i + 1) (k + 4) _ (by omega) (by omega) (by rw [List.length_append, List.length_cons, List.length_nil]; omega)
      · rw [if_neg m, if_neg m]
    · have := ho c
      rw [if_neg c, if_neg c, if_pos this.1, if_pos this.2]
theorem parse_f (s : ByteArray) (hz : s.size ≤ 900) (k : Nat) (hk : 20000 ≤ k) : parse_Parse.f k s = some (parseS s) := by
  have ha := all_small s hz
  obtain ⟨hp, hf⟩ := parts_f (allS s).1 ha.2 ha.1 k (by omega)
  unfold parse_Parse.f parseS
  rw [progAll s k (by omega), Option.bind_some]
  by_cases c : (allS s).2.2 = 0
  · rw [if_pos c, if_pos c, hp, Option.bind_some]
    have h := sec_loop s hz (pts parts0 (allS s).1).2 (pts parts0 (allS s).1).1 hf (pts parts0 (allS s).1).1.length 0 k [] (by omega) (by have := hf.2.1; unfold KK; omega) (Nat.zero_le _)
    rw [List.drop_zero] at h
    exact h
  · rw [if_neg c, if_neg c]
end Go.Proofs.YtiidpicgdjjikaaGreatDoor.PP
namespace Go.Proofs.YtiidpicgdjjikaaGreatDoor.Pure
open Go.RowKit Go.Proofs.YtiidpicgdjjikaaGreatDoor.P Go.Proofs.YtiidpicgdjjikaaGreatDoor.G Go.Proofs.YtiidpicgdjjikaaGreatDoor.PL Go.Proofs.YtiidpicgdjjikaaGreatDoor.PR Go.Proofs.YtiidpicgdjjikaaGreatDoor.PT Go.Proofs.YtiidpicgdjjikaaGreatDoor.PI Go.Proofs.YtiidpicgdjjikaaGreatDoor.PP Go.Proofs.YtiidpicgdjjikaaGreatDoorW.PrintWords Go.Proofs.YtiidpicgdjjikaaGreatDoorW.PrintLast Go.Proofs.YtiidpicgdjjikaaGreatDoorW.PrintMore
set_option linter.unusedVariables false
set_option linter.unusedSimpArgs false
theorem wakes15 : numerarylaw15_wakes.f 300 = some true := by decide +kernel
def sec0 : S33 := ⟨1, 0, ⟨0, false, ⟨#[]⟩, ⟨#[]⟩⟩, []⟩
theorem join_facts (s s2 : ByteArray) (hz : s.size ≤ 800) (h2 : s2.data.toList = s.data.toList ++ [59]) (h : (parseS s).2.2 = 0) :
    (parseS s).1.length ≤ 4 ∧ (∀ x ∈ (parseS s).1, x.f3.length ≤ 1000) ∧ ((parseS s).1.length = 4 → parseS s2 = ([], (s.size : Int), 12)) ∧ ((parseS s).1.length ≠ 4 → parseS s2 = ((parseS s).1 ++ [sec0], (s2.size : Int), 0)) := by
  have hs2 : s2.size = s.size + 1 := by rw [PL.size_list, h2, List.length_append, ← PL.size_list]; rfl
  have hall := all_small s (by omega)
  obtain ⟨_, hf⟩ := parts_f (allS s).1 hall.2 hall.1 1000 (Nat.le_refl _)
  by_cases c : (allS s).2.2 = 0
  · have e0 : parseS s = secL (pts parts0 (allS s).1).2 s.size (pts parts0 (allS s).1).1 0 [] := by unfold parseS; rw [if_pos c]
    have ea : allS s = allF s.size s.data.toList 0 := by unfold allS; rw [if_neg (by omega)]
    have ea2 : allS s2 = ((allS s).1 ++ [semi s.size], ((s.size + 1 : Nat) : Int), 0) := by
      unfold allS
      rw [if_neg (by omega), if_neg (by omega), h2]
      rw [ea] at c
      have hl : s.data.toList.length = s.size := (PL.size_list s).symm
      rw [allF_app 59 rfl [] s.size s.data.toList 0 s2.size 1 (by omega) (by rw [List.length_append, hl, List.length_cons, List.length_nil]; omega) (Nat.le_refl _) c, allF_semi 59 rfl [] 0 _, hl, Nat.zero_add]
      rfl
    rw [e0] at h ⊢
    have hpos : ∀ t ∈ (allS s).1, 0 ≤ t.f3 := by rw [ea]; exact allF_pos _ _ _
    generalize hP : pts parts0 (allS s).1 = PP at h hf ⊢
    obtain ⟨h1, hlen, happ, hmap⟩ := secL_ok PP.2 s.size PP.1 0 [] h
    have hneg : (pts parts0 (allS s).1).2 < 0 := by rw [hP]; exact h1
    have ep := pts_app [semi s.size] (allS s).1 parts0 hpos hneg
    rw [hP, pts_semi] at ep
    rw [List.length_nil, Nat.zero_add] at hlen
    have e2 : parseS s2 = secL (pts parts0 ((allS s).1 ++ [semi s.size])).2 s2.size (pts parts0 ((allS s).1 ++ [semi s.size])).1 0 [] := by unfold parseS; rw [ea2, if_pos rfl]
    refine ⟨by rw [hlen]; exact hf.2.1, ?_, fun h4 => ?_, fun h4 => ?_⟩
    · intro x hx
      rw [hmap, List.nil_append] at hx
      obtain ⟨p, hp, rfl⟩ := List.mem_map.1 hx
      have := hf.2.2 p hp
      exact of_len p.f0 this.2 this.1
    · rw [hlen] at h4
      rw [if_pos h4] at ep
      rw [e2, ep]
      have := happ (s.size : Int) (s2.size : Int) []
      rw [List.append_nil] at this
      show secL (s.size : Int) (s2.size : Int) PP.1 0 [] = _
      rw [this, secL, if_pos (by omega)]
    · rw [hlen] at h4
      rw [if_neg h4] at ep
      rw [e2, ep]
      have := happ (-1) (s2.size : Int) [⟨[], wrap64 ((s.size : Int) + 1)⟩]
      show secL (-1) (s2.size : Int) (PP.1 ++ [⟨[], wrap64 ((s.size : Int) + 1)⟩]) 0 [] = _
      have h5 := hf.2.1
      rw [this, secL, of_nil, if_pos rfl, if_pos (by
        show mayS 1 0 (0 + PP.1.length) = true
        unfold mayS
        rw [if_neg (fun d => d.2 rfl)]
        show (_ || anySort 1) = true
        rw [show anySort 1 = true from rfl, Bool.or_true]), secL, if_neg (by decide)]
      rfl
  · have e0 : parseS s = ([], (allS s).2.1, (allS s).2.2) := by unfold parseS; rw [if_neg c]
    rw [e0] at h
    exact absurd h c
theorem rd33 (A : List S33) (i : Nat) (h : i < A.length) : rd_T33 A (i : Int) = A[i] := by
  unfold rd_T33
  rw [Int.toNat_natCast, List.getD_eq_getElem?_getD, List.getElem?_eq_getElem h]
  rfl
theorem joins_loop (A : List S33) (hA : A.length ≤ 4) (hi : ∀ x ∈ A, x.f3.length ≤ 1000) : ∀ (d i k : Nat), i + d = A.length → d + 4000 ≤ k →
    numerarylaw15_ParseJoins.l0 k (A.length : Int) (i : Int) A (A ++ [sec0]) = some true
  | 0, i, k, h, hk => by
    obtain ⟨k, rfl⟩ : ∃ j, k = j + 1 := ⟨k - 1, by omega⟩
    have e : rd_T33 (A ++ [sec0]) (A.length : Int) = sec0 := by
      rw [rd33 _ _ (by rw [List.length_append, List.length_cons, List.length_nil]; omega), List.getElem_append_right (Nat.le_refl _)]
      simp
    rw [numerarylaw15_ParseJoins.l0, if_neg (by omega), if_pos (by omega), if_pos (by rw [List.length_append, List.length_cons, List.length_nil]; omega), e, if_pos (show sec0.f0 = 1 from rfl), if_pos (show (sec0.f3.length : Int) = 0 from rfl)]
    rfl
  | d + 1, i, k, h, hk => by
    obtain ⟨k, rfl⟩ : ∃ j, k = j + 1 := ⟨k - 1, by omega⟩
    have hl : i < A.length := by omega
    have e1 : wrap64 ((i : Int) + 1) = ((i + 1 : Nat) : Int) := by unfold wrap64; omega
    have hlen : (A ++ [sec0]).length = A.length + 1 := by rw [List.length_append]; rfl
    have ea := rd33 A i hl
    have eb : rd_T33 (A ++ [sec0]) (i : Int) = A[i] := by rw [rd33 _ _ (by omega), List.getElem_append_left hl]
    rw [numerarylaw15_ParseJoins.l0, if_pos (by omega), if_pos (by omega), if_pos (by omega), if_pos (by omega), ea, eb, e1, sec_refl k A[i] (by have := hi A[i] (List.getElem_mem _); omega) (by omega), Option.bind_some, if_pos rfl]
    exact joins_loop A hA hi d (i + 1) k (by omega) (by omega)
theorem ParseJoins : numerarylaw15_ParseJoins.Pure := by
  intro a0 h0
  refine ⟨30000, ?_⟩
  have hm : mn (a0.size : Int) 200 = ((min a0.size 200 : Nat) : Int) := by unfold mn; split <;> omega
  have hw := at_rounds numerarylaw15_wakes.mono (show 300 ≤ 30000 by decide) wakes15
  unfold numerarylaw15_ParseJoins.f
  rw [hm, if_pos (by omega), if_pos (by omega), Int.toNat_natCast]
  have hs : (a0.extract 0 (min a0.size 200)).size ≤ 200 := by rw [ByteArray.size_extract]; omega
  generalize a0.extract 0 (min a0.size 200) = s at hs ⊢
  have h2 : (s ++ (⟨#[59]⟩ : ByteArray)).data.toList = s.data.toList ++ [59] := app_data s _
  have hs2 : (s ++ (⟨#[59]⟩ : ByteArray)).size = s.size + 1 := by rw [PL.size_list, h2, List.length_append, ← PL.size_list]; rfl
  rw [parse_f s (by omega) _ (by decide), Option.bind_some, if_pos (by omega), parse_f _ (by omega) _ (by decide), Option.bind_some, hw]
  by_cases c : (parseS s).2.2 = 0
  · obtain ⟨h4, hi, hA, hB⟩ := join_facts s _ (by omega) h2 c
    rw [if_pos c]
    by_cases e : (parseS s).1.length = 4
    · rw [if_pos (by omega), Option.bind_some, if_pos rfl, hA e, if_pos rfl]
      simp
    · have ln : ((parseS s).1 ++ [sec0]).length = (parseS s).1.length + 1 := by rw [List.length_append]; rfl
      rw [if_neg (by omega), Option.bind_some, if_pos rfl, hB e, if_pos rfl]
      have e1 : wrap64 (((parseS s).1.length : Int) + 1) = (((parseS s).1.length + 1 : Nat) : Int) := by unfold wrap64; omega
      rw [show (30000 : Nat) = 29999 + 1 from rfl, numerarylaw15_ParseJoins.j0]
      show (if ((((parseS s).1 ++ [sec0]).length : Int) != wrap64 (((parseS s).1.length : Int) + 1)) = true then _ else _) = _
      rw [e1, ln, if_neg (by simp)]
      exact joins_loop (parseS s).1 h4 hi (parseS s).1.length 0 29999 (by omega) (by omega)
  · rw [if_neg c]
    rfl
end Go.Proofs.YtiidpicgdjjikaaGreatDoor.Pure
