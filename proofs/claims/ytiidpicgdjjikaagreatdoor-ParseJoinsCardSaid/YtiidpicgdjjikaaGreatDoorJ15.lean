import Derived.Deep.LoopGhost
import Derived.WalkKit
import Derived.IntWalk
import Derived.Lib.AtoiErrMem
import Derived.Lib.Strings
import Derived.Test.YtiidpicgdjjikaaGreatDoorJ4
namespace Go.Proofs.YtiidpicgdjjikaaGreatDoor.G
open Go.RowKit Go.Lib Go.Proofs Go.Proofs.YtiidpicgdjjikaaGreatDoorW.PrintWords Go.Proofs.YtiidpicgdjjikaaGreatDoorW.PrintLast Go.Proofs.YtiidpicgdjjikaaGreatDoorW.PrintMore
set_option linter.unusedVariables false
set_option linter.unusedSimpArgs false

def hexV (c : Int) : Option Int :=
  if 48 ≤ c ∧ c ≤ 57 then some (c - 48) else if 97 ≤ bits .or .u8 c 32 ∧ bits .or .u8 c 32 ≤ 102 then some (bits .or .u8 c 32 - 97 + 10) else none
def pu16 (n : Int) : List Int → Int × Int
  | [] => (0, n)
  | c :: l => match hexV c with
    | none => (2, 0)
    | some d => if 4294967295 < n * 16 + d then (1, 4294967295) else pu16 (n * 16 + d) l
def puE (c : Int) : Value := if c = 0 then .nilIface else .iface 245 (.int .i64 c)
theorem drop_bytes (s : ByteArray) (k : Nat) (h : k < s.size) : (bytesOf s).drop k = bt s k :: (bytesOf s).drop (k + 1) := by
  have h1 : k < (bytesOf s).length := by rw [bytesOf_length]; exact h
  have h2 := rd_bytesOf s k
  unfold rd at h2
  rw [Int.toNat_natCast] at h2
  rw [List.drop_eq_getElem_cons h1, ← h2]
  simp [List.getD_eq_getElem?_getD, List.getElem?_eq_getElem h1]
theorem or32_range (c : Int) (h0 : 0 ≤ c) (h1 : c ≤ 255) : 0 ≤ bits .or .u8 c 32 ∧ bits .or .u8 c 32 ≤ 255 := by
  obtain ⟨n, rfl⟩ := Int.eq_ofNat_of_zero_le h0
  have hn : n < 256 := by omega
  have : ∀ m : Fin 256, 0 ≤ bits .or .u8 (m.val : Int) 32 ∧ bits .or .u8 (m.val : Int) 32 ≤ 255 := by decide +kernel
  exact this ⟨n, hn⟩

set_option maxHeartbeats 8000000 in
set_option maxRecDepth 1000000 in
theorem parse16_walk (s : ByteArray) (w : World) (h0 : 0 < s.size) (hs : s.size ≤ 9223372036854775806) :
    Calls Tryz.prog 157 #[.string s, .int .i64 16, .int .i64 32] w fun e w' => e = .returned (.tuple #[.int .u64 (pu16 0 (bytesOf s)).2, puE (pu16 0 (bytesOf s)).1]) ∧ Below w.heap.size w w' := by
  have kb := fun W => print_bytes (P := Tryz.prog) 9 50 5 Tryz.underlying9 Tryz.underlying50 Tryz.underlying5 s W
  have c0 : ∀ j, j < s.size → (Lib.bytesWorld w 5 s).cell? ⟨w.heap.size, j, none⟩ = some (.int .u8 (bt s j)) := by
    intro j hj
    rw [Lib.bytesWorld_cell w 5 s j hj]
    have h2 := rd_bytesOf s j
    unfold rd at h2
    rw [Int.toNat_natCast] at h2
    rw [← h2]
    have h3 : j < s.data.toList.length := by rw [← Lib.size_eq]; exact hj
    simp [bytesOf, List.getD_eq_getElem?_getD, List.getElem?_eq_getElem h3]
  have b0 := Lib.bytesWorld_below w 5 s
  obtain ⟨W, hW⟩ : ∃ W, Lib.bytesWorld w 5 s = W := ⟨_, rfl⟩
  obtain ⟨C, hC⟩ : ∃ C, grownCap w s.size 0 5 = C := ⟨_, rfl⟩
  have kb0 := kb w
  rw [hW] at kb0 c0 b0
  rw [hC] at kb0
  have CK := Aside0.mk c0
  have hne : s.toList.isEmpty = false := by
    rw [Lib.toList_data]
    cases hh : s.data.toList with
    | nil => rw [Lib.size_eq, hh] at h0; simp at h0
    | cons _ _ => rfl
  have hne2 : ¬ s.toList = [] := by
    intro hh
    rw [hh] at hne
    cases hne
  clear kb hW hC c0
  go_enter Tryz.func157, Tryz.ntmps157
  go_wp2
  clear kb0 hne hne2
  go_loopg [12, 13, 101] s.size (fun gk v12 v13 v101 wx => wx = W ∧ ∃ (k : Nat) (n : Int), v12 = .bool false ∧ v13 = .int .u64 n ∧ v101 = .int .i64 k ∧ k ≤ s.size ∧ s.size ≤ k + gk ∧ 0 ≤ n ∧ n ≤ 4294967295 ∧ Aside0 (pu16 n ((bytesOf s).drop k) = pu16 0 (bytesOf s)))
  case atStart => exact ⟨rfl, 0, 0, rfl, rfl, rfl, by omega, by omega, by omega, by omega, ⟨rfl⟩⟩
  case round =>
    obtain ⟨rfl, k, n, rfl, rfl, rfl, hk, hfu, hn0, hn1, hpu⟩ := hrel
    by_cases hlt : k < s.size
    · obtain ⟨g', rfl⟩ : ∃ g', gk = g' + 1 := ⟨gk - 1, by omega⟩
      have hc := CK.out k hlt
      have hr := bt_range s k
      have hpu := hpu.out
      rw [drop_bytes s k hlt] at hpu
      obtain ⟨c, hcd⟩ : ∃ c, bt s k = c := ⟨_, rfl⟩
      rw [hcd] at hc hr hpu
      clear hcd
      have hor := or32_range c hr.1 hr.2
      have cL := Tryz.internal_strconv_lower c wr
      have cL2 : Calls Tryz.prog 177 #[.int .u8 c] wr fun e w' => e = .returned (.int .u8 (bits .or .u8 c 32)) ∧ w' = wr := cL
      clear cL
      obtain ⟨x, hxd⟩ : ∃ x, bits .or .u8 c 32 = x := ⟨_, rfl⟩
      simp only [pu16, hexV] at hpu
      rw [hxd] at hpu hor cL2
      have HX := Lib.hid hxd
      clear hxd
      by_cases h95 : c = 95
      · have hb95 : (c == 95) = true := beq_iff_eq.2 h95
        have h127 : x = 127 := by rw [← HX.out, h95]; decide
        have hb48 : decide ((48 : Int) ≤ c) = true := decide_eq_true (by omega)
        have hb57 : decide (c ≤ (57 : Int)) = false := decide_eq_false (by omega)
        have hb97 : decide ((97 : Int) ≤ x) = true := decide_eq_true (by omega)
        have hb122 : decide (x ≤ (122 : Int)) = false := decide_eq_false (by omega)
        rw [if_neg (by omega), if_neg (by omega)] at hpu
        simp only at hpu
        clear h127 h95
        have HP := Aside0.mk hpu
        clear hpu
        go_wp2_with (go_at_call 177; refine cL2.mono ?_; rintro e w' ⟨rfl, rfl⟩)
        go_ret2
        exact ⟨by rw [← HP.out] <;> rfl, b0⟩
      have hb95 : (c == 95) = false := beq_eq_false_iff_ne.2 h95
      by_cases h48 : 48 ≤ c
      · have hb48 : decide ((48 : Int) ≤ c) = true := decide_eq_true h48
        by_cases h57 : c ≤ 57
        · have hb57 : decide (c ≤ (57 : Int)) = true := decide_eq_true h57
          rw [if_pos ⟨h48, h57⟩] at hpu
          have hb16 : decide ((16 : Int) ≤ c - 48) = false := decide_eq_false (by omega)
          simp only at hpu
          have hd0 : 0 ≤ n * 16 + (c - 48) := by omega
          have hc1 : decide ((1152921504606846976 : Int) ≤ n) = false := decide_eq_false (by omega)
          have hc2 : decide (n * 16 + (c - 48) < n * 16) = false := decide_eq_false (by omega)
          by_cases hov : 4294967295 < n * 16 + (c - 48)
          · have hc3 : decide (4294967295 < n * 16 + (c - 48)) = true := decide_eq_true hov
            rw [if_pos hov] at hpu
            have HP := Aside0.mk hpu
            clear hpu
            go_wp2_with (go_at_call 177; refine cL2.mono ?_; rintro e w' ⟨rfl, rfl⟩)
            go_ret2
            exact ⟨by rw [← HP.out] <;> rfl, b0⟩
          · have hc3 : decide (4294967295 < n * 16 + (c - 48)) = false := decide_eq_false hov
            rw [if_neg hov] at hpu
            have HP := Aside0.mk hpu
            clear hpu
            go_wp2_with (go_at_call 177; refine cL2.mono ?_; rintro e w' ⟨rfl, rfl⟩)
            go_roundg g'
            case measure => omega
            case rel => exact ⟨rfl, k + 1, n * 16 + (c - 48), rfl, by first | rfl | (congr 1; omega) | (simp; omega), by first | rfl | go_num, by omega, by omega, by omega, by omega, HP⟩
        · have hb57 : decide (c ≤ (57 : Int)) = false := decide_eq_false h57
          rw [if_neg (by omega)] at hpu
          by_cases h97 : 97 ≤ x
          · have hb97 : decide ((97 : Int) ≤ x) = true := decide_eq_true h97
            by_cases h122 : x ≤ 122
            · have hb122 : decide (x ≤ (122 : Int)) = true := decide_eq_true h122
              by_cases h102 : x ≤ 102
              · rw [if_pos ⟨h97, h102⟩] at hpu
                simp only at hpu
                have hb16 : decide ((16 : Int) ≤ x - 97 + 10) = false := decide_eq_false (by omega)
                have hd0 : 0 ≤ n * 16 + (x - 97 + 10) := by omega
                have hc1 : decide ((1152921504606846976 : Int) ≤ n) = false := decide_eq_false (by omega)
                have hc2 : decide (n * 16 + (x - 97 + 10) < n * 16) = false := decide_eq_false (by omega)
                by_cases hov : 4294967295 < n * 16 + (x - 97 + 10)
                · have hc3 : decide (4294967295 < n * 16 + (x - 97 + 10)) = true := decide_eq_true hov
                  rw [if_pos hov] at hpu
                  have HP := Aside0.mk hpu
                  clear hpu
                  go_wp2_with (go_at_call 177; refine cL2.mono ?_; rintro e w' ⟨rfl, rfl⟩)
                  go_ret2
                  exact ⟨by rw [← HP.out] <;> rfl, b0⟩
                · have hc3 : decide (4294967295 < n * 16 + (x - 97 + 10)) = false := decide_eq_false hov
                  rw [if_neg hov] at hpu
                  have HP := Aside0.mk hpu
                  clear hpu
                  go_wp2_with (go_at_call 177; refine cL2.mono ?_; rintro e w' ⟨rfl, rfl⟩)
                  go_roundg g'
                  case measure => omega
                  case rel => exact ⟨rfl, k + 1, n * 16 + (x - 97 + 10), rfl, by first | rfl | (congr 1; omega) | (simp; omega), by first | rfl | go_num, by omega, by omega, by omega, by omega, HP⟩
              · rw [if_neg (by omega)] at hpu
                simp only at hpu
                have hb16 : decide ((16 : Int) ≤ x - 97 + 10) = true := decide_eq_true (by omega)
                have HP := Aside0.mk hpu
                clear hpu
                go_wp2_with (go_at_call 177; refine cL2.mono ?_; rintro e w' ⟨rfl, rfl⟩)
                go_ret2
                exact ⟨by rw [← HP.out] <;> rfl, b0⟩
            · have hb122 : decide (x ≤ (122 : Int)) = false := decide_eq_false h122
              rw [if_neg (by omega)] at hpu
              simp only at hpu
              have HP := Aside0.mk hpu
              clear hpu
              go_wp2_with (go_at_call 177; refine cL2.mono ?_; rintro e w' ⟨rfl, rfl⟩)
              go_ret2
              exact ⟨by rw [← HP.out] <;> rfl, b0⟩
          · have hb97 : decide ((97 : Int) ≤ x) = false := decide_eq_false h97
            rw [if_neg (by omega)] at hpu
            simp only at hpu
            have HP := Aside0.mk hpu
            clear hpu
            go_wp2_with (go_at_call 177; refine cL2.mono ?_; rintro e w' ⟨rfl, rfl⟩)
            go_ret2
            exact ⟨by rw [← HP.out] <;> rfl, b0⟩
      · have hb48 : decide ((48 : Int) ≤ c) = false := decide_eq_false h48
        rw [if_neg (by omega)] at hpu
        by_cases h97 : 97 ≤ x
        · have hb97 : decide ((97 : Int) ≤ x) = true := decide_eq_true h97
          by_cases h122 : x ≤ 122
          · have hb122 : decide (x ≤ (122 : Int)) = true := decide_eq_true h122
            by_cases h102 : x ≤ 102
            · rw [if_pos ⟨h97, h102⟩] at hpu
              simp only at hpu
              have hb16 : decide ((16 : Int) ≤ x - 97 + 10) = false := decide_eq_false (by omega)
              have hd0 : 0 ≤ n * 16 + (x - 97 + 10) := by omega
              have hc1 : decide ((1152921504606846976 : Int) ≤ n) = false := decide_eq_false (by omega)
              have hc2 : decide (n * 16 + (x - 97 + 10) < n * 16) = false := decide_eq_false (by omega)
              by_cases hov : 4294967295 < n * 16 + (x - 97 + 10)
              · have hc3 : decide (4294967295 < n * 16 + (x - 97 + 10)) = true := decide_eq_true hov
                rw [if_pos hov] at hpu
                have HP := Aside0.mk hpu
                clear hpu
                go_wp2_with (go_at_call 177; refine cL2.mono ?_; rintro e w' ⟨rfl, rfl⟩)
                go_ret2
                exact ⟨by rw [← HP.out] <;> rfl, b0⟩
              · have hc3 : decide (4294967295 < n * 16 + (x - 97 + 10)) = false := decide_eq_false hov
                rw [if_neg hov] at hpu
                have HP := Aside0.mk hpu
                clear hpu
                go_wp2_with (go_at_call 177; refine cL2.mono ?_; rintro e w' ⟨rfl, rfl⟩)
                go_roundg g'
                case measure => omega
                case rel => exact ⟨rfl, k + 1, n * 16 + (x - 97 + 10), rfl, by first | rfl | (congr 1; omega) | (simp; omega), by first | rfl | go_num, by omega, by omega, by omega, by omega, HP⟩
            · rw [if_neg (by omega)] at hpu
              simp only at hpu
              have hb16 : decide ((16 : Int) ≤ x - 97 + 10) = true := decide_eq_true (by omega)
              have HP := Aside0.mk hpu
              clear hpu
              go_wp2_with (go_at_call 177; refine cL2.mono ?_; rintro e w' ⟨rfl, rfl⟩)
              go_ret2
              exact ⟨by rw [← HP.out] <;> rfl, b0⟩
          · have hb122 : decide (x ≤ (122 : Int)) = false := decide_eq_false h122
            rw [if_neg (by omega)] at hpu
            simp only at hpu
            have HP := Aside0.mk hpu
            clear hpu
            go_wp2_with (go_at_call 177; refine cL2.mono ?_; rintro e w' ⟨rfl, rfl⟩)
            go_ret2
            exact ⟨by rw [← HP.out] <;> rfl, b0⟩
        · have hb97 : decide ((97 : Int) ≤ x) = false := decide_eq_false h97
          rw [if_neg (by omega)] at hpu
          simp only at hpu
          have HP := Aside0.mk hpu
          clear hpu
          go_wp2_with (go_at_call 177; refine cL2.mono ?_; rintro e w' ⟨rfl, rfl⟩)
          go_ret2
          exact ⟨by rw [← HP.out] <;> rfl, b0⟩
    · have hpu := hpu.out
      have e1 : k = s.size := by omega
      rw [e1, List.drop_of_length_le (by rw [bytesOf_length]; omega)] at hpu
      simp only [pu16] at hpu
      have hb1 : decide (k < s.size) = false := decide_eq_false hlt
      have HP := Aside0.mk hpu
      clear hpu e1
      go_wp2
      go_ret2
      exact ⟨by rw [← HP.out] <;> rfl, b0⟩

set_option maxHeartbeats 4000000 in
set_option maxRecDepth 1000000 in
theorem parse16_empty (s : ByteArray) (w : World) (h0 : s.size = 0) :
    Calls Tryz.prog 157 #[.string s, .int .i64 16, .int .i64 32] w fun e w' => e = .returned (.tuple #[.int .u64 0, puE 2]) ∧ Below w.heap.size w w' := by
  have hne2 : s.toList = [] := by
    rw [Lib.toList_data]
    exact List.eq_nil_of_length_eq_zero (by rw [← Lib.size_eq]; exact h0)
  have hne : s.toList.isEmpty = true := by rw [hne2]; rfl
  go_enter Tryz.func157, Tryz.ntmps157
  go_wp2
  go_ret2
  exact ⟨rfl, Below.refl _ _⟩
def pr16 (s : ByteArray) : Int × Int := if s.size = 0 then (2, 0) else pu16 0 (bytesOf s)
theorem pu16_err : ∀ (l : List Int) (n : Int), (pu16 n l).1 = 0 ∨ (pu16 n l).1 = 1 ∨ (pu16 n l).1 = 2
  | [], n => .inl rfl
  | c :: l, n => by
    unfold pu16
    split
    · exact .inr (.inr rfl)
    · split
      · exact .inr (.inl rfl)
      · exact pu16_err l _
theorem pr16_err (s : ByteArray) : (pr16 s).1 = 0 ∨ (pr16 s).1 = 1 ∨ (pr16 s).1 = 2 := by
  unfold pr16
  split
  · exact .inr (.inr rfl)
  · exact pu16_err _ _
theorem parse16_any (s : ByteArray) (w : World) (hs : s.size ≤ 9223372036854775806) :
    Calls Tryz.prog 157 #[.string s, .int .i64 16, .int .i64 32] w fun e w' => e = .returned (.tuple #[.int .u64 (pr16 s).2, puE (pr16 s).1]) ∧ Below w.heap.size w w' := by
  unfold pr16
  split
  · exact parse16_empty s w (by assumption)
  · exact parse16_walk s w (by omega) hs

set_option maxHeartbeats 4000000 in
set_option maxRecDepth 1000000 in
theorem parseUint16_ok (s : ByteArray) (w : World) (hs : s.size ≤ 281474976710656) (h : (pr16 s).1 = 0) :
    Calls Tryz.prog 138 #[.string s, .int .i64 16, .int .i64 32] w fun e w' => e = .returned (.tuple #[.int .u64 (pr16 s).2, .nilIface]) ∧ Below w.heap.size w w' := by
  have cP := parse16_any s w (by omega)
  rw [h] at cP
  generalize (pr16 s).2 = v at cP ⊢
  have cP2 : Calls Tryz.prog 157 #[.string s, .int .i64 16, .int .i64 32] w fun e w' => e = .returned (.tuple #[.int .u64 v, .nilIface]) ∧ Below w.heap.size w w' := cP
  clear cP h
  go_enter Tryz.func138, Tryz.ntmps138
  go_wp2_with (go_at_call 157; refine cP2.mono ?_; rintro e w' ⟨rfl, hb⟩)
  go_ret2
  exact ⟨rfl, hb⟩
set_option maxHeartbeats 4000000 in
set_option maxRecDepth 1000000 in
theorem parseUint16_bad (s : ByteArray) (w : World) (hs : s.size ≤ 281474976710656) (h : (pr16 s).1 ≠ 0) (HLW_ : LW w) :
    Calls Tryz.prog 138 #[.string s, .int .i64 16, .int .i64 32] w fun e w' => ∃ v T p, e = .returned (.tuple #[.int .u64 v, .iface T p]) ∧ Below w.heap.size w w' := by
  have cP := parse16_any s w (by omega)
  have he : (pr16 s).1 = 1 ∨ (pr16 s).1 = 2 := by
    rcases pr16_err s with h1 | h1 | h1
    · exact absurd h1 h
    · exact .inl h1
    · exact .inr h1
  have gS : Tryz.prog.globalNamed "strconv.ErrSyntax" = some 6 := by kernel_rfl
  have gR : Tryz.prog.globalNamed "strconv.ErrRange" = some 7 := by kernel_rfl
  have HLW := Aside0.mk HLW_
  clear HLW_ h
  generalize (pr16 s).2 = v at cP
  rcases he with he | he
  · rw [he] at cP
    have cP2 : Calls Tryz.prog 157 #[.string s, .int .i64 16, .int .i64 32] w fun e w' => e = .returned (.tuple #[.int .u64 v, .iface 245 (.int .i64 1)]) ∧ Below w.heap.size w w' := cP
    clear cP he
    go_enter Tryz.func138, Tryz.ntmps138
    go_wp2_with fail
    refine cP2.mono ?_
    rintro e w' ⟨rfl, hb⟩
    obtain ⟨tp, p, hv⟩ := (HLW.out.below hb).errR
    have hc := World.var?_cell gR hv 0
    have cE := Tryz.strconv_toError_range ⟨#[80, 97, 114, 115, 101, 85, 105, 110, 116]⟩ s 16 32 (.iface tp p) w' hs (by simpa using hc) (Or.inr ⟨tp, p, rfl⟩)
    have HV := Aside0.mk hv
    have HC := Aside0.mk hc
    clear hv hc
    go_wp2_with (go_at_call 158; refine cE.mono ?_; rintro e w2 ⟨N, rfl, _, _, hb2⟩)
    go_ret2
    exact ⟨v, _, _, rfl, hb.trans (hb2.mono hb.size)⟩
  · rw [he] at cP
    have cP2 : Calls Tryz.prog 157 #[.string s, .int .i64 16, .int .i64 32] w fun e w' => e = .returned (.tuple #[.int .u64 v, .iface 245 (.int .i64 2)]) ∧ Below w.heap.size w w' := cP
    clear cP he
    go_enter Tryz.func138, Tryz.ntmps138
    go_wp2_with fail
    refine cP2.mono ?_
    rintro e w' ⟨rfl, hb⟩
    obtain ⟨tp, p, hv⟩ := (HLW.out.below hb).errS
    have hc := World.var?_cell gS hv 0
    have cE := Tryz.strconv_toError_syntax ⟨#[80, 97, 114, 115, 101, 85, 105, 110, 116]⟩ s 16 32 (.iface tp p) w' hs (by simpa using hc) (Or.inr ⟨tp, p, rfl⟩)
    have HV := Aside0.mk hv
    have HC := Aside0.mk hc
    clear hv hc
    go_wp2_with (go_at_call 158; refine cE.mono ?_; rintro e w2 ⟨N, rfl, _, _, hb2⟩)
    go_ret2
    exact ⟨v, _, _, rfl, hb.trans (hb2.mono hb.size)⟩
end Go.Proofs.YtiidpicgdjjikaaGreatDoor.G
