/- Texts of this seat, one behind the other (merged by a program of this session's own). -/
import Derived.Deep.LoopGhost
import Derived.WalkKit
import Derived.IntWalk
import Derived.Laws.BytesArg
import Derived.Lib.AtoiErrMem
import Derived.Test.YtiidpicgdjjikaaGreatDoorM4

-- GLow
/-
  Contracts of the references' 'low': a text with its letters small.
-/
namespace Go.Proofs.YtiidpicgdjjikaaGreatDoor.G
open Go.RowKit Go.Lib Go.Proofs Go.Proofs.YtiidpicgdjjikaaGreatDoorW.PrintWords Go.Proofs.YtiidpicgdjjikaaGreatDoorW.PrintLast Go.Proofs.YtiidpicgdjjikaaGreatDoorW.PrintMore
set_option linter.unusedVariables false
set_option linter.unusedSimpArgs false

def lowI (c : Int) : Int := if 65 ≤ c ∧ c ≤ 90 then c + 32 else c
def lowL (s : ByteArray) : List Int := (bytesOf s).map lowI
def lowAt (s : ByteArray) (k j : Nat) : Int := if j < k then lowI (bt s j) else bt s j
theorem lowL_length (s : ByteArray) : (lowL s).length = s.size := by simp [lowL, bytesOf_length]
theorem lowL_at (s : ByteArray) (j : Nat) (h : j < s.size) : (lowL s).getD j 0 = lowI (bt s j) := by
  have h1 : j < (bytesOf s).length := by rw [bytesOf_length]; exact h
  have h2 := rd_bytesOf s j
  unfold rd at h2
  rw [Int.toNat_natCast] at h2
  rw [← h2]
  simp [lowL, List.getD_eq_getElem?_getD, List.getElem?_map, List.getElem?_eq_getElem h1]
theorem bytesWorld_frozen (W : World) (e : TypeId) (s : ByteArray) (j : Nat) (h : j < s.size) : (Lib.bytesWorld W e s).frozen? ⟨W.heap.size, j, none⟩ = false := by
  have hc : s.size ≤ (Lib.bytesCells W e s).size := by
    unfold Lib.bytesCells
    rw [Array.size_append, Array.size_map]
    have : s.data.size = s.size := rfl
    omega
  simp [World.frozen?, Lib.bytesWorld_at_new]
  omega
theorem frozen_setCell (w : World) (a b : Addr) (v : Value) (h : w.frozen? b = false) : (w.setCell a v).frozen? b = false := by simp [h]
theorem lowAt_step (s : ByteArray) (k j : Nat) (h : j ≠ k) : lowAt s (k + 1) j = lowAt s k j := by
  unfold lowAt
  by_cases h1 : j < k
  · rw [if_pos h1, if_pos (by omega)]
  · rw [if_neg h1, if_neg (by omega)]
set_option maxHeartbeats 4000000 in
set_option maxRecDepth 1000000 in
theorem numeraryref11_low_walk (s : ByteArray) (w : World) (hs : s.size ≤ 9223372036854775807) :
    Calls Tryz.prog 78 #[.string s] w fun e w' => e = .returned (.string (strOfNums (lowL s))) ∧ Below w.heap.size w w' := by
  have kb := fun W => print_bytes (P := Tryz.prog) 9 50 5 Tryz.underlying9 Tryz.underlying50 Tryz.underlying5 s W
  have c0 := Lib.bytesWorld_cell w 5 s
  have f0 := bytesWorld_frozen w 5 s
  have b0 := Lib.bytesWorld_below w 5 s
  have z0 := Lib.bytesWorld_size w 5 s
  obtain ⟨W, hW⟩ : ∃ W, Lib.bytesWorld w 5 s = W := ⟨_, rfl⟩
  obtain ⟨C, hC⟩ : ∃ C, grownCap w s.size 0 5 = C := ⟨_, rfl⟩
  have kb0 := kb w
  rw [hW] at kb0 c0 f0 b0 z0
  rw [hC] at kb0
  have CK := Aside0.mk c0
  have FK := Aside0.mk f0
  have ZK := Aside0.mk z0
  clear kb hW hC c0 f0 z0
  go_enter Tryz.func78, Tryz.ntmps78
  go_wp2
  clear kb0
  go_loopg [4] s.size (fun gk v4 wx => ∃ k : Nat, v4 = .int .i64 k ∧ k ≤ s.size ∧ s.size ≤ k + gk ∧ Below w.heap.size w wx ∧ Aside0 (∀ j, j < s.size → wx.cell? ⟨w.heap.size, j, none⟩ = some (.int .u8 (lowAt s k j))) ∧ Aside0 (∀ j, j < s.size → wx.frozen? ⟨w.heap.size, j, none⟩ = false))
  case atStart =>
    refine ⟨0, rfl, by omega, by omega, b0, ⟨fun j hj => ?_⟩, ⟨fun j hj => FK.out j hj⟩⟩
    rw [CK.out j hj]
    have h2 := rd_bytesOf s j
    unfold rd at h2
    rw [Int.toNat_natCast] at h2
    have h1 : j < (bytesOf s).length := by rw [bytesOf_length]; exact hj
    simp only [lowAt, Nat.not_lt_zero, if_false]
    rw [← h2]
    have h3 : j < s.data.toList.length := by rw [← Lib.size_eq]; exact hj
    simp [bytesOf, List.getD_eq_getElem?_getD, List.getElem?_eq_getElem h3]
  case round =>
    obtain ⟨k, rfl, hk, hfu, hbw, hcs, hfs⟩ := hrel
    by_cases hlt : k < s.size
    · obtain ⟨g', rfl⟩ : ∃ g', gk = g' + 1 := ⟨gk - 1, by omega⟩
      have hc := hcs.out k hlt
      have hf := hfs.out k hlt
      have e0 : lowAt s k k = bt s k := by simp [lowAt]
      rw [e0] at hc
      have hr := bt_range s k
      obtain ⟨c, hcd⟩ : ∃ c, bt s k = c := ⟨_, rfl⟩
      rw [hcd] at hc hr
      have HC := Lib.hid hcd
      clear hcd e0
      have a1 : IntKind.i64.wrap ((k : Int) + 1) = (k : Int) + 1 := IntWalk.i64_in _ (by omega)
      have A1 := Lib.hid a1
      clear a1
      by_cases h65 : 65 ≤ c
      · by_cases h90 : c ≤ 90
        · have hb1 : decide ((65 : Int) ≤ c) = true := decide_eq_true h65
          have hb2 : decide (c ≤ (90 : Int)) = true := decide_eq_true h90
          go_wp2
          go_roundg g'
          case measure => omega
          case rel =>
            refine ⟨k + 1, by first | rfl | (rw [A1.out]; rfl) | go_num, by omega, by omega, hbw.setCell (Nat.le_refl _) _, ⟨fun j hj => ?_⟩, ⟨fun j hj => frozen_setCell _ _ _ _ (hfs.out j hj)⟩⟩
            by_cases hjk : j = k
            · subst hjk
              rw [World.cell?_setCell_same (h := hc)]
              have : lowAt s (j + 1) j = c + 32 := by
                unfold lowAt
                rw [if_pos (by omega), HC.out]
                unfold lowI
                rw [if_pos ⟨h65, h90⟩]
              rw [this]
            · rw [World.cell?_setCell_other (h := fun h => hjk (by have h2 := congrArg Addr.off h; simpa using h2.symm)), lowAt_step s k j hjk]
              exact hcs.out j hj
        · have hb1 : decide ((65 : Int) ≤ c) = true := decide_eq_true h65
          have hb2 : decide (c ≤ (90 : Int)) = false := decide_eq_false h90
          go_wp2
          go_roundg g'
          case measure => omega
          case rel =>
            refine ⟨k + 1, by first | rfl | (rw [A1.out]; rfl) | go_num, by omega, by omega, hbw, ⟨fun j hj => ?_⟩, hfs⟩
            rw [hcs.out j hj]
            by_cases hjk : j = k
            · subst hjk
              have : lowAt s (j + 1) j = lowAt s j j := by
                unfold lowAt
                rw [if_pos (by omega), if_neg (by omega), HC.out]
                unfold lowI
                rw [if_neg (by omega)]
              rw [this]
            · rw [lowAt_step s k j hjk]
      · have hb1 : decide ((65 : Int) ≤ c) = false := decide_eq_false h65
        go_wp2
        go_roundg g'
        case measure => omega
        case rel =>
          refine ⟨k + 1, by first | rfl | (rw [A1.out]; rfl) | go_num, by omega, by omega, hbw, ⟨fun j hj => ?_⟩, hfs⟩
          rw [hcs.out j hj]
          by_cases hjk : j = k
          · subst hjk
            have : lowAt s (j + 1) j = lowAt s j j := by
              unfold lowAt
              rw [if_pos (by omega), if_neg (by omega), HC.out]
              unfold lowI
              rw [if_neg (by omega)]
            rw [this]
          · rw [lowAt_step s k j hjk]
    · have e1 : k = s.size := by omega
      have hread : ReadsInt wr .u8 (some ⟨w.heap.size, 0, none⟩) s.size (lowL s) := by
        refine ⟨lowL_length s, hs, fun hn => ⟨_, rfl, fun j hj => ?_⟩⟩
        have : (⟨w.heap.size, 0, none⟩ : Addr).add j = ⟨w.heap.size, j, none⟩ := by cases j <;> simp [Addr.add]
        rw [this, hcs.out j hj, lowL_at s j hj]
        simp only [lowAt]
        rw [if_pos (by omega)]
      have ks := string_of_reads (P := Tryz.prog) (src := 50) (dst := 9) (c := C) Tryz.underlying50 Tryz.underlying5 Tryz.underlying9 hread
      have hb1 : decide (k < s.size) = false := decide_eq_false hlt
      obtain ⟨R, hR⟩ : ∃ R, strOfNums (lowL s) = R := ⟨_, rfl⟩
      rw [hR] at ks
      have HR := Lib.hid hR
      clear hread hR hcs hfs
      go_wp2
      go_ret
      exact ⟨by rw [HR.out] <;> rfl, hbw⟩
def numeraryref11_low.f (a0 : ByteArray) : Option ByteArray := if a0.size ≤ 9223372036854775807 then some (strOfNums (lowL a0)) else none
theorem numeraryref11_low.calls (a0 : ByteArray) (r : ByteArray) (w : World) (h : numeraryref11_low.f a0 = some r) :
    Calls Tryz.prog 78 #[.string a0] w fun e w' => e = .returned (.string r) ∧ Below w.heap.size w w' := by
  unfold numeraryref11_low.f at h
  split at h
  · obtain rfl := Option.some.inj h
    exact numeraryref11_low_walk a0 w (by assumption)
  · cases h
end Go.Proofs.YtiidpicgdjjikaaGreatDoor.G

