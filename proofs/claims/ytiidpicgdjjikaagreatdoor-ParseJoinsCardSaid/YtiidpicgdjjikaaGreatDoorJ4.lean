import Derived.Lib.AppendIntMem
import Derived.Shelf.Spec.TrailingZeros
import Derived.Test.YtiidpicgdjjikaaGreatDoorJ1
import Derived.Test.YtiidpicgdjjikaaGreatDoorJ2
import Derived.Test.YtiidpicgdjjikaaGreatDoorJ3
namespace Go.Proofs.YtiidpicgdjjikaaGreatDoor.G
open Go.RowKit Go.Lib Go.Shelf Go.Proofs Go.Proofs.YtiidpicgdjjikaaGreatDoorW.PrintWords Go.Proofs.YtiidpicgdjjikaaGreatDoorW.PrintLast Go.Proofs.YtiidpicgdjjikaaGreatDoorW.PrintMore

set_option linter.unusedVariables false
def foldTab : List Int := [0, 1, 2, 3, 4, 5, 6, 7, 8, 9, 10, 11, 12, 13, 14, 15, 16, 17, 18, 19, 20, 21, 22, 23, 24, 25, 26, 27, 28, 29, 30, 31, 32, 33, 34, 35, 36, 37, 38, 39, 40, 41, 42, 43, 44, 45, 46, 47, 48, 49, 50, 51, 52, 53, 54, 55, 56, 57, 58, 59, 60, 61, 62, 63, 64, 97, 98, 99, 100, 101, 102, 103, 104, 105, 106, 107, 108, 109, 110, 111, 112, 113, 114, 115, 116, 117, 118, 119, 120, 121, 122, 91, 92, 93, 94, 95, 96, 65, 66, 67, 68, 69, 70, 71, 72, 73, 74, 8490, 76, 77, 78, 79, 80, 81, 82, 383, 84, 85, 86, 87, 88, 89, 90, 123, 124, 125, 126, 127]
structure Laid (W : World) : Prop where
  utf8 : Lib.Utf8Tabs 1 2 W
  case : CaseVar 3 caseA W
  pow10 : Lib.TabIs Tryz.prog W "internal/strconv.uint64pow10" .u64 Lib.pow10Tab
  maxlen : ∃ m, W.cell? ⟨0, 0, none⟩ = some (.int .i64 m)
  db64 : TabAt 10 Lib.deBruijn64tab W
  db32 : TabAt 9 Lib.deBruijn32tab W
  fold : Lib.TabIs Tryz.prog W "unicode.asciiFold" .u16 foldTab
  errS : ∃ tp p, W.var? Tryz.prog "strconv.ErrSyntax" = some #[.iface tp p]
  errR : ∃ tp p, W.var? Tryz.prog "strconv.ErrRange" = some #[.iface tp p]
def LW (w : World) : Prop := ∃ W, Laid W ∧ Below W.heap.size W w
theorem LW.below {w0 w : World} (h : LW w0) (hb : Below w0.heap.size w0 w) : LW w := by
  obtain ⟨W, hl, h1⟩ := h
  exact ⟨W, hl, h1.trans (hb.mono h1.size)⟩
theorem LW.drewN {w : World} {n : Nat} (h : LW w) : LW (w.drewN n) := h.below (pw_below_drewN (Below.refl _ _) n)
theorem var_below {P : Program} {W w : World} {n : String} {cs : Array Value} (hb : Below W.heap.size W w) (h : W.var? P n = some cs) : w.var? P n = some cs := by
  unfold World.var? at h ⊢
  simp only [Option.bind_eq_some_iff] at h ⊢
  obtain ⟨g, hg, hc⟩ := h
  refine ⟨g, hg, ?_⟩
  have hlt : g < W.heap.size := by
    apply Classical.byContradiction
    intro hn
    rw [Array.getElem?_eq_none (by omega)] at hc
    simp at hc
  rw [hb.block g hlt]
  exact hc
theorem cellBelow {w w' : World} (hb : Below w.heap.size w w') {a : Addr} {v : Value} (hc : w.cell? a = some v) : w'.cell? a = some v := by
  have hlt : a.block < w.heap.size := by
    apply Classical.byContradiction
    intro hn
    unfold World.cell? at hc
    rw [Array.getElem?_eq_none (by omega)] at hc
    simp at hc
  rw [hb.cell hlt]
  exact hc
theorem LW.utf8 {w : World} (h : LW w) : Lib.Utf8Tabs 1 2 w := by
  obtain ⟨W, hl, hb⟩ := h
  exact Utf8Tabs_below hl.utf8 hb
theorem LW.case {w : World} (h : LW w) : CaseVar 3 caseA w := by
  obtain ⟨W, hl, hb⟩ := h
  obtain ⟨R, oR, cap, h1, h2⟩ := hl.case
  exact ⟨R, oR, cap, cellBelow hb h1, fun i hi => ⟨cellBelow hb (h2 i hi).1, cellBelow hb (h2 i hi).2.1, cellBelow hb (h2 i hi).2.2.1, cellBelow hb (h2 i hi).2.2.2.1, cellBelow hb (h2 i hi).2.2.2.2⟩⟩
theorem LW.pow10 {w : World} (h : LW w) : Lib.TabIs Tryz.prog w "internal/strconv.uint64pow10" .u64 Lib.pow10Tab := by
  obtain ⟨W, hl, hb⟩ := h
  exact var_below hb hl.pow10
theorem LW.maxlen {w : World} (h : LW w) : ∃ m, w.cell? ⟨0, 0, none⟩ = some (.int .i64 m) := by
  obtain ⟨W, hl, hb⟩ := h
  obtain ⟨m, hm⟩ := hl.maxlen
  exact ⟨m, cellBelow hb hm⟩
theorem LW.fold {w : World} (h : LW w) (j : Nat) (hj : j < 128) : w.cell? ⟨4, j, none⟩ = some (.int .u16 (foldTab.getD j 0)) := by
  obtain ⟨W, hl, hb⟩ := h
  exact cellBelow hb (hl.fold.cell (by kernel_rfl) j hj)
theorem LW.errS {w : World} (h : LW w) : ∃ tp p, w.var? Tryz.prog "strconv.ErrSyntax" = some #[.iface tp p] := by
  obtain ⟨W, hl, hb⟩ := h
  obtain ⟨tp, p, hv⟩ := hl.errS
  exact ⟨tp, p, var_below hb hv⟩
theorem LW.errR {w : World} (h : LW w) : ∃ tp p, w.var? Tryz.prog "strconv.ErrRange" = some #[.iface tp p] := by
  obtain ⟨W, hl, hb⟩ := h
  obtain ⟨tp, p, hv⟩ := hl.errR
  exact ⟨tp, p, var_below hb hv⟩

def asciiB (s : ByteArray) : Bool := s.data.toList.all (fun b => decide (b.toNat < 128))
theorem asciiB_at {s : ByteArray} (h : asciiB s = true) : ∀ (j : Nat) (b : UInt8), s.data.toList[j]? = some b → b.toNat < 128 := by
  intro j b hb
  have := List.all_eq_true.1 h b (List.mem_of_getElem? hb)
  simpa using this
theorem Drawn0.of_eq {w w' : World} (h : w' = w) : Drawn0 w w' := by subst h; exact Drawn0.refl _
theorem Drawn0.of_ex {w w' : World} (h : ∃ n, w' = w.drewN n) : Drawn0 w w' := by obtain ⟨n, rfl⟩ := h; exact ⟨n, rfl⟩
def strings_ToLower.f (a0 : ByteArray) : Option ByteArray := if a0.size < 35184372088832 then some ⟨(Lib.toLowerD a0.data.toList).toArray⟩ else none
theorem strings_ToLower.calls (a0 : ByteArray) (r : ByteArray) (w : World) (h : strings_ToLower.f a0 = some r) (HLW_ : LW w) :
    Calls Tryz.prog 104 #[.string a0] w fun e w' => e = .returned (.string r) ∧ Below w.heap.size w w' := by
  unfold strings_ToLower.f at h
  split at h
  · obtain rfl := Option.some.inj h
    exact Tryz.strings_ToLower_any a0 w (by assumption) HLW_.case HLW_.utf8
  · cases h
def strings_Contains.f (a0 a1 : ByteArray) : Option Bool := if a0.size < 4294967281 then some (Lib.contains a0.data.toList a1.data.toList) else none
theorem strings_Contains.calls (a0 a1 : ByteArray) (r : Bool) (w : World) (h : strings_Contains.f a0 a1 = some r) (HLW_ : LW w) :
    Calls Tryz.prog 24 #[.string a0, .string a1] w fun e w' => e = .returned (.bool r) ∧ Drawn0 w w' := by
  unfold strings_Contains.f at h
  split at h
  · obtain rfl := Option.some.inj h
    obtain ⟨m, hm⟩ := HLW_.maxlen
    exact (Tryz.strings_Contains a0 a1 m w (by assumption) hm).mono fun e w' ⟨h1, h2⟩ => ⟨h1, by first | exact Drawn0.of_eq h2 | exact Drawn0.of_ex h2⟩
  · cases h
def strings_Cut.f (a0 a1 : ByteArray) : Option (ByteArray × ByteArray × Bool) := if a0.size < 4294967281 then some (⟨(Lib.cut a0.data.toList a1.data.toList).1.toArray⟩, ⟨(Lib.cut a0.data.toList a1.data.toList).2.1.toArray⟩, (Lib.cut a0.data.toList a1.data.toList).2.2) else none
theorem strings_Cut.calls (a0 a1 : ByteArray) (r1 r2 : ByteArray) (r3 : Bool) (w : World) (h : strings_Cut.f a0 a1 = some (r1, r2, r3)) (HLW_ : LW w) :
    Calls Tryz.prog 134 #[.string a0, .string a1] w fun e w' => e = .returned (.tuple #[.string r1, .string r2, .bool r3]) ∧ Drawn0 w w' := by
  unfold strings_Cut.f at h
  split at h
  · simp only [Option.some.injEq, Prod.mk.injEq] at h
    obtain ⟨rfl, rfl, rfl⟩ := h
    obtain ⟨m, hm⟩ := HLW_.maxlen
    exact (Tryz.strings_Cut a0 a1 m w (by assumption) hm).mono fun e w' ⟨h1, h2⟩ => ⟨h1, Drawn0.of_ex h2⟩
  · cases h
def strings_CutPrefix.f (a0 a1 : ByteArray) : Option (ByteArray × Bool) := some (⟨(Lib.trimPrefix a0.data.toList a1.data.toList).toArray⟩, Lib.hasPrefix a0.data.toList a1.data.toList)
theorem strings_CutPrefix.calls (a0 a1 : ByteArray) (r1 : ByteArray) (r2 : Bool) (w : World) (h : strings_CutPrefix.f a0 a1 = some (r1, r2)) :
    Calls Tryz.prog 133 #[.string a0, .string a1] w fun e w' => e = .returned (.tuple #[.string r1, .bool r2]) ∧ Drawn0 w w' := by
  unfold strings_CutPrefix.f at h
  simp only [Option.some.injEq, Prod.mk.injEq] at h
  obtain ⟨rfl, rfl⟩ := h
  exact (Tryz.strings_CutPrefix a0 a1 w).mono fun e w' ⟨h1, h2⟩ => ⟨h1, Drawn0.of_eq h2⟩
def strconv_Itoa.f (a0 : Int) : Option ByteArray := if -9223372036854775808 ≤ a0 ∧ a0 ≤ 9223372036854775807 then some ⟨(Lib.itoa a0).toArray⟩ else none
theorem strconv_Itoa.calls (a0 : Int) (r : ByteArray) (w : World) (h : strconv_Itoa.f a0 = some r) (HLW_ : LW w) :
    Calls Tryz.prog 147 #[.int .i64 a0] w fun e w' => e = .returned (.string r) ∧ Below w.heap.size w w' := by
  unfold strconv_Itoa.f at h
  split at h
  · rename_i hb
    obtain rfl := Option.some.inj h
    exact (Tryz.strconv_Itoa a0 hb.1 hb.2 w HLW_.pow10).mono fun e w' ⟨h1, k, os, h2⟩ => ⟨h1, by subst h2; exact Lib.below_grow _ w (Nat.le_refl _) k os⟩
  · cases h
def strings_TrimLeft.f (a0 a1 : ByteArray) : Option ByteArray := match a1.data.toList with
  | [c] => if c.toNat < 128 then (if a0.size ≤ 9223372036854775807 then some ⟨(Lib.trimLeftB a0.data.toList c).toArray⟩ else none) else none
  | _ => none
theorem strings_TrimLeft.calls (a0 a1 : ByteArray) (r : ByteArray) (w : World) (h : strings_TrimLeft.f a0 a1 = some r) (HLW_ : LW w) :
    Calls Tryz.prog 136 #[.string a0, .string a1] w fun e w' => e = .returned (.string r) ∧ Drawn0 w w' := by
  unfold strings_TrimLeft.f at h
  split at h
  · rename_i c hc
    split at h
    · rename_i h1
      split at h
      · obtain rfl := Option.some.inj h
        have e1 : a1 = ⟨#[c]⟩ := by
          cases a1 with
          | mk d => exact congrArg ByteArray.mk (Array.ext' hc)
        subst e1
        exact (Tryz.strings_TrimLeft_one a0 c h1 w).mono fun e w' ⟨h1, h2⟩ => ⟨h1, Drawn0.of_eq h2⟩
      · cases h
    · cases h
  · cases h
def strings_TrimRight.f (a0 a1 : ByteArray) : Option ByteArray := match a1.data.toList with
  | [c] => if c.toNat < 128 then (if a0.size ≤ 9223372036854775807 then some ⟨(Lib.trimRightB a0.data.toList c).toArray⟩ else none) else none
  | _ => none
theorem strings_TrimRight.calls (a0 a1 : ByteArray) (r : ByteArray) (w : World) (h : strings_TrimRight.f a0 a1 = some r) (HLW_ : LW w) :
    Calls Tryz.prog 156 #[.string a0, .string a1] w fun e w' => e = .returned (.string r) ∧ Drawn0 w w' := by
  unfold strings_TrimRight.f at h
  split at h
  · rename_i c hc
    split at h
    · rename_i h1
      split at h
      · rename_i h2
        obtain rfl := Option.some.inj h
        have e1 : a1 = ⟨#[c]⟩ := by
          cases a1 with
          | mk d => exact congrArg ByteArray.mk (Array.ext' hc)
        subst e1
        exact (Tryz.strings_TrimRight_one a0 c h1 w h2).mono fun e w' ⟨h1, h2⟩ => ⟨h1, Drawn0.of_eq h2⟩
      · cases h
    · cases h
  · cases h
def strings_IndexByte.f (a0 : ByteArray) (a1 : Int) : Option Int := some (Lib.indexByte a0.data.toList a1.toNat.toUInt8)
theorem strings_IndexByte.calls (a0 : ByteArray) (a1 : Int) (r : Int) (w : World) (h : strings_IndexByte.f a0 a1 = some r) :
    Calls Tryz.prog 91 #[.string a0, .int .u8 a1] w fun e w' => e = .returned (.int .i64 r) ∧ Drawn0 w w' := by
  unfold strings_IndexByte.f at h
  obtain rfl := Option.some.inj h
  exact (Tryz.strings_IndexByte a0 a1 w).mono fun e w' ⟨h1, h2⟩ => ⟨h1, Drawn0.of_eq h2⟩
end Go.Proofs.YtiidpicgdjjikaaGreatDoor.G
