/- Texts of this seat, one behind the other (merged by a program of this session's own). -/
import Derived.Test.YtiidpicgdjjikaaGreatDoorM6
import Derived.Test.YtiidpicgdjjikaaGreatDoorM10
import Derived.Test.YtiidpicgdjjikaaGreatDoorM11
import Derived.Test.YtiidpicgdjjikaaGreatDoorM12
import Derived.Test.YtiidpicgdjjikaaGreatDoorM13
import Derived.Test.YtiidpicgdjjikaaGreatDoorM14
import Derived.Test.YtiidpicgdjjikaaGreatDoorM15

-- Px12
-- of this claim: by a program of this session's own over the kit's print
namespace Go.Proofs.YtiidpicgdjjikaaGreatDoor.P
open Go.RowKit Go.Proofs.YtiidpicgdjjikaaGreatDoor.G Go.Proofs.YtiidpicgdjjikaaGreatDoorW.PrintWords Go.Proofs.YtiidpicgdjjikaaGreatDoorW.PrintLast Go.Proofs.YtiidpicgdjjikaaGreatDoorW.PrintMore
attribute [local go_sem] isSome_setCell_eq max2_int min2_int max_two min_two max_three min_three max_four min_four   -- for this text's walks alone
set_option linter.unusedVariables false
set_option linter.unusedSimpArgs false

/-! ### numeraryref11_First: function 52 -/
mutual
def numeraryref11_First.j0 : Nat → ByteArray → Int → Bool → Int → ByteArray → Int → Int → Option (Int × ByteArray × Int × Int × Int × Int × Int)
  | 0, _, _, _, _, _, _, _ => none
  | k + 1, x0, x7, x70, x128000, x128001, x128002, x128003 => if x70 = true then (if 0 ≤ 1 then (if 1 ≤ (x0.size : Int) then (some (6, x0.extract 0 1, 1, 0, 1, 0, 0)) else (none)) else (none)) else (numeraryref11_First.l0 k x0 x7 (⟨#[46, 44, 37, 47, 59, 64]⟩ : ByteArray) 0 x128000 x128001 x128002 x128003)
def numeraryref11_First.l0 : Nat → ByteArray → Int → ByteArray → Int → Int → ByteArray → Int → Int → Option (Int × ByteArray × Int × Int × Int × Int × Int)
  | 0, _, _, _, _, _, _, _, _ => none
  | k + 1, x0, x7, x8, x9, x128000, x128001, x128002, x128003 => if x9 < (x8.size : Int) then (if 0 ≤ x9 then (if (bt x8 x9) = x7 then (if 0 ≤ 1 then (if 1 ≤ (x0.size : Int) then (some (wrap64 (7 + x9), x0.extract 0 1, 1, 0, 1, 0, 0)) else (none)) else (none)) else (numeraryref11_First.l0 k x0 x7 x8 (wrap64 (x9 + 1)) x128000 x128001 x128002 x128003)) else (none)) else (if (x0.size : Int) > 1 then (if x7 = 69 then (if 1 < (x0.size : Int) then (if (bt x0 1) = 43 then (numeraryref11_First.j2 k x0 x7 true x128000 x128001 x128002 x128003) else (numeraryref11_First.j2 k x0 x7 ((bt x0 1) == 45) x128000 x128001 x128002 x128003)) else (none)) else (if x7 = 101 then (if 1 < (x0.size : Int) then (if (bt x0 1) = 43 then (numeraryref11_First.j2 k x0 x7 true x128000 x128001 x128002 x128003) else (numeraryref11_First.j2 k x0 x7 ((bt x0 1) == 45) x128000 x128001 x128002 x128003)) else (none)) else (numeraryref11_First.j2 k x0 x7 false x128000 x128001 x128002 x128003))) else (numeraryref11_First.j2 k x0 x7 false x128000 x128001 x128002 x128003))
def numeraryref11_First.j2 : Nat → ByteArray → Int → Bool → Int → ByteArray → Int → Int → Option (Int × ByteArray × Int × Int × Int × Int × Int)
  | 0, _, _, _, _, _, _, _ => none
  | k + 1, x0, x7, x110, x128000, x128001, x128002, x128003 => if x110 = true then (if 1 ≤ 2 then (if 2 ≤ (x0.size : Int) then (some (13, x0.extract 1 2, 1, 0, 2, 0, 0)) else (none)) else (none)) else ((numeraryref11_begins.f x0 (⟨#[97, 109, 47, 112, 109]⟩ : ByteArray)).bind fun t163 => (if t163 = true then (some (15, (⟨#[65, 77, 47, 80, 77]⟩ : ByteArray), 1, 0, 5, 0, 0)) else ((numeraryref11_begins.f x0 (⟨#[97, 47, 112]⟩ : ByteArray)).bind fun t164 => (if t164 = true then (some (15, (⟨#[65, 47, 80]⟩ : ByteArray), 1, 0, 3, 0, 0)) else ((numeraryref11_begins.f x0 (⟨#[103, 101, 110, 101, 114, 97, 108]⟩ : ByteArray)).bind fun t165 => (if t165 = true then (some (16, (⟨#[71, 101, 110, 101, 114, 97, 108]⟩ : ByteArray), 1, 0, 7, 0, 0)) else ((numeraryref11_low.f x0).bind fun t166 => (if 0 < (t166.size : Int) then ((numeraryref11_has.f k (⟨#[121, 109, 100, 104, 115]⟩ : ByteArray) (bt t166 0)).bind fun t167 => (if t167 = true then (numeraryref11_First.l1 k t166 0) else ((numeraryref01_First.f k x0).bind fun bt168 => (if bt168.2.2 = true then ((numeraryref11_has.f k (⟨#[36, 45, 43, 40, 41, 58, 33, 94, 38, 39, 126, 123, 125, 60, 62, 61, 32, 49, 50, 51, 52, 53, 54, 55, 56, 57]⟩ : ByteArray) x7).bind fun t171 => (if x7 < 128 then (if t171 = true then (if 0 ≤ bt168.2.1 then (if bt168.2.1 ≤ (x0.size : Int) then (some (17, x0.extract 0 (bt168.2.1 : Int).toNat, 1, 0, bt168.2.1, 0, 0)) else (none)) else (none)) else (some (x128000, x128001, x128002, x128003, 0, 0, 9))) else (if 0 ≤ bt168.2.1 then (if bt168.2.1 ≤ (x0.size : Int) then (some (17, x0.extract 0 (bt168.2.1 : Int).toNat, 1, 0, bt168.2.1, 0, 0)) else (none)) else (none)))) else (some (x128000, x128001, x128002, x128003, 0, 0, 4)))))) else (none)))))))))
def numeraryref11_First.l1 : Nat → ByteArray → Int → Option (Int × ByteArray × Int × Int × Int × Int × Int)
  | 0, _, _ => none
  | k + 1, x11, x13 => if x13 < (x11.size : Int) then (if 0 ≤ x13 then (if 0 < (x11.size : Int) then (if (bt x11 x13) = (bt x11 0) then (numeraryref11_First.l1 k x11 (wrap64 (x13 + 1))) else (if 0 ≤ 1 then (if 1 ≤ (x11.size : Int) then (some (14, x11.extract 0 1, x13, 0, x13, 0, 0)) else (none)) else (none))) else (none)) else (none)) else (if 0 ≤ 1 then (if 1 ≤ (x11.size : Int) then (some (14, x11.extract 0 1, x13, 0, x13, 0, 0)) else (none)) else (none))
end
def numeraryref11_First.f (k : Nat) (a0 : ByteArray) : Option (Int × ByteArray × Int × Int × Int × Int × Int) := if 0 < (a0.size : Int) then (if (bt a0 0) = 34 then ((numeraryref11_closed.f k a0 1 34 5).bind fun bt128 => (some (bt128.1, bt128.2.1, bt128.2.2.1, bt128.2.2.2.1, bt128.2.2.2.2.1, bt128.2.2.2.2.2.1, bt128.2.2.2.2.2.2))) else (if (bt a0 0) = 92 then ((numeraryref11_marked.f k a0 2 6).bind fun bt135 => (some (bt135.1, bt135.2.1, bt135.2.2.1, bt135.2.2.2.1, bt135.2.2.2.2.1, bt135.2.2.2.2.2.1, bt135.2.2.2.2.2.2))) else (if (bt a0 0) = 95 then ((numeraryref11_marked.f k a0 3 8).bind fun bt142 => (some (bt142.1, bt142.2.1, bt142.2.2.1, bt142.2.2.2.1, bt142.2.2.2.2.1, bt142.2.2.2.2.2.1, bt142.2.2.2.2.2.2))) else (if (bt a0 0) = 42 then ((numeraryref11_marked.f k a0 4 8).bind fun bt149 => (some (bt149.1, bt149.2.1, bt149.2.2.1, bt149.2.2.2.1, bt149.2.2.2.2.1, bt149.2.2.2.2.2.1, bt149.2.2.2.2.2.2))) else (if (bt a0 0) = 91 then ((numeraryref11_closed.f k a0 5 93 7).bind fun bt156 => (some (bt156.1, bt156.2.1, bt156.2.2.1, bt156.2.2.2.1, bt156.2.2.2.2.1, bt156.2.2.2.2.2.1, bt156.2.2.2.2.2.2))) else (if (bt a0 0) = 48 then (numeraryref11_First.j0 k a0 (bt a0 0) true 0 (⟨#[]⟩ : ByteArray) 0 0) else (if (bt a0 0) = 35 then (numeraryref11_First.j0 k a0 (bt a0 0) true 0 (⟨#[]⟩ : ByteArray) 0 0) else (numeraryref11_First.j0 k a0 (bt a0 0) ((bt a0 0) == 63) 0 (⟨#[]⟩ : ByteArray) 0 0)))))))) else (none)
theorem numeraryref11_First.mono_l : ∀ k, (∀ y0 y1 y2 y3 y4 y5 y6, LeO (numeraryref11_First.j0 k y0 y1 y2 y3 y4 y5 y6) (numeraryref11_First.j0 (k + 1) y0 y1 y2 y3 y4 y5 y6)) ∧ (∀ y0 y1 y2 y3 y4 y5 y6 y7, LeO (numeraryref11_First.l0 k y0 y1 y2 y3 y4 y5 y6 y7) (numeraryref11_First.l0 (k + 1) y0 y1 y2 y3 y4 y5 y6 y7)) ∧ (∀ y0 y1 y2 y3 y4 y5 y6, LeO (numeraryref11_First.j2 k y0 y1 y2 y3 y4 y5 y6) (numeraryref11_First.j2 (k + 1) y0 y1 y2 y3 y4 y5 y6)) ∧ (∀ y0 y1, LeO (numeraryref11_First.l1 k y0 y1) (numeraryref11_First.l1 (k + 1) y0 y1))
  | 0 => ⟨fun _ _ _ _ _ _ _ r h => by simp [numeraryref11_First.j0] at h, fun _ _ _ _ _ _ _ _ r h => by simp [numeraryref11_First.l0] at h, fun _ _ _ _ _ _ _ r h => by simp [numeraryref11_First.j2] at h, fun _ _ r h => by simp [numeraryref11_First.l1] at h⟩
  | k + 1 => by
   obtain ⟨ih0, ih1, ih2, ih3⟩ := numeraryref11_First.mono_l k
   refine ⟨?_, ?_, ?_, ?_⟩
   ·
    intro y0 y1 y2 y3 y4 y5 y6
    unfold numeraryref11_First.j0
    repeat' first
    | (with_reducible exact ih0 _ _ _ _ _ _ _)
    | (with_reducible exact ih1 _ _ _ _ _ _ _ _)
    | (with_reducible exact ih2 _ _ _ _ _ _ _)
    | (with_reducible exact ih3 _ _)
    | (with_reducible exact numeraryref01_First.mono _ _)
    | (with_reducible exact numeraryref11_closed.mono _ _ _ _ _)
    | (with_reducible exact numeraryref11_has.mono _ _ _)
    | (with_reducible exact numeraryref11_marked.mono _ _ _ _)
    | (with_reducible exact LeO.refl _)
    | (with_reducible exact LeO.none _)
    | (with_reducible refine LeO.ite ?_ ?_)
    | (with_reducible refine LeO.bind ?_ (fun _ => ?_))
    | exact ih0 _ _ _ _ _ _ _
    | exact ih1 _ _ _ _ _ _ _ _
    | exact ih2 _ _ _ _ _ _ _
    | exact ih3 _ _
    | exact numeraryref01_First.mono _ _
    | exact numeraryref11_closed.mono _ _ _ _ _
    | exact numeraryref11_has.mono _ _ _
    | exact numeraryref11_marked.mono _ _ _ _
    | exact LeO.none _
    | refine LeO.ite ?_ ?_
    | refine LeO.bind ?_ (fun _ => ?_)
   ·
    intro y0 y1 y2 y3 y4 y5 y6 y7
    unfold numeraryref11_First.l0
    repeat' first
    | (with_reducible exact ih0 _ _ _ _ _ _ _)
    | (with_reducible exact ih1 _ _ _ _ _ _ _ _)
    | (with_reducible exact ih2 _ _ _ _ _ _ _)
    | (with_reducible exact ih3 _ _)
    | (with_reducible exact numeraryref01_First.mono _ _)
    | (with_reducible exact numeraryref11_closed.mono _ _ _ _ _)
    | (with_reducible exact numeraryref11_has.mono _ _ _)
    | (with_reducible exact numeraryref11_marked.mono _ _ _ _)
    | (with_reducible exact LeO.refl _)
    | (with_reducible exact LeO.none _)
    | (with_reducible refine LeO.ite ?_ ?_)
    | (with_reducible refine LeO.bind ?_ (fun _ => ?_))
    | exact ih0 _ _ _ _ _ _ _
    | exact ih1 _ _ _ _ _ _ _ _
    | exact ih2 _ _ _ _ _ _ _
    | exact ih3 _ _
    | exact numeraryref01_First.mono _ _
    | exact numeraryref11_closed.mono _ _ _ _ _
    | exact numeraryref11_has.mono _ _ _
    | exact numeraryref11_marked.mono _ _ _ _
    | exact LeO.none _
    | refine LeO.ite ?_ ?_
    | refine LeO.bind ?_ (fun _ => ?_)
   ·
    intro y0 y1 y2 y3 y4 y5 y6
    unfold numeraryref11_First.j2
    repeat' first
    | (with_reducible exact ih0 _ _ _ _ _ _ _)
    | (with_reducible exact ih1 _ _ _ _ _ _ _ _)
    | (with_reducible exact ih2 _ _ _ _ _ _ _)
    | (with_reducible exact ih3 _ _)
    | (with_reducible exact numeraryref01_First.mono _ _)
    | (with_reducible exact numeraryref11_closed.mono _ _ _ _ _)
    | (with_reducible exact numeraryref11_has.mono _ _ _)
    | (with_reducible exact numeraryref11_marked.mono _ _ _ _)
    | (with_reducible exact LeO.refl _)
    | (with_reducible exact LeO.none _)
    | (with_reducible refine LeO.ite ?_ ?_)
    | (with_reducible refine LeO.bind ?_ (fun _ => ?_))
    | exact ih0 _ _ _ _ _ _ _
    | exact ih1 _ _ _ _ _ _ _ _
    | exact ih2 _ _ _ _ _ _ _
    | exact ih3 _ _
    | exact numeraryref01_First.mono _ _
    | exact numeraryref11_closed.mono _ _ _ _ _
    | exact numeraryref11_has.mono _ _ _
    | exact numeraryref11_marked.mono _ _ _ _
    | exact LeO.none _
    | refine LeO.ite ?_ ?_
    | refine LeO.bind ?_ (fun _ => ?_)
   ·
    intro y0 y1
    unfold numeraryref11_First.l1
    repeat' first
    | (with_reducible exact ih0 _ _ _ _ _ _ _)
    | (with_reducible exact ih1 _ _ _ _ _ _ _ _)
    | (with_reducible exact ih2 _ _ _ _ _ _ _)
    | (with_reducible exact ih3 _ _)
    | (with_reducible exact numeraryref01_First.mono _ _)
    | (with_reducible exact numeraryref11_closed.mono _ _ _ _ _)
    | (with_reducible exact numeraryref11_has.mono _ _ _)
    | (with_reducible exact numeraryref11_marked.mono _ _ _ _)
    | (with_reducible exact LeO.refl _)
    | (with_reducible exact LeO.none _)
    | (with_reducible refine LeO.ite ?_ ?_)
    | (with_reducible refine LeO.bind ?_ (fun _ => ?_))
    | exact ih0 _ _ _ _ _ _ _
    | exact ih1 _ _ _ _ _ _ _ _
    | exact ih2 _ _ _ _ _ _ _
    | exact ih3 _ _
    | exact numeraryref01_First.mono _ _
    | exact numeraryref11_closed.mono _ _ _ _ _
    | exact numeraryref11_has.mono _ _ _
    | exact numeraryref11_marked.mono _ _ _ _
    | exact LeO.none _
    | refine LeO.ite ?_ ?_
    | refine LeO.bind ?_ (fun _ => ?_)
theorem numeraryref11_First.mono : ∀ a0 k, LeO (numeraryref11_First.f k a0) (numeraryref11_First.f (k + 1) a0) := by
  intro a0 k
  obtain ⟨ih0, ih1, ih2, ih3⟩ := numeraryref11_First.mono_l k
  unfold numeraryref11_First.f
  repeat' first
    | (with_reducible exact ih0 _ _ _ _ _ _ _)
    | (with_reducible exact ih1 _ _ _ _ _ _ _ _)
    | (with_reducible exact ih2 _ _ _ _ _ _ _)
    | (with_reducible exact ih3 _ _)
    | (with_reducible exact numeraryref01_First.mono _ _)
    | (with_reducible exact numeraryref11_closed.mono _ _ _ _ _)
    | (with_reducible exact numeraryref11_has.mono _ _ _)
    | (with_reducible exact numeraryref11_marked.mono _ _ _ _)
    | (with_reducible exact LeO.refl _)
    | (with_reducible exact LeO.none _)
    | (with_reducible refine LeO.ite ?_ ?_)
    | (with_reducible refine LeO.bind ?_ (fun _ => ?_))
    | exact ih0 _ _ _ _ _ _ _
    | exact ih1 _ _ _ _ _ _ _ _
    | exact ih2 _ _ _ _ _ _ _
    | exact ih3 _ _
    | exact numeraryref01_First.mono _ _
    | exact numeraryref11_closed.mono _ _ _ _ _
    | exact numeraryref11_has.mono _ _ _
    | exact numeraryref11_marked.mono _ _ _ _
    | exact LeO.none _
    | refine LeO.ite ?_ ?_
    | refine LeO.bind ?_ (fun _ => ?_)
set_option maxHeartbeats 8000000 in
set_option maxRecDepth 100000 in
theorem numeraryref11_First.calls (k : Nat) (a0 : ByteArray) (r1 : Int) (r2 : ByteArray) (r3 : Int) (r4 : Int) (r5 : Int) (r6 : Int) (r7 : Int) (w : World) (h : numeraryref11_First.f k a0 = some (r1, r2, r3, r4, r5, r6, r7)) :
   Calls Tryz.prog 52 #[.string a0] w fun e w' => e = .returned (.tuple #[.agg #[.int .i64 r1, .string r2, .int .i64 r3, .int .i64 r4], .int .i64 r5, .int .i64 r6, .int .i64 r7]) ∧ Below w.heap.size w w' := by
  have hu75 := Tryz.underlying75
  have HB := Aside0.mk (Below.refl w.heap.size w)
  have H : (if 0 < (a0.size : Int) then (if (bt a0 0) = 34 then ((numeraryref11_closed.f k a0 1 34 5).bind fun bt128 => (some (bt128.1, bt128.2.1, bt128.2.2.1, bt128.2.2.2.1, bt128.2.2.2.2.1, bt128.2.2.2.2.2.1, bt128.2.2.2.2.2.2))) else (if (bt a0 0) = 92 then ((numeraryref11_marked.f k a0 2 6).bind fun bt135 => (some (bt135.1, bt135.2.1, bt135.2.2.1, bt135.2.2.2.1, bt135.2.2.2.2.1, bt135.2.2.2.2.2.1, bt135.2.2.2.2.2.2))) else (if (bt a0 0) = 95 then ((numeraryref11_marked.f k a0 3 8).bind fun bt142 => (some (bt142.1, bt142.2.1, bt142.2.2.1, bt142.2.2.2.1, bt142.2.2.2.2.1, bt142.2.2.2.2.2.1, bt142.2.2.2.2.2.2))) else (if (bt a0 0) = 42 then ((numeraryref11_marked.f k a0 4 8).bind fun bt149 => (some (bt149.1, bt149.2.1, bt149.2.2.1, bt149.2.2.2.1, bt149.2.2.2.2.1, bt149.2.2.2.2.2.1, bt149.2.2.2.2.2.2))) else (if (bt a0 0) = 91 then ((numeraryref11_closed.f k a0 5 93 7).bind fun bt156 => (some (bt156.1, bt156.2.1, bt156.2.2.1, bt156.2.2.2.1, bt156.2.2.2.2.1, bt156.2.2.2.2.2.1, bt156.2.2.2.2.2.2))) else (if (bt a0 0) = 48 then (numeraryref11_First.j0 k a0 (bt a0 0) true 0 (⟨#[]⟩ : ByteArray) 0 0) else (if (bt a0 0) = 35 then (numeraryref11_First.j0 k a0 (bt a0 0) true 0 (⟨#[]⟩ : ByteArray) 0 0) else (numeraryref11_First.j0 k a0 (bt a0 0) ((bt a0 0) == 63) 0 (⟨#[]⟩ : ByteArray) 0 0)))))))) else (none)) = some (r1, r2, r3, r4, r5, r6, r7) := h
  clear h
  by_cases c2 : 0 < (a0.size : Int)
  ·
   rw [if_pos c2] at H
   have c2b0 : decide (0 < (a0.size : Int)) = true := decide_eq_true c2
   have c2b1 : decide (0 < a0.size) = true := decide_eq_true (by omega)
   clear c2
   by_cases c4 : (bt a0 0) = 34
   ·
    rw [if_pos c4] at H
    have c4b0 : ((bt a0 0) == 34) = true := beq_iff_eq.mpr c4
    have c4b1 : ((bt a0 0) != 34) = false := bne_eq_false_iff_eq.mpr c4
    clear c4
    replace H := Option.bind_eq_some_iff.mp H
    obtain ⟨⟨t128, t129, t130, t131, t132, t133, t134⟩, A50, H⟩ := H
    replace H : (some (t128, t129, t130, t131, t132, t133, t134)) = some (r1, r2, r3, r4, r5, r6, r7) := H
    have A5 := Aside0.mk A50
    clear A50
    simp only [Option.some.injEq, Prod.mk.injEq] at H
    obtain ⟨rfl, rfl, rfl, rfl, rfl, rfl, rfl⟩ := H
    go_enter Tryz.func52, Tryz.ntmps52
    go_wp2_with (first | ((with_reducible refine gate_dst (N := 2) rfl ?_); refine box_event ?hg (N := 2) ?hd (cs := #[.int .i64 0, .string (⟨#[]⟩ : ByteArray), .int .i64 0, .int .i64 0]) (t := 75) ?hr ?_; (case hd => rfl); (case hg => rfl); (case hr => first | (go_simp; done) | (go_simp; rfl)); intro gb126 hg w6 hbox hb; have n0_ := Aside0.mk (below_step bl_ hb); have n1_ := Aside0.mk (hbox); have n2_ := Aside0.mk ((by rw [hg]; exact (below_size bl_) : w.heap.size ≤ gb126)); have n3_ := Aside0.mk ((by rw [hg]; exact (below_size bl_) : w.heap.size ≤ gb126)); clear HB; have HB := n0_; have BK126 := n1_; have GW126 := n2_; have GE126 := n3_; clear n0_ n1_ n2_ n3_; clear hb hbox hg) | ((with_reducible refine gate_dst (N := 6) rfl ?_); refine box_event ?hg (N := 6) ?hd (cs := #[.int .i64 0, .string (⟨#[]⟩ : ByteArray), .int .i64 0, .int .i64 0]) (t := 75) ?hr ?_; (case hd => rfl); (case hg => rfl); (case hr => first | (go_simp; done) | (go_simp; rfl)); intro gb127 hg w7 hbox hb; have n0_ := Aside0.mk (blk_below (g := gb126) (o := .cells #[.int .i64 0, .string (⟨#[]⟩ : ByteArray), .int .i64 0, .int .i64 0] 75 (0, 0)) (by (with_reducible repeat (first | refine blk_drewN ?_ _ | refine blk_drew ?_ | refine blk_alloc ?_ _)); exact BK126.out) hb); have n1_ := Aside0.mk (below_step (by repeat (first | (with_reducible first | exact HB.out | apply below_alloc | apply pw_below_drewN | apply below_drew1 | refine below_set ?_ GE126.out) | exact HB.out)) hb); have n2_ := Aside0.mk (hbox); have n3_ := Aside0.mk ((by rw [hg]; exact (below_size (by repeat (first | (with_reducible first | exact HB.out | apply below_alloc | apply pw_below_drewN | apply below_drew1 | refine below_set ?_ GE126.out) | exact HB.out))) : w.heap.size ≤ gb127)); have n4_ := Aside0.mk ((by rw [hg]; exact (below_size (by repeat (first | (with_reducible first | exact HB.out | apply below_alloc | apply pw_below_drewN | apply below_drew1 | refine below_set ?_ GE126.out) | exact HB.out))) : w.heap.size ≤ gb127)); have n5_ := Aside0.mk ((by rw [hg]; exact Nat.ne_of_lt (blk_lt (g := gb126) (o := .cells #[.int .i64 0, .string (⟨#[]⟩ : ByteArray), .int .i64 0, .int .i64 0] 75 (0, 0)) (by (with_reducible repeat (first | refine blk_drewN ?_ _ | refine blk_drew ?_ | refine blk_alloc ?_ _)); exact BK126.out)) : gb126 ≠ gb127)); have n6_ := Aside0.mk ((by rw [hg]; exact Nat.ne_of_gt (blk_lt (g := gb126) (o := .cells #[.int .i64 0, .string (⟨#[]⟩ : ByteArray), .int .i64 0, .int .i64 0] 75 (0, 0)) (by (with_reducible repeat (first | refine blk_drewN ?_ _ | refine blk_drew ?_ | refine blk_alloc ?_ _)); exact BK126.out)) : gb127 ≠ gb126)); clear BK126; clear HB; have BK126 := n0_; have HB := n1_; have BK127 := n2_; have GW127 := n3_; have GE127 := n4_; have NB126_127 := n5_; have NB127_126 := n6_; clear n0_ n1_ n2_ n3_ n4_ n5_ n6_; clear hb hbox hg; have hnb8 := NB127_126.out; have hnc8 := NB126_127.out; have hcz9_0 : w7.cell? ⟨gb127, 0, none⟩ = some (.int .i64 0) := (blk_cell BK127.out 0).trans rfl; have hcz9_1 : w7.cell? ⟨gb127, 1, none⟩ = some (.string (⟨#[]⟩ : ByteArray)) := (blk_cell BK127.out 1).trans rfl; have hcz9_2 : w7.cell? ⟨gb127, 2, none⟩ = some (.int .i64 0) := (blk_cell BK127.out 2).trans rfl; have hcz9_3 : w7.cell? ⟨gb127, 3, none⟩ = some (.int .i64 0) := (blk_cell BK127.out 3).trans rfl; have hfz9_0 := blk_frozen BK127.out 0; have hfz9_1 := blk_frozen BK127.out 1; have hfz9_2 := blk_frozen BK127.out 2; have hfz9_3 := blk_frozen BK127.out 3; have p3 : 0 ≤ (0 : Int) := (by omega); have q3 : 0 < a0.size := (by have : (0 : Int) < (a0.size : Int) := of_decide_eq_true (by first | (with_reducible assumption) | assumption); omega); have hx3 : ∀ h : 0 < a0.size, ((a0[0]'h).toNat : Int) = bt a0 0 := bt_at a0 0; clear p3; have qi3 : (0 < (a0.size : Int)) = True := eq_true (of_decide_eq_true (by first | (with_reducible assumption) | assumption)); replace q3 := eq_true q3) | (go_at_call 75; (with_reducible refine (numeraryref11_closed.calls k a0 1 34 5 t128 t129 t130 t131 t132 t133 t134 _ A5.out).mono ?_); rintro e w10 ⟨rfl, hb⟩; have n0_ := Aside0.mk (blk_below (g := gb126) (o := .cells #[.int .i64 0, .string (⟨#[]⟩ : ByteArray), .int .i64 0, .int .i64 0] 75 (0, 0)) (by (with_reducible repeat (first | refine blk_drewN ?_ _ | refine blk_drew ?_ | refine blk_alloc ?_ _)); refine blk_far ?_ NB126_127.out _; (with_reducible repeat (first | refine blk_drewN ?_ _ | refine blk_drew ?_ | refine blk_alloc ?_ _)); refine blk_far ?_ NB126_127.out _; (with_reducible repeat (first | refine blk_drewN ?_ _ | refine blk_drew ?_ | refine blk_alloc ?_ _)); refine blk_far ?_ NB126_127.out _; (with_reducible repeat (first | refine blk_drewN ?_ _ | refine blk_drew ?_ | refine blk_alloc ?_ _)); refine blk_far ?_ NB126_127.out _; (with_reducible repeat (first | refine blk_drewN ?_ _ | refine blk_drew ?_ | refine blk_alloc ?_ _)); exact BK126.out) hb); have n1_ := Aside0.mk (blk_below (g := gb127) (o := .cells #[.int .i64 0, .string (⟨#[]⟩ : ByteArray), .int .i64 0, .int .i64 0] 75 (0, 0)) (by (with_reducible repeat (first | refine blk_drewN ?_ _ | refine blk_drew ?_ | refine blk_alloc ?_ _)); refine blk_put (cs := #[.int .i64 0, .string (⟨#[]⟩ : ByteArray), .int .i64 0, .int .i64 0]) ?_ 3 _ rfl; (with_reducible repeat (first | refine blk_drewN ?_ _ | refine blk_drew ?_ | refine blk_alloc ?_ _)); refine blk_put (cs := #[.int .i64 0, .string (⟨#[]⟩ : ByteArray), .int .i64 0, .int .i64 0]) ?_ 2 _ rfl; (with_reducible repeat (first | refine blk_drewN ?_ _ | refine blk_drew ?_ | refine blk_alloc ?_ _)); refine blk_put (cs := #[.int .i64 0, .string (⟨#[]⟩ : ByteArray), .int .i64 0, .int .i64 0]) ?_ 1 _ rfl; (with_reducible repeat (first | refine blk_drewN ?_ _ | refine blk_drew ?_ | refine blk_alloc ?_ _)); refine blk_put (cs := #[.int .i64 0, .string (⟨#[]⟩ : ByteArray), .int .i64 0, .int .i64 0]) ?_ 0 _ rfl; (with_reducible repeat (first | refine blk_drewN ?_ _ | refine blk_drew ?_ | refine blk_alloc ?_ _)); exact BK127.out) hb); have n2_ := Aside0.mk (below_step (by repeat (first | (with_reducible first | exact HB.out | apply below_alloc | apply pw_below_drewN | apply below_drew1 | refine below_set ?_ GE126.out | refine below_set ?_ GE127.out) | exact HB.out)) hb); clear BK126; clear BK127; clear HB; have BK126 := n0_; have BK127 := n1_; have HB := n2_; clear n0_ n1_ n2_; (try clear hb); (try clear hb2); (try clear hk); (try clear hi); have hcz11_0 : w10.cell? ⟨gb126, 0, none⟩ = some (.int .i64 0) := (blk_cell BK126.out 0).trans rfl; have hcz11_1 : w10.cell? ⟨gb126, 1, none⟩ = some (.string (⟨#[]⟩ : ByteArray)) := (blk_cell BK126.out 1).trans rfl; have hcz11_2 : w10.cell? ⟨gb126, 2, none⟩ = some (.int .i64 0) := (blk_cell BK126.out 2).trans rfl; have hcz11_3 : w10.cell? ⟨gb126, 3, none⟩ = some (.int .i64 0) := (blk_cell BK126.out 3).trans rfl; have hfz11_0 := blk_frozen BK126.out 0; have hfz11_1 := blk_frozen BK126.out 1; have hfz11_2 := blk_frozen BK126.out 2; have hfz11_3 := blk_frozen BK126.out 3))
    refine bodyPost_ret (results_list (rs := [.cell 2 75, .tmp 3, .tmp 4, .tmp 5]) rfl (by simp) (.cell gb126 75 #[.int .i64 t128, .string t129, .int .i64 t130, .int .i64 t131] (0, 0) _ rfl (by (with_reducible repeat (first | refine blk_drewN ?_ _ | refine blk_drew ?_ | refine blk_alloc ?_ _)); refine blk_put (cs := #[.int .i64 t128, .string t129, .int .i64 t130, .int .i64 0]) ?_ 3 _ rfl; (with_reducible repeat (first | refine blk_drewN ?_ _ | refine blk_drew ?_ | refine blk_alloc ?_ _)); refine blk_put (cs := #[.int .i64 t128, .string t129, .int .i64 0, .int .i64 0]) ?_ 2 _ rfl; (with_reducible repeat (first | refine blk_drewN ?_ _ | refine blk_drew ?_ | refine blk_alloc ?_ _)); refine blk_put (cs := #[.int .i64 t128, .string (⟨#[]⟩ : ByteArray), .int .i64 0, .int .i64 0]) ?_ 1 _ rfl; (with_reducible repeat (first | refine blk_drewN ?_ _ | refine blk_drew ?_ | refine blk_alloc ?_ _)); refine blk_put (cs := #[.int .i64 0, .string (⟨#[]⟩ : ByteArray), .int .i64 0, .int .i64 0]) ?_ 0 _ rfl; (with_reducible repeat (first | refine blk_drewN ?_ _ | refine blk_drew ?_ | refine blk_alloc ?_ _)); exact BK126.out) Tryz.underlying75 rfl (by kernel_rfl) (.tmp (.tmp (.tmp .nil))))) rfl ?_
    exact ⟨by first | rfl | (simp [errW_none, errW_some] <;> rfl) | (simp [*, errW_none, errW_some] <;> rfl), by repeat (first | (with_reducible first | exact HB.out | apply below_alloc | apply pw_below_drewN | apply below_drew1 | refine below_set ?_ GE126.out | refine below_set ?_ GE127.out) | exact HB.out)⟩
   ·
    rw [if_neg c4] at H
    have c4b0 : ((bt a0 0) == 34) = false := beq_eq_false_iff_ne.mpr c4
    have c4b1 : ((bt a0 0) != 34) = true := bne_iff_ne.mpr c4
    by_cases c12 : (bt a0 0) = 92
    ·
     rw [if_pos c12] at H
     have c12b0 : ((bt a0 0) == 92) = true := beq_iff_eq.mpr c12
     have c12b1 : ((bt a0 0) != 92) = false := bne_eq_false_iff_eq.mpr c12
     clear c12
     replace H := Option.bind_eq_some_iff.mp H
     obtain ⟨⟨t135, t136, t137, t138, t139, t140, t141⟩, A130, H⟩ := H
     replace H : (some (t135, t136, t137, t138, t139, t140, t141)) = some (r1, r2, r3, r4, r5, r6, r7) := H
     have A13 := Aside0.mk A130
     clear A130
     simp only [Option.some.injEq, Prod.mk.injEq] at H
     obtain ⟨rfl, rfl, rfl, rfl, rfl, rfl, rfl⟩ := H
     go_enter Tryz.func52, Tryz.ntmps52
     go_wp2_with (first | ((with_reducible refine gate_dst (N := 2) rfl ?_); refine box_event ?hg (N := 2) ?hd (cs := #[.int .i64 0, .string (⟨#[]⟩ : ByteArray), .int .i64 0, .int .i64 0]) (t := 75) ?hr ?_; (case hd => rfl); (case hg => rfl); (case hr => first | (go_simp; done) | (go_simp; rfl)); intro gb126 hg w14 hbox hb; have n0_ := Aside0.mk (below_step bl_ hb); have n1_ := Aside0.mk (hbox); have n2_ := Aside0.mk ((by rw [hg]; exact (below_size bl_) : w.heap.size ≤ gb126)); have n3_ := Aside0.mk ((by rw [hg]; exact (below_size bl_) : w.heap.size ≤ gb126)); clear HB; have HB := n0_; have BK126 := n1_; have GW126 := n2_; have GE126 := n3_; clear n0_ n1_ n2_ n3_; clear hb hbox hg) | ((with_reducible refine gate_dst (N := 6) rfl ?_); refine box_event ?hg (N := 6) ?hd (cs := #[.int .i64 0, .string (⟨#[]⟩ : ByteArray), .int .i64 0, .int .i64 0]) (t := 75) ?hr ?_; (case hd => rfl); (case hg => rfl); (case hr => first | (go_simp; done) | (go_simp; rfl)); intro gb127 hg w15 hbox hb; have n0_ := Aside0.mk (blk_below (g := gb126) (o := .cells #[.int .i64 0, .string (⟨#[]⟩ : ByteArray), .int .i64 0, .int .i64 0] 75 (0, 0)) (by (with_reducible repeat (first | refine blk_drewN ?_ _ | refine blk_drew ?_ | refine blk_alloc ?_ _)); exact BK126.out) hb); have n1_ := Aside0.mk (below_step (by repeat (first | (with_reducible first | exact HB.out | apply below_alloc | apply pw_below_drewN | apply below_drew1 | refine below_set ?_ GE126.out) | exact HB.out)) hb); have n2_ := Aside0.mk (hbox); have n3_ := Aside0.mk ((by rw [hg]; exact (below_size (by repeat (first | (with_reducible first | exact HB.out | apply below_alloc | apply pw_below_drewN | apply below_drew1 | refine below_set ?_ GE126.out) | exact HB.out))) : w.heap.size ≤ gb127)); have n4_ := Aside0.mk ((by rw [hg]; exact (below_size (by repeat (first | (with_reducible first | exact HB.out | apply below_alloc | apply pw_below_drewN | apply below_drew1 | refine below_set ?_ GE126.out) | exact HB.out))) : w.heap.size ≤ gb127)); have n5_ := Aside0.mk ((by rw [hg]; exact Nat.ne_of_lt (blk_lt (g := gb126) (o := .cells #[.int .i64 0, .string (⟨#[]⟩ : ByteArray), .int .i64 0, .int .i64 0] 75 (0, 0)) (by (with_reducible repeat (first | refine blk_drewN ?_ _ | refine blk_drew ?_ | refine blk_alloc ?_ _)); exact BK126.out)) : gb126 ≠ gb127)); have n6_ := Aside0.mk ((by rw [hg]; exact Nat.ne_of_gt (blk_lt (g := gb126) (o := .cells #[.int .i64 0, .string (⟨#[]⟩ : ByteArray), .int .i64 0, .int .i64 0] 75 (0, 0)) (by (with_reducible repeat (first | refine blk_drewN ?_ _ | refine blk_drew ?_ | refine blk_alloc ?_ _)); exact BK126.out)) : gb127 ≠ gb126)); clear BK126; clear HB; have BK126 := n0_; have HB := n1_; have BK127 := n2_; have GW127 := n3_; have GE127 := n4_; have NB126_127 := n5_; have NB127_126 := n6_; clear n0_ n1_ n2_ n3_ n4_ n5_ n6_; clear hb hbox hg; have hnb16 := NB127_126.out; have hnc16 := NB126_127.out; have hcz17_0 : w15.cell? ⟨gb127, 0, none⟩ = some (.int .i64 0) := (blk_cell BK127.out 0).trans rfl; have hcz17_1 : w15.cell? ⟨gb127, 1, none⟩ = some (.string (⟨#[]⟩ : ByteArray)) := (blk_cell BK127.out 1).trans rfl; have hcz17_2 : w15.cell? ⟨gb127, 2, none⟩ = some (.int .i64 0) := (blk_cell BK127.out 2).trans rfl; have hcz17_3 : w15.cell? ⟨gb127, 3, none⟩ = some (.int .i64 0) := (blk_cell BK127.out 3).trans rfl; have hfz17_0 := blk_frozen BK127.out 0; have hfz17_1 := blk_frozen BK127.out 1; have hfz17_2 := blk_frozen BK127.out 2; have hfz17_3 := blk_frozen BK127.out 3; have p3 : 0 ≤ (0 : Int) := (by omega); have q3 : 0 < a0.size := (by have : (0 : Int) < (a0.size : Int) := of_decide_eq_true (by first | (with_reducible assumption) | assumption); omega); have hx3 : ∀ h : 0 < a0.size, ((a0[0]'h).toNat : Int) = bt a0 0 := bt_at a0 0; clear p3; have qi3 : (0 < (a0.size : Int)) = True := eq_true (of_decide_eq_true (by first | (with_reducible assumption) | assumption)); replace q3 := eq_true q3) | (go_at_call 76; (with_reducible refine (numeraryref11_marked.calls k a0 2 6 t135 t136 t137 t138 t139 t140 t141 _ A13.out).mono ?_); rintro e w18 ⟨rfl, hb⟩; have n0_ := Aside0.mk (blk_below (g := gb126) (o := .cells #[.int .i64 0, .string (⟨#[]⟩ : ByteArray), .int .i64 0, .int .i64 0] 75 (0, 0)) (by (with_reducible repeat (first | refine blk_drewN ?_ _ | refine blk_drew ?_ | refine blk_alloc ?_ _)); refine blk_far ?_ NB126_127.out _; (with_reducible repeat (first | refine blk_drewN ?_ _ | refine blk_drew ?_ | refine blk_alloc ?_ _)); refine blk_far ?_ NB126_127.out _; (with_reducible repeat (first | refine blk_drewN ?_ _ | refine blk_drew ?_ | refine blk_alloc ?_ _)); refine blk_far ?_ NB126_127.out _; (with_reducible repeat (first | refine blk_drewN ?_ _ | refine blk_drew ?_ | refine blk_alloc ?_ _)); refine blk_far ?_ NB126_127.out _; (with_reducible repeat (first | refine blk_drewN ?_ _ | refine blk_drew ?_ | refine blk_alloc ?_ _)); exact BK126.out) hb); have n1_ := Aside0.mk (blk_below (g := gb127) (o := .cells #[.int .i64 0, .string (⟨#[]⟩ : ByteArray), .int .i64 0, .int .i64 0] 75 (0, 0)) (by (with_reducible repeat (first | refine blk_drewN ?_ _ | refine blk_drew ?_ | refine blk_alloc ?_ _)); refine blk_put (cs := #[.int .i64 0, .string (⟨#[]⟩ : ByteArray), .int .i64 0, .int .i64 0]) ?_ 3 _ rfl; (with_reducible repeat (first | refine blk_drewN ?_ _ | refine blk_drew ?_ | refine blk_alloc ?_ _)); refine blk_put (cs := #[.int .i64 0, .string (⟨#[]⟩ : ByteArray), .int .i64 0, .int .i64 0]) ?_ 2 _ rfl; (with_reducible repeat (first | refine blk_drewN ?_ _ | refine blk_drew ?_ | refine blk_alloc ?_ _)); refine blk_put (cs := #[.int .i64 0, .string (⟨#[]⟩ : ByteArray), .int .i64 0, .int .i64 0]) ?_ 1 _ rfl; (with_reducible repeat (first | refine blk_drewN ?_ _ | refine blk_drew ?_ | refine blk_alloc ?_ _)); refine blk_put (cs := #[.int .i64 0, .string (⟨#[]⟩ : ByteArray), .int .i64 0, .int .i64 0]) ?_ 0 _ rfl; (with_reducible repeat (first | refine blk_drewN ?_ _ | refine blk_drew ?_ | refine blk_alloc ?_ _)); exact BK127.out) hb); have n2_ := Aside0.mk (below_step (by repeat (first | (with_reducible first | exact HB.out | apply below_alloc | apply pw_below_drewN | apply below_drew1 | refine below_set ?_ GE126.out | refine below_set ?_ GE127.out) | exact HB.out)) hb); clear BK126; clear BK127; clear HB; have BK126 := n0_; have BK127 := n1_; have HB := n2_; clear n0_ n1_ n2_; (try clear hb); (try clear hb2); (try clear hk); (try clear hi); have hcz19_0 : w18.cell? ⟨gb126, 0, none⟩ = some (.int .i64 0) := (blk_cell BK126.out 0).trans rfl; have hcz19_1 : w18.cell? ⟨gb126, 1, none⟩ = some (.string (⟨#[]⟩ : ByteArray)) := (blk_cell BK126.out 1).trans rfl; have hcz19_2 : w18.cell? ⟨gb126, 2, none⟩ = some (.int .i64 0) := (blk_cell BK126.out 2).trans rfl; have hcz19_3 : w18.cell? ⟨gb126, 3, none⟩ = some (.int .i64 0) := (blk_cell BK126.out 3).trans rfl; have hfz19_0 := blk_frozen BK126.out 0; have hfz19_1 := blk_frozen BK126.out 1; have hfz19_2 := blk_frozen BK126.out 2; have hfz19_3 := blk_frozen BK126.out 3))
     refine bodyPost_ret (results_list (rs := [.cell 2 75, .tmp 3, .tmp 4, .tmp 5]) rfl (by simp) (.cell gb126 75 #[.int .i64 t135, .string t136, .int .i64 t137, .int .i64 t138] (0, 0) _ rfl (by (with_reducible repeat (first | refine blk_drewN ?_ _ | refine blk_drew ?_ | refine blk_alloc ?_ _)); refine blk_put (cs := #[.int .i64 t135, .string t136, .int .i64 t137, .int .i64 0]) ?_ 3 _ rfl; (with_reducible repeat (first | refine blk_drewN ?_ _ | refine blk_drew ?_ | refine blk_alloc ?_ _)); refine blk_put (cs := #[.int .i64 t135, .string t136, .int .i64 0, .int .i64 0]) ?_ 2 _ rfl; (with_reducible repeat (first | refine blk_drewN ?_ _ | refine blk_drew ?_ | refine blk_alloc ?_ _)); refine blk_put (cs := #[.int .i64 t135, .string (⟨#[]⟩ : ByteArray), .int .i64 0, .int .i64 0]) ?_ 1 _ rfl; (with_reducible repeat (first | refine blk_drewN ?_ _ | refine blk_drew ?_ | refine blk_alloc ?_ _)); refine blk_put (cs := #[.int .i64 0, .string (⟨#[]⟩ : ByteArray), .int .i64 0, .int .i64 0]) ?_ 0 _ rfl; (with_reducible repeat (first | refine blk_drewN ?_ _ | refine blk_drew ?_ | refine blk_alloc ?_ _)); exact BK126.out) Tryz.underlying75 rfl (by kernel_rfl) (.tmp (.tmp (.tmp .nil))))) rfl ?_
     exact ⟨by first | rfl | (simp [errW_none, errW_some] <;> rfl) | (simp [*, errW_none, errW_some] <;> rfl), by repeat (first | (with_reducible first | exact HB.out | apply below_alloc | apply pw_below_drewN | apply below_drew1 | refine below_set ?_ GE126.out | refine below_set ?_ GE127.out) | exact HB.out)⟩
    ·
     rw [if_neg c12] at H
     have c12b0 : ((bt a0 0) == 92) = false := beq_eq_false_iff_ne.mpr c12
     have c12b1 : ((bt a0 0) != 92) = true := bne_iff_ne.mpr c12
     by_cases c20 : (bt a0 0) = 95
     ·
      rw [if_pos c20] at H
      have c20b0 : ((bt a0 0) == 95) = true := beq_iff_eq.mpr c20
      have c20b1 : ((bt a0 0) != 95) = false := bne_eq_false_iff_eq.mpr c20
      clear c20
      replace H := Option.bind_eq_some_iff.mp H
      obtain ⟨⟨t142, t143, t144, t145, t146, t147, t148⟩, A210, H⟩ := H
      replace H : (some (t142, t143, t144, t145, t146, t147, t148)) = some (r1, r2, r3, r4, r5, r6, r7) := H
      have A21 := Aside0.mk A210
      clear A210
      simp only [Option.some.injEq, Prod.mk.injEq] at H
      obtain ⟨rfl, rfl, rfl, rfl, rfl, rfl, rfl⟩ := H
      go_enter Tryz.func52, Tryz.ntmps52
      go_wp2_with (first | ((with_reducible refine gate_dst (N := 2) rfl ?_); refine box_event ?hg (N := 2) ?hd (cs := #[.int .i64 0, .string (⟨#[]⟩ : ByteArray), .int .i64 0, .int .i64 0]) (t := 75) ?hr ?_; (case hd => rfl); (case hg => rfl); (case hr => first | (go_simp; done) | (go_simp; rfl)); intro gb126 hg w22 hbox hb; have n0_ := Aside0.mk (below_step bl_ hb); have n1_ := Aside0.mk (hbox); have n2_ := Aside0.mk ((by rw [hg]; exact (below_size bl_) : w.heap.size ≤ gb126)); have n3_ := Aside0.mk ((by rw [hg]; exact (below_size bl_) : w.heap.size ≤ gb126)); clear HB; have HB := n0_; have BK126 := n1_; have GW126 := n2_; have GE126 := n3_; clear n0_ n1_ n2_ n3_; clear hb hbox hg) | ((with_reducible refine gate_dst (N := 6) rfl ?_); refine box_event ?hg (N := 6) ?hd (cs := #[.int .i64 0, .string (⟨#[]⟩ : ByteArray), .int .i64 0, .int .i64 0]) (t := 75) ?hr ?_; (case hd => rfl); (case hg => rfl); (case hr => first | (go_simp; done) | (go_simp; rfl)); intro gb127 hg w23 hbox hb; have n0_ := Aside0.mk (blk_below (g := gb126) (o := .cells #[.int .i64 0, .string (⟨#[]⟩ : ByteArray), .int .i64 0, .int .i64 0] 75 (0, 0)) (by (with_reducible repeat (first | refine blk_drewN ?_ _ | refine blk_drew ?_ | refine blk_alloc ?_ _)); exact BK126.out) hb); have n1_ := Aside0.mk (below_step (by repeat (first | (with_reducible first | exact HB.out | apply below_alloc | apply pw_below_drewN | apply below_drew1 | refine below_set ?_ GE126.out) | exact HB.out)) hb); have n2_ := Aside0.mk (hbox); have n3_ := Aside0.mk ((by rw [hg]; exact (below_size (by repeat (first | (with_reducible first | exact HB.out | apply below_alloc | apply pw_below_drewN | apply below_drew1 | refine below_set ?_ GE126.out) | exact HB.out))) : w.heap.size ≤ gb127)); have n4_ := Aside0.mk ((by rw [hg]; exact (below_size (by repeat (first | (with_reducible first | exact HB.out | apply below_alloc | apply pw_below_drewN | apply below_drew1 | refine below_set ?_ GE126.out) | exact HB.out))) : w.heap.size ≤ gb127)); have n5_ := Aside0.mk ((by rw [hg]; exact Nat.ne_of_lt (blk_lt (g := gb126) (o := .cells #[.int .i64 0, .string (⟨#[]⟩ : ByteArray), .int .i64 0, .int .i64 0] 75 (0, 0)) (by (with_reducible repeat (first | refine blk_drewN ?_ _ | refine blk_drew ?_ | refine blk_alloc ?_ _)); exact BK126.out)) : gb126 ≠ gb127)); have n6_ := Aside0.mk ((by rw [hg]; exact Nat.ne_of_gt (blk_lt (g := gb126) (o := .cells #[.int .i64 0, .string (⟨#[]⟩ : ByteArray), .int .i64 0, .int .i64 0] 75 (0, 0)) (by (with_reducible repeat (first | refine blk_drewN ?_ _ | refine blk_drew ?_ | refine blk_alloc ?_ _)); exact BK126.out)) : gb127 ≠ gb126)); clear BK126; clear HB; have BK126 := n0_; have HB := n1_; have BK127 := n2_; have GW127 := n3_; have GE127 := n4_; have NB126_127 := n5_; have NB127_126 := n6_; clear n0_ n1_ n2_ n3_ n4_ n5_ n6_; clear hb hbox hg; have hnb24 := NB127_126.out; have hnc24 := NB126_127.out; have hcz25_0 : w23.cell? ⟨gb127, 0, none⟩ = some (.int .i64 0) := (blk_cell BK127.out 0).trans rfl; have hcz25_1 : w23.cell? ⟨gb127, 1, none⟩ = some (.string (⟨#[]⟩ : ByteArray)) := (blk_cell BK127.out 1).trans rfl; have hcz25_2 : w23.cell? ⟨gb127, 2, none⟩ = some (.int .i64 0) := (blk_cell BK127.out 2).trans rfl; have hcz25_3 : w23.cell? ⟨gb127, 3, none⟩ = some (.int .i64 0) := (blk_cell BK127.out 3).trans rfl; have hfz25_0 := blk_frozen BK127.out 0; have hfz25_1 := blk_frozen BK127.out 1; have hfz25_2 := blk_frozen BK127.out 2; have hfz25_3 := blk_frozen BK127.out 3; have p3 : 0 ≤ (0 : Int) := (by omega); have q3 : 0 < a0.size := (by have : (0 : Int) < (a0.size : Int) := of_decide_eq_true (by first | (with_reducible assumption) | assumption); omega); have hx3 : ∀ h : 0 < a0.size, ((a0[0]'h).toNat : Int) = bt a0 0 := bt_at a0 0; clear p3; have qi3 : (0 < (a0.size : Int)) = True := eq_true (of_decide_eq_true (by first | (with_reducible assumption) | assumption)); replace q3 := eq_true q3) | (go_at_call 76; (with_reducible refine (numeraryref11_marked.calls k a0 3 8 t142 t143 t144 t145 t146 t147 t148 _ A21.out).mono ?_); rintro e w26 ⟨rfl, hb⟩; have n0_ := Aside0.mk (blk_below (g := gb126) (o := .cells #[.int .i64 0, .string (⟨#[]⟩ : ByteArray), .int .i64 0, .int .i64 0] 75 (0, 0)) (by (with_reducible repeat (first | refine blk_drewN ?_ _ | refine blk_drew ?_ | refine blk_alloc ?_ _)); refine blk_far ?_ NB126_127.out _; (with_reducible repeat (first | refine blk_drewN ?_ _ | refine blk_drew ?_ | refine blk_alloc ?_ _)); refine blk_far ?_ NB126_127.out _; (with_reducible repeat (first | refine blk_drewN ?_ _ | refine blk_drew ?_ | refine blk_alloc ?_ _)); refine blk_far ?_ NB126_127.out _; (with_reducible repeat (first | refine blk_drewN ?_ _ | refine blk_drew ?_ | refine blk_alloc ?_ _)); refine blk_far ?_ NB126_127.out _; (with_reducible repeat (first | refine blk_drewN ?_ _ | refine blk_drew ?_ | refine blk_alloc ?_ _)); exact BK126.out) hb); have n1_ := Aside0.mk (blk_below (g := gb127) (o := .cells #[.int .i64 0, .string (⟨#[]⟩ : ByteArray), .int .i64 0, .int .i64 0] 75 (0, 0)) (by (with_reducible repeat (first | refine blk_drewN ?_ _ | refine blk_drew ?_ | refine blk_alloc ?_ _)); refine blk_put (cs := #[.int .i64 0, .string (⟨#[]⟩ : ByteArray), .int .i64 0, .int .i64 0]) ?_ 3 _ rfl; (with_reducible repeat (first | refine blk_drewN ?_ _ | refine blk_drew ?_ | refine blk_alloc ?_ _)); refine blk_put (cs := #[.int .i64 0, .string (⟨#[]⟩ : ByteArray), .int .i64 0, .int .i64 0]) ?_ 2 _ rfl; (with_reducible repeat (first | refine blk_drewN ?_ _ | refine blk_drew ?_ | refine blk_alloc ?_ _)); refine blk_put (cs := #[.int .i64 0, .string (⟨#[]⟩ : ByteArray), .int .i64 0, .int .i64 0]) ?_ 1 _ rfl; (with_reducible repeat (first | refine blk_drewN ?_ _ | refine blk_drew ?_ | refine blk_alloc ?_ _)); refine blk_put (cs := #[.int .i64 0, .string (⟨#[]⟩ : ByteArray), .int .i64 0, .int .i64 0]) ?_ 0 _ rfl; (with_reducible repeat (first | refine blk_drewN ?_ _ | refine blk_drew ?_ | refine blk_alloc ?_ _)); exact BK127.out) hb); have n2_ := Aside0.mk (below_step (by repeat (first | (with_reducible first | exact HB.out | apply below_alloc | apply pw_below_drewN | apply below_drew1 | refine below_set ?_ GE126.out | refine below_set ?_ GE127.out) | exact HB.out)) hb); clear BK126; clear BK127; clear HB; have BK126 := n0_; have BK127 := n1_; have HB := n2_; clear n0_ n1_ n2_; (try clear hb); (try clear hb2); (try clear hk); (try clear hi); have hcz27_0 : w26.cell? ⟨gb126, 0, none⟩ = some (.int .i64 0) := (blk_cell BK126.out 0).trans rfl; have hcz27_1 : w26.cell? ⟨gb126, 1, none⟩ = some (.string (⟨#[]⟩ : ByteArray)) := (blk_cell BK126.out 1).trans rfl; have hcz27_2 : w26.cell? ⟨gb126, 2, none⟩ = some (.int .i64 0) := (blk_cell BK126.out 2).trans rfl; have hcz27_3 : w26.cell? ⟨gb126, 3, none⟩ = some (.int .i64 0) := (blk_cell BK126.out 3).trans rfl; have hfz27_0 := blk_frozen BK126.out 0; have hfz27_1 := blk_frozen BK126.out 1; have hfz27_2 := blk_frozen BK126.out 2; have hfz27_3 := blk_frozen BK126.out 3))
      refine bodyPost_ret (results_list (rs := [.cell 2 75, .tmp 3, .tmp 4, .tmp 5]) rfl (by simp) (.cell gb126 75 #[.int .i64 t142, .string t143, .int .i64 t144, .int .i64 t145] (0, 0) _ rfl (by (with_reducible repeat (first | refine blk_drewN ?_ _ | refine blk_drew ?_ | refine blk_alloc ?_ _)); refine blk_put (cs := #[.int .i64 t142, .string t143, .int .i64 t144, .int .i64 0]) ?_ 3 _ rfl; (with_reducible repeat (first | refine blk_drewN ?_ _ | refine blk_drew ?_ | refine blk_alloc ?_ _)); refine blk_put (cs := #[.int .i64 t142, .string t143, .int .i64 0, .int .i64 0]) ?_ 2 _ rfl; (with_reducible repeat (first | refine blk_drewN ?_ _ | refine blk_drew ?_ | refine blk_alloc ?_ _)); refine blk_put (cs := #[.int .i64 t142, .string (⟨#[]⟩ : ByteArray), .int .i64 0, .int .i64 0]) ?_ 1 _ rfl; (with_reducible repeat (first | refine blk_drewN ?_ _ | refine blk_drew ?_ | refine blk_alloc ?_ _)); refine blk_put (cs := #[.int .i64 0, .string (⟨#[]⟩ : ByteArray), .int .i64 0, .int .i64 0]) ?_ 0 _ rfl; (with_reducible repeat (first | refine blk_drewN ?_ _ | refine blk_drew ?_ | refine blk_alloc ?_ _)); exact BK126.out) Tryz.underlying75 rfl (by kernel_rfl) (.tmp (.tmp (.tmp .nil))))) rfl ?_
      exact ⟨by first | rfl | (simp [errW_none, errW_some] <;> rfl) | (simp [*, errW_none, errW_some] <;> rfl), by repeat (first | (with_reducible first | exact HB.out | apply below_alloc | apply pw_below_drewN | apply below_drew1 | refine below_set ?_ GE126.out | refine below_set ?_ GE127.out) | exact HB.out)⟩
     ·
      rw [if_neg c20] at H
      have c20b0 : ((bt a0 0) == 95) = false := beq_eq_false_iff_ne.mpr c20
      have c20b1 : ((bt a0 0) != 95) = true := bne_iff_ne.mpr c20
      by_cases c28 : (bt a0 0) = 42
      ·
       rw [if_pos c28] at H
       have c28b0 : ((bt a0 0) == 42) = true := beq_iff_eq.mpr c28
       have c28b1 : ((bt a0 0) != 42) = false := bne_eq_false_iff_eq.mpr c28
       clear c28
       replace H := Option.bind_eq_some_iff.mp H
       obtain ⟨⟨t149, t150, t151, t152, t153, t154, t155⟩, A290, H⟩ := H
       replace H : (some (t149, t150, t151, t152, t153, t154, t155)) = some (r1, r2, r3, r4, r5, r6, r7) := H
       have A29 := Aside0.mk A290
       clear A290
       simp only [Option.some.injEq, Prod.mk.injEq] at H
       obtain ⟨rfl, rfl, rfl, rfl, rfl, rfl, rfl⟩ := H
       go_enter Tryz.func52, Tryz.ntmps52
       go_wp2_with (first | ((with_reducible refine gate_dst (N := 2) rfl ?_); refine box_event ?hg (N := 2) ?hd (cs := #[.int .i64 0, .string (⟨#[]⟩ : ByteArray), .int .i64 0, .int .i64 0]) (t := 75) ?hr ?_; (case hd => rfl); (case hg => rfl); (case hr => first | (go_simp; done) | (go_simp; rfl)); intro gb126 hg w30 hbox hb; have n0_ := Aside0.mk (below_step bl_ hb); have n1_ := Aside0.mk (hbox); have n2_ := Aside0.mk ((by rw [hg]; exact (below_size bl_) : w.heap.size ≤ gb126)); have n3_ := Aside0.mk ((by rw [hg]; exact (below_size bl_) : w.heap.size ≤ gb126)); clear HB; have HB := n0_; have BK126 := n1_; have GW126 := n2_; have GE126 := n3_; clear n0_ n1_ n2_ n3_; clear hb hbox hg) | ((with_reducible refine gate_dst (N := 6) rfl ?_); refine box_event ?hg (N := 6) ?hd (cs := #[.int .i64 0, .string (⟨#[]⟩ : ByteArray), .int .i64 0, .int .i64 0]) (t := 75) ?hr ?_; (case hd => rfl); (case hg => rfl); (case hr => first | (go_simp; done) | (go_simp; rfl)); intro gb127 hg w31 hbox hb; have n0_ := Aside0.mk (blk_below (g := gb126) (o := .cells #[.int .i64 0, .string (⟨#[]⟩ : ByteArray), .int .i64 0, .int .i64 0] 75 (0, 0)) (by (with_reducible repeat (first | refine blk_drewN ?_ _ | refine blk_drew ?_ | refine blk_alloc ?_ _)); exact BK126.out) hb); have n1_ := Aside0.mk (below_step (by repeat (first | (with_reducible first | exact HB.out | apply below_alloc | apply pw_below_drewN | apply below_drew1 | refine below_set ?_ GE126.out) | exact HB.out)) hb); have n2_ := Aside0.mk (hbox); have n3_ := Aside0.mk ((by rw [hg]; exact (below_size (by repeat (first | (with_reducible first | exact HB.out | apply below_alloc | apply pw_below_drewN | apply below_drew1 | refine below_set ?_ GE126.out) | exact HB.out))) : w.heap.size ≤ gb127)); have n4_ := Aside0.mk ((by rw [hg]; exact (below_size (by repeat (first | (with_reducible first | exact HB.out | apply below_alloc | apply pw_below_drewN | apply below_drew1 | refine below_set ?_ GE126.out) | exact HB.out))) : w.heap.size ≤ gb127)); have n5_ := Aside0.mk ((by rw [hg]; exact Nat.ne_of_lt (blk_lt (g := gb126) (o := .cells #[.int .i64 0, .string (⟨#[]⟩ : ByteArray), .int .i64 0, .int .i64 0] 75 (0, 0)) (by (with_reducible repeat (first | refine blk_drewN ?_ _ | refine blk_drew ?_ | refine blk_alloc ?_ _)); exact BK126.out)) : gb126 ≠ gb127)); have n6_ := Aside0.mk ((by rw [hg]; exact Nat.ne_of_gt (blk_lt (g := gb126) (o := .cells #[.int .i64 0, .string (⟨#[]⟩ : ByteArray), .int .i64 0, .int .i64 0] 75 (0, 0)) (by (with_reducible repeat (first | refine blk_drewN ?_ _ | refine blk_drew ?_ | refine blk_alloc ?_ _)); exact BK126.out)) : gb127 ≠ gb126)); clear BK126; clear HB; have BK126 := n0_; have HB := n1_; have BK127 := n2_; have GW127 := n3_; have GE127 := n4_; have NB126_127 := n5_; have NB127_126 := n6_; clear n0_ n1_ n2_ n3_ n4_ n5_ n6_; clear hb hbox hg; have hnb32 := NB127_126.out; have hnc32 := NB126_127.out; have hcz33_0 : w31.cell? ⟨gb127, 0, none⟩ = some (.int .i64 0) := (blk_cell BK127.out 0).trans rfl; have hcz33_1 : w31.cell? ⟨gb127, 1, none⟩ = some (.string (⟨#[]⟩ : ByteArray)) := (blk_cell BK127.out 1).trans rfl; have hcz33_2 : w31.cell? ⟨gb127, 2, none⟩ = some (.int .i64 0) := (blk_cell BK127.out 2).trans rfl; have hcz33_3 : w31.cell? ⟨gb127, 3, none⟩ = some (.int .i64 0) := (blk_cell BK127.out 3).trans rfl; have hfz33_0 := blk_frozen BK127.out 0; have hfz33_1 := blk_frozen BK127.out 1; have hfz33_2 := blk_frozen BK127.out 2; have hfz33_3 := blk_frozen BK127.out 3; have p3 : 0 ≤ (0 : Int) := (by omega); have q3 : 0 < a0.size := (by have : (0 : Int) < (a0.size : Int) := of_decide_eq_true (by first | (with_reducible assumption) | assumption); omega); have hx3 : ∀ h : 0 < a0.size, ((a0[0]'h).toNat : Int) = bt a0 0 := bt_at a0 0; clear p3; have qi3 : (0 < (a0.size : Int)) = True := eq_true (of_decide_eq_true (by first | (with_reducible assumption) | assumption)); replace q3 := eq_true q3) | (go_at_call 76; (with_reducible refine (numeraryref11_marked.calls k a0 4 8 t149 t150 t151 t152 t153 t154 t155 _ A29.out).mono ?_); rintro e w34 ⟨rfl, hb⟩; have n0_ := Aside0.mk (blk_below (g := gb126) (o := .cells #[.int .i64 0, .string (⟨#[]⟩ : ByteArray), .int .i64 0, .int .i64 0] 75 (0, 0)) (by (with_reducible repeat (first | refine blk_drewN ?_ _ | refine blk_drew ?_ | refine blk_alloc ?_ _)); refine blk_far ?_ NB126_127.out _; (with_reducible repeat (first | refine blk_drewN ?_ _ | refine blk_drew ?_ | refine blk_alloc ?_ _)); refine blk_far ?_ NB126_127.out _; (with_reducible repeat (first | refine blk_drewN ?_ _ | refine blk_drew ?_ | refine blk_alloc ?_ _)); refine blk_far ?_ NB126_127.out _; (with_reducible repeat (first | refine blk_drewN ?_ _ | refine blk_drew ?_ | refine blk_alloc ?_ _)); refine blk_far ?_ NB126_127.out _; (with_reducible repeat (first | refine blk_drewN ?_ _ | refine blk_drew ?_ | refine blk_alloc ?_ _)); exact BK126.out) hb); have n1_ := Aside0.mk (blk_below (g := gb127) (o := .cells #[.int .i64 0, .string (⟨#[]⟩ : ByteArray), .int .i64 0, .int .i64 0] 75 (0, 0)) (by (with_reducible repeat (first | refine blk_drewN ?_ _ | refine blk_drew ?_ | refine blk_alloc ?_ _)); refine blk_put (cs := #[.int .i64 0, .string (⟨#[]⟩ : ByteArray), .int .i64 0, .int .i64 0]) ?_ 3 _ rfl; (with_reducible repeat (first | refine blk_drewN ?_ _ | refine blk_drew ?_ | refine blk_alloc ?_ _)); refine blk_put (cs := #[.int .i64 0, .string (⟨#[]⟩ : ByteArray), .int .i64 0, .int .i64 0]) ?_ 2 _ rfl; (with_reducible repeat (first | refine blk_drewN ?_ _ | refine blk_drew ?_ | refine blk_alloc ?_ _)); refine blk_put (cs := #[.int .i64 0, .string (⟨#[]⟩ : ByteArray), .int .i64 0, .int .i64 0]) ?_ 1 _ rfl; (with_reducible repeat (first | refine blk_drewN ?_ _ | refine blk_drew ?_ | refine blk_alloc ?_ _)); refine blk_put (cs := #[.int .i64 0, .string (⟨#[]⟩ : ByteArray), .int .i64 0, .int .i64 0]) ?_ 0 _ rfl; (with_reducible repeat (first | refine blk_drewN ?_ _ | refine blk_drew ?_ | refine blk_alloc ?_ _)); exact BK127.out) hb); have n2_ := Aside0.mk (below_step (by repeat (first | (with_reducible first | exact HB.out | apply below_alloc | apply pw_below_drewN | apply below_drew1 | refine below_set ?_ GE126.out | refine below_set ?_ GE127.out) | exact HB.out)) hb); clear BK126; clear BK127; clear HB; have BK126 := n0_; have BK127 := n1_; have HB := n2_; clear n0_ n1_ n2_; (try clear hb); (try clear hb2); (try clear hk); (try clear hi); have hcz35_0 : w34.cell? ⟨gb126, 0, none⟩ = some (.int .i64 0) := (blk_cell BK126.out 0).trans rfl; have hcz35_1 : w34.cell? ⟨gb126, 1, none⟩ = some (.string (⟨#[]⟩ : ByteArray)) := (blk_cell BK126.out 1).trans rfl; have hcz35_2 : w34.cell? ⟨gb126, 2, none⟩ = some (.int .i64 0) := (blk_cell BK126.out 2).trans rfl; have hcz35_3 : w34.cell? ⟨gb126, 3, none⟩ = some (.int .i64 0) := (blk_cell BK126.out 3).trans rfl; have hfz35_0 := blk_frozen BK126.out 0; have hfz35_1 := blk_frozen BK126.out 1; have hfz35_2 := blk_frozen BK126.out 2; have hfz35_3 := blk_frozen BK126.out 3))
       refine bodyPost_ret (results_list (rs := [.cell 2 75, .tmp 3, .tmp 4, .tmp 5]) rfl (by simp) (.cell gb126 75 #[.int .i64 t149, .string t150, .int .i64 t151, .int .i64 t152] (0, 0) _ rfl (by (with_reducible repeat (first | refine blk_drewN ?_ _ | refine blk_drew ?_ | refine blk_alloc ?_ _)); refine blk_put (cs := #[.int .i64 t149, .string t150, .int .i64 t151, .int .i64 0]) ?_ 3 _ rfl; (with_reducible repeat (first | refine blk_drewN ?_ _ | refine blk_drew ?_ | refine blk_alloc ?_ _)); refine blk_put (cs := #[.int .i64 t149, .string t150, .int .i64 0, .int .i64 0]) ?_ 2 _ rfl; (with_reducible repeat (first | refine blk_drewN ?_ _ | refine blk_drew ?_ | refine blk_alloc ?_ _)); refine blk_put (cs := #[.int .i64 t149, .string (⟨#[]⟩ : ByteArray), .int .i64 0, .int .i64 0]) ?_ 1 _ rfl; (with_reducible repeat (first | refine blk_drewN ?_ _ | refine blk_drew ?_ | refine blk_alloc ?_ _)); refine blk_put (cs := #[.int .i64 0, .string (⟨#[]⟩ : ByteArray), .int .i64 0, .int .i64 0]) ?_ 0 _ rfl; (with_reducible repeat (first | refine blk_drewN ?_ _ | refine blk_drew ?_ | refine blk_alloc ?_ _)); exact BK126.out) Tryz.underlying75 rfl (by kernel_rfl) (.tmp (.tmp (.tmp .nil))))) rfl ?_
       exact ⟨by first | rfl | (simp [errW_none, errW_some] <;> rfl) | (simp [*, errW_none, errW_some] <;> rfl), by repeat (first | (with_reducible first | exact HB.out | apply below_alloc | apply pw_below_drewN | apply below_drew1 | refine below_set ?_ GE126.out | refine below_set ?_ GE127.out) | exact HB.out)⟩
      ·
       rw [if_neg c28] at H
       have c28b0 : ((bt a0 0) == 42) = false := beq_eq_false_iff_ne.mpr c28
       have c28b1 : ((bt a0 0) != 42) = true := bne_iff_ne.mpr c28
       by_cases c36 : (bt a0 0) = 91
       ·
        rw [if_pos c36] at H
        have c36b0 : ((bt a0 0) == 91) = true := beq_iff_eq.mpr c36
        have c36b1 : ((bt a0 0) != 91) = false := bne_eq_false_iff_eq.mpr c36
        clear c36
        replace H := Option.bind_eq_some_iff.mp H
        obtain ⟨⟨t156, t157, t158, t159, t160, t161, t162⟩, A370, H⟩ := H
        replace H : (some (t156, t157, t158, t159, t160, t161, t162)) = some (r1, r2, r3, r4, r5, r6, r7) := H
        have A37 := Aside0.mk A370
        clear A370
        simp only [Option.some.injEq, Prod.mk.injEq] at H
        obtain ⟨rfl, rfl, rfl, rfl, rfl, rfl, rfl⟩ := H
        go_enter Tryz.func52, Tryz.ntmps52
        go_wp2_with (first | ((with_reducible refine gate_dst (N := 2) rfl ?_); refine box_event ?hg (N := 2) ?hd (cs := #[.int .i64 0, .string (⟨#[]⟩ : ByteArray), .int .i64 0, .int .i64 0]) (t := 75) ?hr ?_; (case hd => rfl); (case hg => rfl); (case hr => first | (go_simp; done) | (go_simp; rfl)); intro gb126 hg w38 hbox hb; have n0_ := Aside0.mk (below_step bl_ hb); have n1_ := Aside0.mk (hbox); have n2_ := Aside0.mk ((by rw [hg]; exact (below_size bl_) : w.heap.size ≤ gb126)); have n3_ := Aside0.mk ((by rw [hg]; exact (below_size bl_) : w.heap.size ≤ gb126)); clear HB; have HB := n0_; have BK126 := n1_; have GW126 := n2_; have GE126 := n3_; clear n0_ n1_ n2_ n3_; clear hb hbox hg) | ((with_reducible refine gate_dst (N := 6) rfl ?_); refine box_event ?hg (N := 6) ?hd (cs := #[.int .i64 0, .string (⟨#[]⟩ : ByteArray), .int .i64 0, .int .i64 0]) (t := 75) ?hr ?_; (case hd => rfl); (case hg => rfl); (case hr => first | (go_simp; done) | (go_simp; rfl)); intro gb127 hg w39 hbox hb; have n0_ := Aside0.mk (blk_below (g := gb126) (o := .cells #[.int .i64 0, .string (⟨#[]⟩ : ByteArray), .int .i64 0, .int .i64 0] 75 (0, 0)) (by (with_reducible repeat (first | refine blk_drewN ?_ _ | refine blk_drew ?_ | refine blk_alloc ?_ _)); exact BK126.out) hb); have n1_ := Aside0.mk (below_step (by repeat (first | (with_reducible first | exact HB.out | apply below_alloc | apply pw_below_drewN | apply below_drew1 | refine below_set ?_ GE126.out) | exact HB.out)) hb); have n2_ := Aside0.mk (hbox); have n3_ := Aside0.mk ((by rw [hg]; exact (below_size (by repeat (first | (with_reducible first | exact HB.out | apply below_alloc | apply pw_below_drewN | apply below_drew1 | refine below_set ?_ GE126.out) | exact HB.out))) : w.heap.size ≤ gb127)); have n4_ := Aside0.mk ((by rw [hg]; exact (below_size (by repeat (first | (with_reducible first | exact HB.out | apply below_alloc | apply pw_below_drewN | apply below_drew1 | refine below_set ?_ GE126.out) | exact HB.out))) : w.heap.size ≤ gb127)); have n5_ := Aside0.mk ((by rw [hg]; exact Nat.ne_of_lt (blk_lt (g := gb126) (o := .cells #[.int .i64 0, .string (⟨#[]⟩ : ByteArray), .int .i64 0, .int .i64 0] 75 (0, 0)) (by (with_reducible repeat (first | refine blk_drewN ?_ _ | refine blk_drew ?_ | refine blk_alloc ?_ _)); exact BK126.out)) : gb126 ≠ gb127)); have n6_ := Aside0.mk ((by rw [hg]; exact Nat.ne_of_gt (blk_lt (g := gb126) (o := .cells #[.int .i64 0, .string (⟨#[]⟩ : ByteArray), .int .i64 0, .int .i64 0] 75 (0, 0)) (by (with_reducible repeat (first | refine blk_drewN ?_ _ | refine blk_drew ?_ | refine blk_alloc ?_ _)); exact BK126.out)) : gb127 ≠ gb126)); clear BK126; clear HB; have BK126 := n0_; have HB := n1_; have BK127 := n2_; have GW127 := n3_; have GE127 := n4_; have NB126_127 := n5_; have NB127_126 := n6_; clear n0_ n1_ n2_ n3_ n4_ n5_ n6_; clear hb hbox hg; have hnb40 := NB127_126.out; have hnc40 := NB126_127.out; have hcz41_0 : w39.cell? ⟨gb127, 0, none⟩ = some (.int .i64 0) := (blk_cell BK127.out 0).trans rfl; have hcz41_1 : w39.cell? ⟨gb127, 1, none⟩ = some (.string (⟨#[]⟩ : ByteArray)) := (blk_cell BK127.out 1).trans rfl; have hcz41_2 : w39.cell? ⟨gb127, 2, none⟩ = some (.int .i64 0) := (blk_cell BK127.out 2).trans rfl; have hcz41_3 : w39.cell? ⟨gb127, 3, none⟩ = some (.int .i64 0) := (blk_cell BK127.out 3).trans rfl; have hfz41_0 := blk_frozen BK127.out 0; have hfz41_1 := blk_frozen BK127.out 1; have hfz41_2 := blk_frozen BK127.out 2; have hfz41_3 := blk_frozen BK127.out 3; have p3 : 0 ≤ (0 : Int) := (by omega); have q3 : 0 < a0.size := (by have : (0 : Int) < (a0.size : Int) := of_decide_eq_true (by first | (with_reducible assumption) | assumption); omega); have hx3 : ∀ h : 0 < a0.size, ((a0[0]'h).toNat : Int) = bt a0 0 := bt_at a0 0; clear p3; have qi3 : (0 < (a0.size : Int)) = True := eq_true (of_decide_eq_true (by first | (with_reducible assumption) | assumption)); replace q3 := eq_true q3) | (go_at_call 75; (with_reducible refine (numeraryref11_closed.calls k a0 5 93 7 t156 t157 t158 t159 t160 t161 t162 _ A37.out).mono ?_); rintro e w42 ⟨rfl, hb⟩; have n0_ := Aside0.mk (blk_below (g := gb126) (o := .cells #[.int .i64 0, .string (⟨#[]⟩ : ByteArray), .int .i64 0, .int .i64 0] 75 (0, 0)) (by (with_reducible repeat (first | refine blk_drewN ?_ _ | refine blk_drew ?_ | refine blk_alloc ?_ _)); refine blk_far ?_ NB126_127.out _; (with_reducible repeat (first | refine blk_drewN ?_ _ | refine blk_drew ?_ | refine blk_alloc ?_ _)); refine blk_far ?_ NB126_127.out _; (with_reducible repeat (first | refine blk_drewN ?_ _ | refine blk_drew ?_ | refine blk_alloc ?_ _)); refine blk_far ?_ NB126_127.out _; (with_reducible repeat (first | refine blk_drewN ?_ _ | refine blk_drew ?_ | refine blk_alloc ?_ _)); refine blk_far ?_ NB126_127.out _; (with_reducible repeat (first | refine blk_drewN ?_ _ | refine blk_drew ?_ | refine blk_alloc ?_ _)); exact BK126.out) hb); have n1_ := Aside0.mk (blk_below (g := gb127) (o := .cells #[.int .i64 0, .string (⟨#[]⟩ : ByteArray), .int .i64 0, .int .i64 0] 75 (0, 0)) (by (with_reducible repeat (first | refine blk_drewN ?_ _ | refine blk_drew ?_ | refine blk_alloc ?_ _)); refine blk_put (cs := #[.int .i64 0, .string (⟨#[]⟩ : ByteArray), .int .i64 0, .int .i64 0]) ?_ 3 _ rfl; (with_reducible repeat (first | refine blk_drewN ?_ _ | refine blk_drew ?_ | refine blk_alloc ?_ _)); refine blk_put (cs := #[.int .i64 0, .string (⟨#[]⟩ : ByteArray), .int .i64 0, .int .i64 0]) ?_ 2 _ rfl; (with_reducible repeat (first | refine blk_drewN ?_ _ | refine blk_drew ?_ | refine blk_alloc ?_ _)); refine blk_put (cs := #[.int .i64 0, .string (⟨#[]⟩ : ByteArray), .int .i64 0, .int .i64 0]) ?_ 1 _ rfl; (with_reducible repeat (first | refine blk_drewN ?_ _ | refine blk_drew ?_ | refine blk_alloc ?_ _)); refine blk_put (cs := #[.int .i64 0, .string (⟨#[]⟩ : ByteArray), .int .i64 0, .int .i64 0]) ?_ 0 _ rfl; (with_reducible repeat (first | refine blk_drewN ?_ _ | refine blk_drew ?_ | refine blk_alloc ?_ _)); exact BK127.out) hb); have n2_ := Aside0.mk (below_step (by repeat (first | (with_reducible first | exact HB.out | apply below_alloc | apply pw_below_drewN | apply below_drew1 | refine below_set ?_ GE126.out | refine below_set ?_ GE127.out) | exact HB.out)) hb); clear BK126; clear BK127; clear HB; have BK126 := n0_; have BK127 := n1_; have HB := n2_; clear n0_ n1_ n2_; (try clear hb); (try clear hb2); (try clear hk); (try clear hi); have hcz43_0 : w42.cell? ⟨gb126, 0, none⟩ = some (.int .i64 0) := (blk_cell BK126.out 0).trans rfl; have hcz43_1 : w42.cell? ⟨gb126, 1, none⟩ = some (.string (⟨#[]⟩ : ByteArray)) := (blk_cell BK126.out 1).trans rfl; have hcz43_2 : w42.cell? ⟨gb126, 2, none⟩ = some (.int .i64 0) := (blk_cell BK126.out 2).trans rfl; have hcz43_3 : w42.cell? ⟨gb126, 3, none⟩ = some (.int .i64 0) := (blk_cell BK126.out 3).trans rfl; have hfz43_0 := blk_frozen BK126.out 0; have hfz43_1 := blk_frozen BK126.out 1; have hfz43_2 := blk_frozen BK126.out 2; have hfz43_3 := blk_frozen BK126.out 3))
        refine bodyPost_ret (results_list (rs := [.cell 2 75, .tmp 3, .tmp 4, .tmp 5]) rfl (by simp) (.cell gb126 75 #[.int .i64 t156, .string t157, .int .i64 t158, .int .i64 t159] (0, 0) _ rfl (by (with_reducible repeat (first | refine blk_drewN ?_ _ | refine blk_drew ?_ | refine blk_alloc ?_ _)); refine blk_put (cs := #[.int .i64 t156, .string t157, .int .i64 t158, .int .i64 0]) ?_ 3 _ rfl; (with_reducible repeat (first | refine blk_drewN ?_ _ | refine blk_drew ?_ | refine blk_alloc ?_ _)); refine blk_put (cs := #[.int .i64 t156, .string t157, .int .i64 0, .int .i64 0]) ?_ 2 _ rfl; (with_reducible repeat (first | refine blk_drewN ?_ _ | refine blk_drew ?_ | refine blk_alloc ?_ _)); refine blk_put (cs := #[.int .i64 t156, .string (⟨#[]⟩ : ByteArray), .int .i64 0, .int .i64 0]) ?_ 1 _ rfl; (with_reducible repeat (first | refine blk_drewN ?_ _ | refine blk_drew ?_ | refine blk_alloc ?_ _)); refine blk_put (cs := #[.int .i64 0, .string (⟨#[]⟩ : ByteArray), .int .i64 0, .int .i64 0]) ?_ 0 _ rfl; (with_reducible repeat (first | refine blk_drewN ?_ _ | refine blk_drew ?_ | refine blk_alloc ?_ _)); exact BK126.out) Tryz.underlying75 rfl (by kernel_rfl) (.tmp (.tmp (.tmp .nil))))) rfl ?_
        exact ⟨by first | rfl | (simp [errW_none, errW_some] <;> rfl) | (simp [*, errW_none, errW_some] <;> rfl), by repeat (first | (with_reducible first | exact HB.out | apply below_alloc | apply pw_below_drewN | apply below_drew1 | refine below_set ?_ GE126.out | refine below_set ?_ GE127.out) | exact HB.out)⟩
       ·
        rw [if_neg c36] at H
        have c36b0 : ((bt a0 0) == 91) = false := beq_eq_false_iff_ne.mpr c36
        have c36b1 : ((bt a0 0) != 91) = true := bne_iff_ne.mpr c36
        have HC44 := Aside0.mk H
        clear H
        go_enter Tryz.func52, Tryz.ntmps52
        go_upto_region 13 with (first | ((with_reducible refine gate_dst (N := 2) rfl ?_); refine box_event ?hg (N := 2) ?hd (cs := #[.int .i64 0, .string (⟨#[]⟩ : ByteArray), .int .i64 0, .int .i64 0]) (t := 75) ?hr ?_; (case hd => rfl); (case hg => rfl); (case hr => first | (go_simp; done) | (go_simp; rfl)); intro gb126 hg w45 hbox hb; have n0_ := Aside0.mk (below_step bl_ hb); have n1_ := Aside0.mk (hbox); have n2_ := Aside0.mk ((by rw [hg]; exact (below_size bl_) : w.heap.size ≤ gb126)); have n3_ := Aside0.mk ((by rw [hg]; exact (below_size bl_) : w.heap.size ≤ gb126)); clear HB; have HB := n0_; have BK126 := n1_; have GW126 := n2_; have GE126 := n3_; clear n0_ n1_ n2_ n3_; clear hb hbox hg) | ((with_reducible refine gate_dst (N := 6) rfl ?_); refine box_event ?hg (N := 6) ?hd (cs := #[.int .i64 0, .string (⟨#[]⟩ : ByteArray), .int .i64 0, .int .i64 0]) (t := 75) ?hr ?_; (case hd => rfl); (case hg => rfl); (case hr => first | (go_simp; done) | (go_simp; rfl)); intro gb127 hg w46 hbox hb; have n0_ := Aside0.mk (blk_below (g := gb126) (o := .cells #[.int .i64 0, .string (⟨#[]⟩ : ByteArray), .int .i64 0, .int .i64 0] 75 (0, 0)) (by (with_reducible repeat (first | refine blk_drewN ?_ _ | refine blk_drew ?_ | refine blk_alloc ?_ _)); exact BK126.out) hb); have n1_ := Aside0.mk (below_step (by repeat (first | (with_reducible first | exact HB.out | apply below_alloc | apply pw_below_drewN | apply below_drew1 | refine below_set ?_ GE126.out) | exact HB.out)) hb); have n2_ := Aside0.mk (hbox); have n3_ := Aside0.mk ((by rw [hg]; exact (below_size (by repeat (first | (with_reducible first | exact HB.out | apply below_alloc | apply pw_below_drewN | apply below_drew1 | refine below_set ?_ GE126.out) | exact HB.out))) : w.heap.size ≤ gb127)); have n4_ := Aside0.mk ((by rw [hg]; exact (below_size (by repeat (first | (with_reducible first | exact HB.out | apply below_alloc | apply pw_below_drewN | apply below_drew1 | refine below_set ?_ GE126.out) | exact HB.out))) : w.heap.size ≤ gb127)); have n5_ := Aside0.mk ((by rw [hg]; exact Nat.ne_of_lt (blk_lt (g := gb126) (o := .cells #[.int .i64 0, .string (⟨#[]⟩ : ByteArray), .int .i64 0, .int .i64 0] 75 (0, 0)) (by (with_reducible repeat (first | refine blk_drewN ?_ _ | refine blk_drew ?_ | refine blk_alloc ?_ _)); exact BK126.out)) : gb126 ≠ gb127)); have n6_ := Aside0.mk ((by rw [hg]; exact Nat.ne_of_gt (blk_lt (g := gb126) (o := .cells #[.int .i64 0, .string (⟨#[]⟩ : ByteArray), .int .i64 0, .int .i64 0] 75 (0, 0)) (by (with_reducible repeat (first | refine blk_drewN ?_ _ | refine blk_drew ?_ | refine blk_alloc ?_ _)); exact BK126.out)) : gb127 ≠ gb126)); clear BK126; clear HB; have BK126 := n0_; have HB := n1_; have BK127 := n2_; have GW127 := n3_; have GE127 := n4_; have NB126_127 := n5_; have NB127_126 := n6_; clear n0_ n1_ n2_ n3_ n4_ n5_ n6_; clear hb hbox hg; have hnb47 := NB127_126.out; have hnc47 := NB126_127.out; have hcz48_0 : w46.cell? ⟨gb127, 0, none⟩ = some (.int .i64 0) := (blk_cell BK127.out 0).trans rfl; have hcz48_1 : w46.cell? ⟨gb127, 1, none⟩ = some (.string (⟨#[]⟩ : ByteArray)) := (blk_cell BK127.out 1).trans rfl; have hcz48_2 : w46.cell? ⟨gb127, 2, none⟩ = some (.int .i64 0) := (blk_cell BK127.out 2).trans rfl; have hcz48_3 : w46.cell? ⟨gb127, 3, none⟩ = some (.int .i64 0) := (blk_cell BK127.out 3).trans rfl; have hfz48_0 := blk_frozen BK127.out 0; have hfz48_1 := blk_frozen BK127.out 1; have hfz48_2 := blk_frozen BK127.out 2; have hfz48_3 := blk_frozen BK127.out 3; have p3 : 0 ≤ (0 : Int) := (by omega); have q3 : 0 < a0.size := (by have : (0 : Int) < (a0.size : Int) := of_decide_eq_true (by first | (with_reducible assumption) | assumption); omega); have hx3 : ∀ h : 0 < a0.size, ((a0[0]'h).toNat : Int) = bt a0 0 := bt_at a0 0; clear p3; have qi3 : (0 < (a0.size : Int)) = True := eq_true (of_decide_eq_true (by first | (with_reducible assumption) | assumption)); replace q3 := eq_true q3))
        (try simp only [Act.put, List.setIfInBounds_toArray, List.set_cons_zero, List.set_cons_succ])
        go_cut [70] (fun v70 wc => ∃ (kq : Nat) (x70_43 : Bool), v70 = .bool x70_43 ∧ Aside0 (numeraryref11_First.j0 kq a0 (bt a0 0) x70_43 0 (⟨#[]⟩ : ByteArray) 0 0 = some (r1, r2, r3, r4, r5, r6, r7)) ∧ Aside0 (kq ≤ k) ∧ Aside0 (wc.heap[gb126]? = some (.cells #[.int .i64 0, .string (⟨#[]⟩ : ByteArray), .int .i64 0, .int .i64 0] 75 (0, 0))) ∧ Aside0 (wc.heap[gb127]? = some (.cells #[.int .i64 0, .string (⟨#[]⟩ : ByteArray), .int .i64 0, .int .i64 0] 75 (0, 0))) ∧ Aside0 (Below w.heap.size w wc))
        case first =>
         have H := HC44.out
         clear HC44
         by_cases c49 : (bt a0 0) = 48
         ·
          rw [if_pos c49] at H
          have c49b0 : ((bt a0 0) == 48) = true := beq_iff_eq.mpr c49
          have c49b1 : ((bt a0 0) != 48) = false := bne_eq_false_iff_eq.mpr c49
          clear c49
          (first | rw [c49b0] | (simp only [i64_w, i32_w]; rw [c49b0]) | skip)
          have H' := Aside0.mk H
          clear H
          go_wp2
          repeat (go_quiet (fail); try go_wp2)
          go_meet
          case rel => exact ⟨_, (true), (by first | rfl | (simp; done) | (simp [*]; done) | (simp only [isEmpty_ne, Bool.not_not]) | (simp only [isEmpty_ne])), H', ⟨by first | omega | exact Nat.le_refl _⟩, ⟨by (with_reducible repeat (first | refine blk_drewN ?_ _ | refine blk_drew ?_ | refine blk_alloc ?_ _)); refine blk_far ?_ NB126_127.out _; (with_reducible repeat (first | refine blk_drewN ?_ _ | refine blk_drew ?_ | refine blk_alloc ?_ _)); refine blk_far ?_ NB126_127.out _; (with_reducible repeat (first | refine blk_drewN ?_ _ | refine blk_drew ?_ | refine blk_alloc ?_ _)); refine blk_far ?_ NB126_127.out _; (with_reducible repeat (first | refine blk_drewN ?_ _ | refine blk_drew ?_ | refine blk_alloc ?_ _)); refine blk_far ?_ NB126_127.out _; (with_reducible repeat (first | refine blk_drewN ?_ _ | refine blk_drew ?_ | refine blk_alloc ?_ _)); exact BK126.out⟩, ⟨by (with_reducible repeat (first | refine blk_drewN ?_ _ | refine blk_drew ?_ | refine blk_alloc ?_ _)); refine blk_put (cs := #[.int .i64 0, .string (⟨#[]⟩ : ByteArray), .int .i64 0, .int .i64 0]) ?_ 3 _ rfl; (with_reducible repeat (first | refine blk_drewN ?_ _ | refine blk_drew ?_ | refine blk_alloc ?_ _)); refine blk_put (cs := #[.int .i64 0, .string (⟨#[]⟩ : ByteArray), .int .i64 0, .int .i64 0]) ?_ 2 _ rfl; (with_reducible repeat (first | refine blk_drewN ?_ _ | refine blk_drew ?_ | refine blk_alloc ?_ _)); refine blk_put (cs := #[.int .i64 0, .string (⟨#[]⟩ : ByteArray), .int .i64 0, .int .i64 0]) ?_ 1 _ rfl; (with_reducible repeat (first | refine blk_drewN ?_ _ | refine blk_drew ?_ | refine blk_alloc ?_ _)); refine blk_put (cs := #[.int .i64 0, .string (⟨#[]⟩ : ByteArray), .int .i64 0, .int .i64 0]) ?_ 0 _ rfl; (with_reducible repeat (first | refine blk_drewN ?_ _ | refine blk_drew ?_ | refine blk_alloc ?_ _)); exact BK127.out⟩, ⟨by repeat (first | (with_reducible first | exact HB.out | apply below_alloc | apply pw_below_drewN | apply below_drew1 | refine below_set ?_ GE126.out | refine below_set ?_ GE127.out) | exact HB.out)⟩⟩
         ·
          rw [if_neg c49] at H
          have c49b0 : ((bt a0 0) == 48) = false := beq_eq_false_iff_ne.mpr c49
          have c49b1 : ((bt a0 0) != 48) = true := bne_iff_ne.mpr c49
          (first | rw [c49b0] | (simp only [i64_w, i32_w]; rw [c49b0]) | skip)
          by_cases c50 : (bt a0 0) = 35
          ·
           rw [if_pos c50] at H
           have c50b0 : ((bt a0 0) == 35) = true := beq_iff_eq.mpr c50
           have c50b1 : ((bt a0 0) != 35) = false := bne_eq_false_iff_eq.mpr c50
           clear c50
           have H' := Aside0.mk H
           clear H
           go_wp2
           repeat (go_quiet (fail); try go_wp2)
           go_meet
           case rel => exact ⟨_, (true), (by first | rfl | (simp; done) | (simp [*]; done) | (simp only [isEmpty_ne, Bool.not_not]) | (simp only [isEmpty_ne])), H', ⟨by first | omega | exact Nat.le_refl _⟩, ⟨by (with_reducible repeat (first | refine blk_drewN ?_ _ | refine blk_drew ?_ | refine blk_alloc ?_ _)); refine blk_far ?_ NB126_127.out _; (with_reducible repeat (first | refine blk_drewN ?_ _ | refine blk_drew ?_ | refine blk_alloc ?_ _)); refine blk_far ?_ NB126_127.out _; (with_reducible repeat (first | refine blk_drewN ?_ _ | refine blk_drew ?_ | refine blk_alloc ?_ _)); refine blk_far ?_ NB126_127.out _; (with_reducible repeat (first | refine blk_drewN ?_ _ | refine blk_drew ?_ | refine blk_alloc ?_ _)); refine blk_far ?_ NB126_127.out _; (with_reducible repeat (first | refine blk_drewN ?_ _ | refine blk_drew ?_ | refine blk_alloc ?_ _)); exact BK126.out⟩, ⟨by (with_reducible repeat (first | refine blk_drewN ?_ _ | refine blk_drew ?_ | refine blk_alloc ?_ _)); refine blk_put (cs := #[.int .i64 0, .string (⟨#[]⟩ : ByteArray), .int .i64 0, .int .i64 0]) ?_ 3 _ rfl; (with_reducible repeat (first | refine blk_drewN ?_ _ | refine blk_drew ?_ | refine blk_alloc ?_ _)); refine blk_put (cs := #[.int .i64 0, .string (⟨#[]⟩ : ByteArray), .int .i64 0, .int .i64 0]) ?_ 2 _ rfl; (with_reducible repeat (first | refine blk_drewN ?_ _ | refine blk_drew ?_ | refine blk_alloc ?_ _)); refine blk_put (cs := #[.int .i64 0, .string (⟨#[]⟩ : ByteArray), .int .i64 0, .int .i64 0]) ?_ 1 _ rfl; (with_reducible repeat (first | refine blk_drewN ?_ _ | refine blk_drew ?_ | refine blk_alloc ?_ _)); refine blk_put (cs := #[.int .i64 0, .string (⟨#[]⟩ : ByteArray), .int .i64 0, .int .i64 0]) ?_ 0 _ rfl; (with_reducible repeat (first | refine blk_drewN ?_ _ | refine blk_drew ?_ | refine blk_alloc ?_ _)); exact BK127.out⟩, ⟨by repeat (first | (with_reducible first | exact HB.out | apply below_alloc | apply pw_below_drewN | apply below_drew1 | refine below_set ?_ GE126.out | refine below_set ?_ GE127.out) | exact HB.out)⟩⟩
          ·
           rw [if_neg c50] at H
           have c50b0 : ((bt a0 0) == 35) = false := beq_eq_false_iff_ne.mpr c50
           have c50b1 : ((bt a0 0) != 35) = true := bne_iff_ne.mpr c50
           have H' := Aside0.mk H
           clear H
           go_wp2
           repeat (go_quiet (fail); try go_wp2)
           go_meet
           case rel => exact ⟨_, (((bt a0 0) == 63)), (by first | rfl | (simp; done) | (simp [*]; done) | (simp only [isEmpty_ne, Bool.not_not]) | (simp only [isEmpty_ne])), H', ⟨by first | omega | exact Nat.le_refl _⟩, ⟨by (with_reducible repeat (first | refine blk_drewN ?_ _ | refine blk_drew ?_ | refine blk_alloc ?_ _)); refine blk_far ?_ NB126_127.out _; (with_reducible repeat (first | refine blk_drewN ?_ _ | refine blk_drew ?_ | refine blk_alloc ?_ _)); refine blk_far ?_ NB126_127.out _; (with_reducible repeat (first | refine blk_drewN ?_ _ | refine blk_drew ?_ | refine blk_alloc ?_ _)); refine blk_far ?_ NB126_127.out _; (with_reducible repeat (first | refine blk_drewN ?_ _ | refine blk_drew ?_ | refine blk_alloc ?_ _)); refine blk_far ?_ NB126_127.out _; (with_reducible repeat (first | refine blk_drewN ?_ _ | refine blk_drew ?_ | refine blk_alloc ?_ _)); exact BK126.out⟩, ⟨by (with_reducible repeat (first | refine blk_drewN ?_ _ | refine blk_drew ?_ | refine blk_alloc ?_ _)); refine blk_put (cs := #[.int .i64 0, .string (⟨#[]⟩ : ByteArray), .int .i64 0, .int .i64 0]) ?_ 3 _ rfl; (with_reducible repeat (first | refine blk_drewN ?_ _ | refine blk_drew ?_ | refine blk_alloc ?_ _)); refine blk_put (cs := #[.int .i64 0, .string (⟨#[]⟩ : ByteArray), .int .i64 0, .int .i64 0]) ?_ 2 _ rfl; (with_reducible repeat (first | refine blk_drewN ?_ _ | refine blk_drew ?_ | refine blk_alloc ?_ _)); refine blk_put (cs := #[.int .i64 0, .string (⟨#[]⟩ : ByteArray), .int .i64 0, .int .i64 0]) ?_ 1 _ rfl; (with_reducible repeat (first | refine blk_drewN ?_ _ | refine blk_drew ?_ | refine blk_alloc ?_ _)); refine blk_put (cs := #[.int .i64 0, .string (⟨#[]⟩ : ByteArray), .int .i64 0, .int .i64 0]) ?_ 0 _ rfl; (with_reducible repeat (first | refine blk_drewN ?_ _ | refine blk_drew ?_ | refine blk_alloc ?_ _)); exact BK127.out⟩, ⟨by repeat (first | (with_reducible first | exact HB.out | apply below_alloc | apply pw_below_drewN | apply below_drew1 | refine below_set ?_ GE126.out | refine below_set ?_ GE127.out) | exact HB.out)⟩⟩
        case rest =>
         clear HC44
         (try clear c1); (try clear c2); (try clear c2b0); (try clear c2b1); (try clear p2); (try clear c3); (try clear p3); (try clear q3); (try clear hx3); (try clear qi3); (try clear c4); (try clear c4b0); (try clear c4b1); (try clear c5); (try clear c8); (try clear c12); (try clear c12b0); (try clear c12b1); (try clear c16); (try clear c20); (try clear c20b0); (try clear c20b1); (try clear c24); (try clear c28); (try clear c28b0); (try clear c28b1); (try clear c32); (try clear c36); (try clear c36b0); (try clear c36b1); (try clear c40); (try clear c47); (try clear c49); (try clear c49b0); (try clear c49b1); (try clear c50); (try clear c50b0); (try clear c50b1); (try clear hcz11_0); (try clear hcz11_1); (try clear hcz11_2); (try clear hcz11_3); (try clear hcz17_0); (try clear hcz17_1); (try clear hcz17_2); (try clear hcz17_3); (try clear hcz19_0); (try clear hcz19_1); (try clear hcz19_2); (try clear hcz19_3); (try clear hcz25_0); (try clear hcz25_1); (try clear hcz25_2); (try clear hcz25_3); (try clear hcz27_0); (try clear hcz27_1); (try clear hcz27_2); (try clear hcz27_3); (try clear hcz33_0); (try clear hcz33_1); (try clear hcz33_2); (try clear hcz33_3); (try clear hcz35_0); (try clear hcz35_1); (try clear hcz35_2); (try clear hcz35_3); (try clear hcz41_0); (try clear hcz41_1); (try clear hcz41_2); (try clear hcz41_3); (try clear hcz43_0); (try clear hcz43_1); (try clear hcz43_2); (try clear hcz43_3); (try clear hcz48_0); (try clear hcz48_1); (try clear hcz48_2); (try clear hcz48_3); (try clear hcz9_0); (try clear hcz9_1); (try clear hcz9_2); (try clear hcz9_3); (try clear hfz11_0); (try clear hfz11_1); (try clear hfz11_2); (try clear hfz11_3); (try clear hfz17_0); (try clear hfz17_1); (try clear hfz17_2); (try clear hfz17_3); (try clear hfz19_0); (try clear hfz19_1); (try clear hfz19_2); (try clear hfz19_3); (try clear hfz25_0); (try clear hfz25_1); (try clear hfz25_2); (try clear hfz25_3); (try clear hfz27_0); (try clear hfz27_1); (try clear hfz27_2); (try clear hfz27_3); (try clear hfz33_0); (try clear hfz33_1); (try clear hfz33_2); (try clear hfz33_3); (try clear hfz35_0); (try clear hfz35_1); (try clear hfz35_2); (try clear hfz35_3); (try clear hfz41_0); (try clear hfz41_1); (try clear hfz41_2); (try clear hfz41_3); (try clear hfz43_0); (try clear hfz43_1); (try clear hfz43_2); (try clear hfz43_3); (try clear hfz48_0); (try clear hfz48_1); (try clear hfz48_2); (try clear hfz48_3); (try clear hfz9_0); (try clear hfz9_1); (try clear hfz9_2); (try clear hfz9_3); (try clear p3); (try clear q3)
         obtain ⟨kq, x70_43, rfl, HA, HJ43, BK126, BK127, HB⟩ := hcut
         cases kq with
         | zero => exact absurd HA.out (by simp [numeraryref11_First.j0])
         | succ kj43 =>
          have H := HA.out
          clear HA
          simp only [numeraryref11_First.j0] at H
          by_cases c51 : x70_43 = true
          ·
           subst c51
           have H1 := H
           rw [if_pos rfl] at H1
           clear H
           have H := H1
           clear H1
           by_cases c52 : 0 ≤ 1
           ·
            rw [if_pos c52] at H
            have c52b0 := eq_true c52
            have c52b1 : decide (0 ≤ 1) = true := decide_eq_true c52
            clear c52
            by_cases c53 : 1 ≤ (a0.size : Int)
            ·
             rw [if_pos c53] at H
             have c53b0 := eq_true c53
             have c53b1 : decide (1 ≤ (a0.size : Int)) = true := decide_eq_true c53
             clear c53
             simp only [Option.some.injEq, Prod.mk.injEq] at H
             obtain ⟨rfl, rfl, rfl, rfl, rfl, rfl, rfl⟩ := H
             have hnb54 := NB126_127.out
             have hnc54 := NB127_126.out
             have hcz55_0 : wc.cell? ⟨gb126, 0, none⟩ = some (.int .i64 0) := (blk_cell BK126.out 0).trans rfl
             have hcz55_1 : wc.cell? ⟨gb126, 1, none⟩ = some (.string (⟨#[]⟩ : ByteArray)) := (blk_cell BK126.out 1).trans rfl
             have hcz55_2 : wc.cell? ⟨gb126, 2, none⟩ = some (.int .i64 0) := (blk_cell BK126.out 2).trans rfl
             have hcz55_3 : wc.cell? ⟨gb126, 3, none⟩ = some (.int .i64 0) := (blk_cell BK126.out 3).trans rfl
             have hfz55_0 := blk_frozen BK126.out 0
             have hfz55_1 := blk_frozen BK126.out 1
             have hfz55_2 := blk_frozen BK126.out 2
             have hfz55_3 := blk_frozen BK126.out 3
             go_wp2
             repeat (go_quiet (fail); try go_wp2)
             refine bodyPost_ret (results_list (rs := [.cell 2 75, .tmp 3, .tmp 4, .tmp 5]) rfl (by simp) (.cell gb126 75 #[.int .i64 6, .string (a0.extract 0 1), .int .i64 1, .int .i64 0] (0, 0) _ rfl (by (with_reducible repeat (first | refine blk_drewN ?_ _ | refine blk_drew ?_ | refine blk_alloc ?_ _)); refine blk_put (cs := #[.int .i64 6, .string (a0.extract 0 1), .int .i64 1, .int .i64 0]) ?_ 3 _ rfl; (with_reducible repeat (first | refine blk_drewN ?_ _ | refine blk_drew ?_ | refine blk_alloc ?_ _)); refine blk_put (cs := #[.int .i64 6, .string (a0.extract 0 1), .int .i64 0, .int .i64 0]) ?_ 2 _ rfl; (with_reducible repeat (first | refine blk_drewN ?_ _ | refine blk_drew ?_ | refine blk_alloc ?_ _)); refine blk_put (cs := #[.int .i64 6, .string (⟨#[]⟩ : ByteArray), .int .i64 0, .int .i64 0]) ?_ 1 _ rfl; (with_reducible repeat (first | refine blk_drewN ?_ _ | refine blk_drew ?_ | refine blk_alloc ?_ _)); refine blk_put (cs := #[.int .i64 0, .string (⟨#[]⟩ : ByteArray), .int .i64 0, .int .i64 0]) ?_ 0 _ rfl; (with_reducible repeat (first | refine blk_drewN ?_ _ | refine blk_drew ?_ | refine blk_alloc ?_ _)); exact BK126.out) Tryz.underlying75 rfl (by kernel_rfl) (.tmp (.tmp (.tmp .nil))))) rfl ?_
             exact ⟨by first | rfl | (simp [errW_none, errW_some] <;> rfl) | (simp [*, errW_none, errW_some] <;> rfl), by repeat (first | (with_reducible first | exact HB.out | apply below_alloc | apply pw_below_drewN | apply below_drew1 | refine below_set ?_ GE126.out | refine below_set ?_ GE127.out) | exact HB.out)⟩
            ·
             rw [if_neg c53] at H
             exact absurd H (by simp)
           ·
            rw [if_neg c52] at H
            exact absurd H (by simp)
          ·
           replace c51 := Bool.eq_false_iff.mpr c51
           subst c51
           have H1 := H
           rw [if_neg (show ¬ (false = true) by decide)] at H1
           clear H
           have H := H1
           clear H1
           have H' := Aside0.mk H
           clear H
           go_wp2
           repeat (go_quiet (fail); try go_wp2)
           go_loopg [9] kj43 (fun kq v9 w' => ∃ (x9_2 : Int) (x127000_2 : Int) (x127001_2 : ByteArray) (x127002_2 : Int) (x127003_2 : Int), v9 = .int .i64 x9_2 ∧ Aside0 (numeraryref11_First.l0 kq a0 (bt a0 0) (⟨#[46, 44, 37, 47, 59, 64]⟩ : ByteArray) x9_2 0 (⟨#[]⟩ : ByteArray) 0 0 = some (r1, r2, r3, r4, r5, r6, r7)) ∧ Aside0 (kq ≤ kj43) ∧ Aside0 (w'.heap[gb126]? = some (.cells #[.int .i64 x127000_2, .string x127001_2, .int .i64 x127002_2, .int .i64 x127003_2] 75 (0, 0))) ∧ Aside0 (w'.heap[gb127]? = some (.cells #[.int .i64 0, .string (⟨#[]⟩ : ByteArray), .int .i64 0, .int .i64 0] 75 (0, 0))) ∧ Aside0 (Below w.heap.size w w'))
           case atStart => exact ⟨(0), (0), ((⟨#[]⟩ : ByteArray)), (0), (0), (by first | rfl | (simp; done) | (simp [*]; done) | (simp only [isEmpty_ne, Bool.not_not]) | (simp only [isEmpty_ne])), H', ⟨Nat.le_refl _⟩, ⟨by (with_reducible repeat (first | refine blk_drewN ?_ _ | refine blk_drew ?_ | refine blk_alloc ?_ _)); exact BK126.out⟩, ⟨by (with_reducible repeat (first | refine blk_drewN ?_ _ | refine blk_drew ?_ | refine blk_alloc ?_ _)); exact BK127.out⟩, ⟨by repeat (first | (with_reducible first | exact HB.out | apply below_alloc | apply pw_below_drewN | apply below_drew1 | refine below_set ?_ GE126.out | refine below_set ?_ GE127.out) | exact HB.out)⟩⟩
           case round =>
            clear H'
            (try clear c1); (try clear c2); (try clear c2b0); (try clear c2b1); (try clear p2); (try clear c3); (try clear p3); (try clear q3); (try clear hx3); (try clear qi3); (try clear c4); (try clear c4b0); (try clear c4b1); (try clear c5); (try clear c8); (try clear c12); (try clear c12b0); (try clear c12b1); (try clear c16); (try clear c20); (try clear c20b0); (try clear c20b1); (try clear c24); (try clear c28); (try clear c28b0); (try clear c28b1); (try clear c32); (try clear c36); (try clear c36b0); (try clear c36b1); (try clear c40); (try clear c47); (try clear c49); (try clear c49b0); (try clear c49b1); (try clear c50); (try clear c50b0); (try clear c50b1); (try clear c51); (try clear c52); (try clear c52b0); (try clear c52b1); (try clear c53); (try clear c53b0); (try clear c53b1); (try clear c54); (try clear hcz11_0); (try clear hcz11_1); (try clear hcz11_2); (try clear hcz11_3); (try clear hcz17_0); (try clear hcz17_1); (try clear hcz17_2); (try clear hcz17_3); (try clear hcz19_0); (try clear hcz19_1); (try clear hcz19_2); (try clear hcz19_3); (try clear hcz25_0); (try clear hcz25_1); (try clear hcz25_2); (try clear hcz25_3); (try clear hcz27_0); (try clear hcz27_1); (try clear hcz27_2); (try clear hcz27_3); (try clear hcz33_0); (try clear hcz33_1); (try clear hcz33_2); (try clear hcz33_3); (try clear hcz35_0); (try clear hcz35_1); (try clear hcz35_2); (try clear hcz35_3); (try clear hcz41_0); (try clear hcz41_1); (try clear hcz41_2); (try clear hcz41_3); (try clear hcz43_0); (try clear hcz43_1); (try clear hcz43_2); (try clear hcz43_3); (try clear hcz48_0); (try clear hcz48_1); (try clear hcz48_2); (try clear hcz48_3); (try clear hcz55_0); (try clear hcz55_1); (try clear hcz55_2); (try clear hcz55_3); (try clear hcz9_0); (try clear hcz9_1); (try clear hcz9_2); (try clear hcz9_3); (try clear hfz11_0); (try clear hfz11_1); (try clear hfz11_2); (try clear hfz11_3); (try clear hfz17_0); (try clear hfz17_1); (try clear hfz17_2); (try clear hfz17_3); (try clear hfz19_0); (try clear hfz19_1); (try clear hfz19_2); (try clear hfz19_3); (try clear hfz25_0); (try clear hfz25_1); (try clear hfz25_2); (try clear hfz25_3); (try clear hfz27_0); (try clear hfz27_1); (try clear hfz27_2); (try clear hfz27_3); (try clear hfz33_0); (try clear hfz33_1); (try clear hfz33_2); (try clear hfz33_3); (try clear hfz35_0); (try clear hfz35_1); (try clear hfz35_2); (try clear hfz35_3); (try clear hfz41_0); (try clear hfz41_1); (try clear hfz41_2); (try clear hfz41_3); (try clear hfz43_0); (try clear hfz43_1); (try clear hfz43_2); (try clear hfz43_3); (try clear hfz48_0); (try clear hfz48_1); (try clear hfz48_2); (try clear hfz48_3); (try clear hfz55_0); (try clear hfz55_1); (try clear hfz55_2); (try clear hfz55_3); (try clear hfz9_0); (try clear hfz9_1); (try clear hfz9_2); (try clear hfz9_3); (try clear p2); (try clear p3); (try clear q3)
            obtain ⟨x9_2, x127000_2, x127001_2, x127002_2, x127003_2, rfl, HA, HK2, BK126, BK127, HB⟩ := hrel
            cases gk with
            | zero => exact absurd HA.out (by simp [numeraryref11_First.l0])
            | succ k2 =>
             have H := HA.out
             clear HA
             simp only [numeraryref11_First.l0] at H
             by_cases c56 : x9_2 < ((⟨#[46, 44, 37, 47, 59, 64]⟩ : ByteArray).size : Int)
             ·
              rw [if_pos c56] at H
              have c56b0 : decide (x9_2 < ((⟨#[46, 44, 37, 47, 59, 64]⟩ : ByteArray).size : Int)) = true := decide_eq_true c56
              (try (have c56z0 : decide (x9_2 < (6 : Int)) = true := c56b0))
              clear c56
              by_cases c57 : 0 ≤ x9_2
              ·
               rw [if_pos c57] at H
               have c57b0 : decide (0 ≤ x9_2) = true := decide_eq_true c57
               clear c57
               by_cases c59 : (bt (⟨#[46, 44, 37, 47, 59, 64]⟩ : ByteArray) x9_2) = (bt a0 0)
               ·
                rw [if_pos c59] at H
                have c59b0 : ((bt (⟨#[46, 44, 37, 47, 59, 64]⟩ : ByteArray) x9_2) == (bt a0 0)) = true := beq_iff_eq.mpr c59
                have c59b1 : ((bt (⟨#[46, 44, 37, 47, 59, 64]⟩ : ByteArray) x9_2) != (bt a0 0)) = false := bne_eq_false_iff_eq.mpr c59
                clear c59
                by_cases c60 : 0 ≤ 1
                ·
                 rw [if_pos c60] at H
                 have c60b0 := eq_true c60
                 have c60b1 : decide (0 ≤ 1) = true := decide_eq_true c60
                 clear c60
                 by_cases c61 : 1 ≤ (a0.size : Int)
                 ·
                  rw [if_pos c61] at H
                  have c61b0 := eq_true c61
                  have c61b1 : decide (1 ≤ (a0.size : Int)) = true := decide_eq_true c61
                  clear c61
                  simp only [Option.some.injEq, Prod.mk.injEq] at H
                  obtain ⟨rfl, rfl, rfl, rfl, rfl, rfl, rfl⟩ := H
                  have p58 : 0 ≤ (x9_2 : Int) := of_decide_eq_true (by first | (with_reducible assumption) | assumption)
                  have q58 : x9_2 < (6 : Int) := of_decide_eq_true (by first | (with_reducible assumption) | assumption)
                  have hx58 := bt_at (⟨#[46, 44, 37, 47, 59, 64]⟩ : ByteArray) x9_2
                  replace p58 := eq_true p58
                  replace q58 := eq_true q58
                  have hnb62 := NB126_127.out
                  have hnc62 := NB127_126.out
                  have hcz63_0 : wr.cell? ⟨gb126, 0, none⟩ = some (.int .i64 x127000_2) := (blk_cell BK126.out 0).trans rfl
                  have hcz63_1 : wr.cell? ⟨gb126, 1, none⟩ = some (.string x127001_2) := (blk_cell BK126.out 1).trans rfl
                  have hcz63_2 : wr.cell? ⟨gb126, 2, none⟩ = some (.int .i64 x127002_2) := (blk_cell BK126.out 2).trans rfl
                  have hcz63_3 : wr.cell? ⟨gb126, 3, none⟩ = some (.int .i64 x127003_2) := (blk_cell BK126.out 3).trans rfl
                  have hfz63_0 := blk_frozen BK126.out 0
                  have hfz63_1 := blk_frozen BK126.out 1
                  have hfz63_2 := blk_frozen BK126.out 2
                  have hfz63_3 := blk_frozen BK126.out 3
                  go_wp2
                  repeat (go_quiet (fail); try go_wp2)
                  refine bodyPost_ret (results_list (rs := [.cell 2 75, .tmp 3, .tmp 4, .tmp 5]) rfl (by simp) (.cell gb126 75 #[.int .i64 (wrap64 (7 + x9_2)), .string (a0.extract 0 1), .int .i64 1, .int .i64 0] (0, 0) _ rfl (by (with_reducible repeat (first | refine blk_drewN ?_ _ | refine blk_drew ?_ | refine blk_alloc ?_ _)); refine blk_put (cs := #[.int .i64 (wrap64 (7 + x9_2)), .string (a0.extract 0 1), .int .i64 1, .int .i64 x127003_2]) ?_ 3 _ rfl; (with_reducible repeat (first | refine blk_drewN ?_ _ | refine blk_drew ?_ | refine blk_alloc ?_ _)); refine blk_put (cs := #[.int .i64 (wrap64 (7 + x9_2)), .string (a0.extract 0 1), .int .i64 x127002_2, .int .i64 x127003_2]) ?_ 2 _ rfl; (with_reducible repeat (first | refine blk_drewN ?_ _ | refine blk_drew ?_ | refine blk_alloc ?_ _)); refine blk_put (cs := #[.int .i64 (wrap64 (7 + x9_2)), .string x127001_2, .int .i64 x127002_2, .int .i64 x127003_2]) ?_ 1 _ rfl; (with_reducible repeat (first | refine blk_drewN ?_ _ | refine blk_drew ?_ | refine blk_alloc ?_ _)); refine blk_put (cs := #[.int .i64 x127000_2, .string x127001_2, .int .i64 x127002_2, .int .i64 x127003_2]) ?_ 0 _ rfl; (with_reducible repeat (first | refine blk_drewN ?_ _ | refine blk_drew ?_ | refine blk_alloc ?_ _)); exact BK126.out) Tryz.underlying75 rfl (by kernel_rfl) (.tmp (.tmp (.tmp .nil))))) rfl ?_
                  exact ⟨by first | rfl | (simp [errW_none, errW_some] <;> rfl) | (simp [*, errW_none, errW_some] <;> rfl), by repeat (first | (with_reducible first | exact HB.out | apply below_alloc | apply pw_below_drewN | apply below_drew1 | refine below_set ?_ GE126.out | refine below_set ?_ GE127.out) | exact HB.out)⟩
                 ·
                  rw [if_neg c61] at H
                  exact absurd H (by simp)
                ·
                 rw [if_neg c60] at H
                 exact absurd H (by simp)
               ·
                rw [if_neg c59] at H
                have c59b0 : ((bt (⟨#[46, 44, 37, 47, 59, 64]⟩ : ByteArray) x9_2) == (bt a0 0)) = false := beq_eq_false_iff_ne.mpr c59
                have c59b1 : ((bt (⟨#[46, 44, 37, 47, 59, 64]⟩ : ByteArray) x9_2) != (bt a0 0)) = true := bne_iff_ne.mpr c59
                have H' := Aside0.mk H
                clear H
                have p58 : 0 ≤ (x9_2 : Int) := of_decide_eq_true (by first | (with_reducible assumption) | assumption)
                have q58 : x9_2 < (6 : Int) := of_decide_eq_true (by first | (with_reducible assumption) | assumption)
                have hx58 := bt_at (⟨#[46, 44, 37, 47, 59, 64]⟩ : ByteArray) x9_2
                replace p58 := eq_true p58
                replace q58 := eq_true q58
                go_wp2
                repeat (go_quiet (fail); try go_wp2)
                go_roundg k2
                case measure => have := HJ43.out; have := HK2.out; omega
                case rel => exact ⟨(wrap64 (x9_2 + 1)), (x127000_2), (x127001_2), (x127002_2), (x127003_2), (by first | rfl | (simp; done) | (simp [*]; done) | (simp only [isEmpty_ne, Bool.not_not]) | (simp only [isEmpty_ne])), H', ⟨by have := HJ43.out; have := HK2.out; omega⟩, ⟨by (with_reducible repeat (first | refine blk_drewN ?_ _ | refine blk_drew ?_ | refine blk_alloc ?_ _)); exact BK126.out⟩, ⟨by (with_reducible repeat (first | refine blk_drewN ?_ _ | refine blk_drew ?_ | refine blk_alloc ?_ _)); exact BK127.out⟩, ⟨by repeat (first | (with_reducible first | exact HB.out | apply below_alloc | apply pw_below_drewN | apply below_drew1 | refine below_set ?_ GE126.out | refine below_set ?_ GE127.out) | exact HB.out)⟩⟩
              ·
               rw [if_neg c57] at H
               exact absurd H (by simp)
             ·
              rw [if_neg c56] at H
              have c56b0 : decide (x9_2 < ((⟨#[46, 44, 37, 47, 59, 64]⟩ : ByteArray).size : Int)) = false := decide_eq_false c56
              (try (have c56z0 : decide (x9_2 < (6 : Int)) = false := c56b0))
              clear c56
              have HC64 := Aside0.mk H
              clear H
              go_upto_region 21 with (fail)
              repeat (go_quiet (fail); go_upto_region 21 with (fail))
              go_cut [110] (fun v110 wc => ∃ (kq : Nat) (x110_63 : Bool), v110 = .bool x110_63 ∧ Aside0 (numeraryref11_First.j2 kq a0 (bt a0 0) x110_63 0 (⟨#[]⟩ : ByteArray) 0 0 = some (r1, r2, r3, r4, r5, r6, r7)) ∧ Aside0 (kq ≤ k2) ∧ Aside0 (wc.heap[gb126]? = some (.cells #[.int .i64 x127000_2, .string x127001_2, .int .i64 x127002_2, .int .i64 x127003_2] 75 (0, 0))) ∧ Aside0 (wc.heap[gb127]? = some (.cells #[.int .i64 0, .string (⟨#[]⟩ : ByteArray), .int .i64 0, .int .i64 0] 75 (0, 0))) ∧ Aside0 (Below w.heap.size w wc))
              case first =>
               have H := HC64.out
               clear HC64
               by_cases c65 : (a0.size : Int) > 1
               ·
                rw [if_pos c65] at H
                have c65b0 : decide (1 < (a0.size : Int)) = true := decide_eq_true c65
                have c65b1 : decide (1 < a0.size) = true := decide_eq_true (by omega)
                clear c65
                (first | rw [c65b0] | (simp only [i64_w, i32_w]; rw [c65b0]) | skip)
                by_cases c66 : (bt a0 0) = 69
                ·
                 rw [if_pos c66] at H
                 have c66b0 : ((bt a0 0) == 69) = true := beq_iff_eq.mpr c66
                 have c66b1 : ((bt a0 0) != 69) = false := bne_eq_false_iff_eq.mpr c66
                 clear c66
                 by_cases c67 : 1 < (a0.size : Int)
                 ·
                  rw [if_pos c67] at H
                  have c67b0 : decide (1 < (a0.size : Int)) = true := decide_eq_true c67
                  have c67b1 : decide (1 < a0.size) = true := decide_eq_true (by omega)
                  clear c67
                  by_cases c69 : (bt a0 1) = 43
                  ·
                   rw [if_pos c69] at H
                   have c69b0 : ((bt a0 1) == 43) = true := beq_iff_eq.mpr c69
                   have c69b1 : ((bt a0 1) != 43) = false := bne_eq_false_iff_eq.mpr c69
                   clear c69
                   have H' := Aside0.mk H
                   clear H
                   have p68 : 0 ≤ (1 : Int) := (by omega)
                   have q68 : 1 < a0.size := (by have : (1 : Int) < (a0.size : Int) := of_decide_eq_true (by first | (with_reducible assumption) | assumption); omega)
                   have hx68 : ∀ h : 1 < a0.size, ((a0[1]'h).toNat : Int) = bt a0 1 := bt_at a0 1
                   clear p68
                   have qi68 : (1 < (a0.size : Int)) = True := eq_true (of_decide_eq_true (by first | (with_reducible assumption) | assumption))
                   replace q68 := eq_true q68
                   go_wp2
                   repeat (go_quiet (fail); try go_wp2)
                   go_meet
                   case rel => exact ⟨_, (true), (by first | rfl | (simp; done) | (simp [*]; done) | (simp only [isEmpty_ne, Bool.not_not]) | (simp only [isEmpty_ne])), H', ⟨by have := HJ43.out; have := HK2.out; first | omega | exact Nat.le_refl _⟩, ⟨by (with_reducible repeat (first | refine blk_drewN ?_ _ | refine blk_drew ?_ | refine blk_alloc ?_ _)); exact BK126.out⟩, ⟨by (with_reducible repeat (first | refine blk_drewN ?_ _ | refine blk_drew ?_ | refine blk_alloc ?_ _)); exact BK127.out⟩, ⟨by repeat (first | (with_reducible first | exact HB.out | apply below_alloc | apply pw_below_drewN | apply below_drew1 | refine below_set ?_ GE126.out | refine below_set ?_ GE127.out) | exact HB.out)⟩⟩
                  ·
                   rw [if_neg c69] at H
                   have c69b0 : ((bt a0 1) == 43) = false := beq_eq_false_iff_ne.mpr c69
                   have c69b1 : ((bt a0 1) != 43) = true := bne_iff_ne.mpr c69
                   have H' := Aside0.mk H
                   clear H
                   have p68 : 0 ≤ (1 : Int) := (by omega)
                   have q68 : 1 < a0.size := (by have : (1 : Int) < (a0.size : Int) := of_decide_eq_true (by first | (with_reducible assumption) | assumption); omega)
                   have hx68 : ∀ h : 1 < a0.size, ((a0[1]'h).toNat : Int) = bt a0 1 := bt_at a0 1
                   clear p68
                   have qi68 : (1 < (a0.size : Int)) = True := eq_true (of_decide_eq_true (by first | (with_reducible assumption) | assumption))
                   replace q68 := eq_true q68
                   have p70 : 0 ≤ (1 : Int) := (by omega)
                   have q70 : 1 < a0.size := (by have : (1 : Int) < (a0.size : Int) := of_decide_eq_true (by first | (with_reducible assumption) | assumption); omega)
                   have hx70 : ∀ h : 1 < a0.size, ((a0[1]'h).toNat : Int) = bt a0 1 := bt_at a0 1
                   clear p70
                   have qi70 : (1 < (a0.size : Int)) = True := eq_true (of_decide_eq_true (by first | (with_reducible assumption) | assumption))
                   replace q70 := eq_true q70
                   go_wp2
                   repeat (go_quiet (fail); try go_wp2)
                   go_meet
                   case rel => exact ⟨_, (((bt a0 1) == 45)), (by first | rfl | (simp; done) | (simp [*]; done) | (simp only [isEmpty_ne, Bool.not_not]) | (simp only [isEmpty_ne])), H', ⟨by have := HJ43.out; have := HK2.out; first | omega | exact Nat.le_refl _⟩, ⟨by (with_reducible repeat (first | refine blk_drewN ?_ _ | refine blk_drew ?_ | refine blk_alloc ?_ _)); exact BK126.out⟩, ⟨by (with_reducible repeat (first | refine blk_drewN ?_ _ | refine blk_drew ?_ | refine blk_alloc ?_ _)); exact BK127.out⟩, ⟨by repeat (first | (with_reducible first | exact HB.out | apply below_alloc | apply pw_below_drewN | apply below_drew1 | refine below_set ?_ GE126.out | refine below_set ?_ GE127.out) | exact HB.out)⟩⟩
                 ·
                  rw [if_neg c67] at H
                  exact absurd H (by simp)
                ·
                 rw [if_neg c66] at H
                 have c66b0 : ((bt a0 0) == 69) = false := beq_eq_false_iff_ne.mpr c66
                 have c66b1 : ((bt a0 0) != 69) = true := bne_iff_ne.mpr c66
                 by_cases c71 : (bt a0 0) = 101
                 ·
                  rw [if_pos c71] at H
                  have c71b0 : ((bt a0 0) == 101) = true := beq_iff_eq.mpr c71
                  have c71b1 : ((bt a0 0) != 101) = false := bne_eq_false_iff_eq.mpr c71
                  clear c71
                  by_cases c72 : 1 < (a0.size : Int)
                  ·
                   rw [if_pos c72] at H
                   have c72b0 : decide (1 < (a0.size : Int)) = true := decide_eq_true c72
                   have c72b1 : decide (1 < a0.size) = true := decide_eq_true (by omega)
                   clear c72
                   by_cases c74 : (bt a0 1) = 43
                   ·
                    rw [if_pos c74] at H
                    have c74b0 : ((bt a0 1) == 43) = true := beq_iff_eq.mpr c74
                    have c74b1 : ((bt a0 1) != 43) = false := bne_eq_false_iff_eq.mpr c74
                    clear c74
                    have H' := Aside0.mk H
                    clear H
                    have p73 : 0 ≤ (1 : Int) := (by omega)
                    have q73 : 1 < a0.size := (by have : (1 : Int) < (a0.size : Int) := of_decide_eq_true (by first | (with_reducible assumption) | assumption); omega)
                    have hx73 : ∀ h : 1 < a0.size, ((a0[1]'h).toNat : Int) = bt a0 1 := bt_at a0 1
                    clear p73
                    have qi73 : (1 < (a0.size : Int)) = True := eq_true (of_decide_eq_true (by first | (with_reducible assumption) | assumption))
                    replace q73 := eq_true q73
                    go_wp2
                    repeat (go_quiet (fail); try go_wp2)
                    go_meet
                    case rel => exact ⟨_, (true), (by first | rfl | (simp; done) | (simp [*]; done) | (simp only [isEmpty_ne, Bool.not_not]) | (simp only [isEmpty_ne])), H', ⟨by have := HJ43.out; have := HK2.out; first | omega | exact Nat.le_refl _⟩, ⟨by (with_reducible repeat (first | refine blk_drewN ?_ _ | refine blk_drew ?_ | refine blk_alloc ?_ _)); exact BK126.out⟩, ⟨by (with_reducible repeat (first | refine blk_drewN ?_ _ | refine blk_drew ?_ | refine blk_alloc ?_ _)); exact BK127.out⟩, ⟨by repeat (first | (with_reducible first | exact HB.out | apply below_alloc | apply pw_below_drewN | apply below_drew1 | refine below_set ?_ GE126.out | refine below_set ?_ GE127.out) | exact HB.out)⟩⟩
                   ·
                    rw [if_neg c74] at H
                    have c74b0 : ((bt a0 1) == 43) = false := beq_eq_false_iff_ne.mpr c74
                    have c74b1 : ((bt a0 1) != 43) = true := bne_iff_ne.mpr c74
                    have H' := Aside0.mk H
                    clear H
                    have p73 : 0 ≤ (1 : Int) := (by omega)
                    have q73 : 1 < a0.size := (by have : (1 : Int) < (a0.size : Int) := of_decide_eq_true (by first | (with_reducible assumption) | assumption); omega)
                    have hx73 : ∀ h : 1 < a0.size, ((a0[1]'h).toNat : Int) = bt a0 1 := bt_at a0 1
                    clear p73
                    have qi73 : (1 < (a0.size : Int)) = True := eq_true (of_decide_eq_true (by first | (with_reducible assumption) | assumption))
                    replace q73 := eq_true q73
                    have p75 : 0 ≤ (1 : Int) := (by omega)
                    have q75 : 1 < a0.size := (by have : (1 : Int) < (a0.size : Int) := of_decide_eq_true (by first | (with_reducible assumption) | assumption); omega)
                    have hx75 : ∀ h : 1 < a0.size, ((a0[1]'h).toNat : Int) = bt a0 1 := bt_at a0 1
                    clear p75
                    have qi75 : (1 < (a0.size : Int)) = True := eq_true (of_decide_eq_true (by first | (with_reducible assumption) | assumption))
                    replace q75 := eq_true q75
                    go_wp2
                    repeat (go_quiet (fail); try go_wp2)
                    go_meet
                    case rel => exact ⟨_, (((bt a0 1) == 45)), (by first | rfl | (simp; done) | (simp [*]; done) | (simp only [isEmpty_ne, Bool.not_not]) | (simp only [isEmpty_ne])), H', ⟨by have := HJ43.out; have := HK2.out; first | omega | exact Nat.le_refl _⟩, ⟨by (with_reducible repeat (first | refine blk_drewN ?_ _ | refine blk_drew ?_ | refine blk_alloc ?_ _)); exact BK126.out⟩, ⟨by (with_reducible repeat (first | refine blk_drewN ?_ _ | refine blk_drew ?_ | refine blk_alloc ?_ _)); exact BK127.out⟩, ⟨by repeat (first | (with_reducible first | exact HB.out | apply below_alloc | apply pw_below_drewN | apply below_drew1 | refine below_set ?_ GE126.out | refine below_set ?_ GE127.out) | exact HB.out)⟩⟩
                  ·
                   rw [if_neg c72] at H
                   exact absurd H (by simp)
                 ·
                  rw [if_neg c71] at H
                  have c71b0 : ((bt a0 0) == 101) = false := beq_eq_false_iff_ne.mpr c71
                  have c71b1 : ((bt a0 0) != 101) = true := bne_iff_ne.mpr c71
                  have H' := Aside0.mk H
                  clear H
                  go_wp2
                  repeat (go_quiet (fail); try go_wp2)
                  go_meet
                  case rel => exact ⟨_, (false), (by first | rfl | (simp; done) | (simp [*]; done) | (simp only [isEmpty_ne, Bool.not_not]) | (simp only [isEmpty_ne])), H', ⟨by have := HJ43.out; have := HK2.out; first | omega | exact Nat.le_refl _⟩, ⟨by (with_reducible repeat (first | refine blk_drewN ?_ _ | refine blk_drew ?_ | refine blk_alloc ?_ _)); exact BK126.out⟩, ⟨by (with_reducible repeat (first | refine blk_drewN ?_ _ | refine blk_drew ?_ | refine blk_alloc ?_ _)); exact BK127.out⟩, ⟨by repeat (first | (with_reducible first | exact HB.out | apply below_alloc | apply pw_below_drewN | apply below_drew1 | refine below_set ?_ GE126.out | refine below_set ?_ GE127.out) | exact HB.out)⟩⟩
               ·
                rw [if_neg c65] at H
                have c65b0 : decide (1 < (a0.size : Int)) = false := decide_eq_false c65
                have c65b1 : decide (1 < a0.size) = false := decide_eq_false (by omega)
                clear c65
                (first | rw [c65b0] | (simp only [i64_w, i32_w]; rw [c65b0]) | skip)
                have H' := Aside0.mk H
                clear H
                go_wp2
                repeat (go_quiet (fail); try go_wp2)
                go_meet
                case rel => exact ⟨_, (false), (by first | rfl | (simp; done) | (simp [*]; done) | (simp only [isEmpty_ne, Bool.not_not]) | (simp only [isEmpty_ne])), H', ⟨by have := HJ43.out; have := HK2.out; first | omega | exact Nat.le_refl _⟩, ⟨by (with_reducible repeat (first | refine blk_drewN ?_ _ | refine blk_drew ?_ | refine blk_alloc ?_ _)); exact BK126.out⟩, ⟨by (with_reducible repeat (first | refine blk_drewN ?_ _ | refine blk_drew ?_ | refine blk_alloc ?_ _)); exact BK127.out⟩, ⟨by repeat (first | (with_reducible first | exact HB.out | apply below_alloc | apply pw_below_drewN | apply below_drew1 | refine below_set ?_ GE126.out | refine below_set ?_ GE127.out) | exact HB.out)⟩⟩
              case rest =>
               clear HC64
               (try clear c1); (try clear c2); (try clear c2b0); (try clear c2b1); (try clear p2); (try clear c3); (try clear p3); (try clear q3); (try clear hx3); (try clear qi3); (try clear c4); (try clear c4b0); (try clear c4b1); (try clear c5); (try clear p5); (try clear q5); (try clear hx5); (try clear c6); (try clear p6); (try clear q6); (try clear hx6); (try clear qi6); (try clear c7); (try clear p7); (try clear q7); (try clear hx7); (try clear qi7); (try clear c8); (try clear c12); (try clear c12b0); (try clear c12b1); (try clear c16); (try clear c20); (try clear c20b0); (try clear c20b1); (try clear c24); (try clear c28); (try clear c28b0); (try clear c28b1); (try clear c32); (try clear c36); (try clear c36b0); (try clear c36b1); (try clear c40); (try clear c47); (try clear c49); (try clear c49b0); (try clear c49b1); (try clear c50); (try clear c50b0); (try clear c50b1); (try clear c51); (try clear c52); (try clear c52b0); (try clear c52b1); (try clear c53); (try clear c53b0); (try clear c53b1); (try clear c54); (try clear c56); (try clear c56b0); (try clear c57); (try clear c57b0); (try clear p58); (try clear q58); (try clear hx58); (try clear c59); (try clear c59b0); (try clear c59b1); (try clear c60); (try clear c60b0); (try clear c60b1); (try clear c61); (try clear c61b0); (try clear c61b1); (try clear c62); (try clear p64); (try clear c65); (try clear c65b0); (try clear c65b1); (try clear c66); (try clear c66b0); (try clear c66b1); (try clear c67); (try clear c67b0); (try clear c67b1); (try clear p68); (try clear q68); (try clear hx68); (try clear qi68); (try clear c69); (try clear c69b0); (try clear c69b1); (try clear p70); (try clear q70); (try clear hx70); (try clear qi70); (try clear c71); (try clear c71b0); (try clear c71b1); (try clear c72); (try clear c72b0); (try clear c72b1); (try clear p73); (try clear q73); (try clear hx73); (try clear qi73); (try clear c74); (try clear c74b0); (try clear c74b1); (try clear p75); (try clear q75); (try clear hx75); (try clear qi75); (try clear hcz11_0); (try clear hcz11_1); (try clear hcz11_2); (try clear hcz11_3); (try clear hcz17_0); (try clear hcz17_1); (try clear hcz17_2); (try clear hcz17_3); (try clear hcz19_0); (try clear hcz19_1); (try clear hcz19_2); (try clear hcz19_3); (try clear hcz25_0); (try clear hcz25_1); (try clear hcz25_2); (try clear hcz25_3); (try clear hcz27_0); (try clear hcz27_1); (try clear hcz27_2); (try clear hcz27_3); (try clear hcz33_0); (try clear hcz33_1); (try clear hcz33_2); (try clear hcz33_3); (try clear hcz35_0); (try clear hcz35_1); (try clear hcz35_2); (try clear hcz35_3); (try clear hcz41_0); (try clear hcz41_1); (try clear hcz41_2); (try clear hcz41_3); (try clear hcz43_0); (try clear hcz43_1); (try clear hcz43_2); (try clear hcz43_3); (try clear hcz48_0); (try clear hcz48_1); (try clear hcz48_2); (try clear hcz48_3); (try clear hcz55_0); (try clear hcz55_1); (try clear hcz55_2); (try clear hcz55_3); (try clear hcz63_0); (try clear hcz63_1); (try clear hcz63_2); (try clear hcz63_3); (try clear hcz9_0); (try clear hcz9_1); (try clear hcz9_2); (try clear hcz9_3); (try clear hfz11_0); (try clear hfz11_1); (try clear hfz11_2); (try clear hfz11_3); (try clear hfz17_0); (try clear hfz17_1); (try clear hfz17_2); (try clear hfz17_3); (try clear hfz19_0); (try clear hfz19_1); (try clear hfz19_2); (try clear hfz19_3); (try clear hfz25_0); (try clear hfz25_1); (try clear hfz25_2); (try clear hfz25_3); (try clear hfz27_0); (try clear hfz27_1); (try clear hfz27_2); (try clear hfz27_3); (try clear hfz33_0); (try clear hfz33_1); (try clear hfz33_2); (try clear hfz33_3); (try clear hfz35_0); (try clear hfz35_1); (try clear hfz35_2); (try clear hfz35_3); (try clear hfz41_0); (try clear hfz41_1); (try clear hfz41_2); (try clear hfz41_3); (try clear hfz43_0); (try clear hfz43_1); (try clear hfz43_2); (try clear hfz43_3); (try clear hfz48_0); (try clear hfz48_1); (try clear hfz48_2); (try clear hfz48_3); (try clear hfz55_0); (try clear hfz55_1); (try clear hfz55_2); (try clear hfz55_3); (try clear hfz63_0); (try clear hfz63_1); (try clear hfz63_2); (try clear hfz63_3); (try clear hfz9_0); (try clear hfz9_1); (try clear hfz9_2); (try clear hfz9_3); (try clear p2); (try clear p3); (try clear p58); (try clear p68); (try clear p70); (try clear p73); (try clear p75); (try clear q3); (try clear q58); (try clear q68); (try clear q70); (try clear q73); (try clear q75)
               obtain ⟨kq, x110_63, rfl, HA, HJ63, BK126, BK127, HB⟩ := hcut
               cases kq with
               | zero => exact absurd HA.out (by simp [numeraryref11_First.j2])
               | succ kj63 =>
                have H := HA.out
                clear HA
                simp only [numeraryref11_First.j2] at H
                by_cases c76 : x110_63 = true
                ·
                 subst c76
                 have H1 := H
                 rw [if_pos rfl] at H1
                 clear H
                 have H := H1
                 clear H1
                 by_cases c77 : 1 ≤ 2
                 ·
                  rw [if_pos c77] at H
                  have c77b0 := eq_true c77
                  have c77b1 : decide (1 ≤ 2) = true := decide_eq_true c77
                  clear c77
                  by_cases c78 : 2 ≤ (a0.size : Int)
                  ·
                   rw [if_pos c78] at H
                   have c78b0 := eq_true c78
                   have c78b1 : decide (2 ≤ (a0.size : Int)) = true := decide_eq_true c78
                   clear c78
                   simp only [Option.some.injEq, Prod.mk.injEq] at H
                   obtain ⟨rfl, rfl, rfl, rfl, rfl, rfl, rfl⟩ := H
                   have hnb79 := NB126_127.out
                   have hnc79 := NB127_126.out
                   have hcz80_0 : wc.cell? ⟨gb126, 0, none⟩ = some (.int .i64 x127000_2) := (blk_cell BK126.out 0).trans rfl
                   have hcz80_1 : wc.cell? ⟨gb126, 1, none⟩ = some (.string x127001_2) := (blk_cell BK126.out 1).trans rfl
                   have hcz80_2 : wc.cell? ⟨gb126, 2, none⟩ = some (.int .i64 x127002_2) := (blk_cell BK126.out 2).trans rfl
                   have hcz80_3 : wc.cell? ⟨gb126, 3, none⟩ = some (.int .i64 x127003_2) := (blk_cell BK126.out 3).trans rfl
                   have hfz80_0 := blk_frozen BK126.out 0
                   have hfz80_1 := blk_frozen BK126.out 1
                   have hfz80_2 := blk_frozen BK126.out 2
                   have hfz80_3 := blk_frozen BK126.out 3
                   go_wp2
                   repeat (go_quiet (fail); try go_wp2)
                   refine bodyPost_ret (results_list (rs := [.cell 2 75, .tmp 3, .tmp 4, .tmp 5]) rfl (by simp) (.cell gb126 75 #[.int .i64 13, .string (a0.extract 1 2), .int .i64 1, .int .i64 0] (0, 0) _ rfl (by (with_reducible repeat (first | refine blk_drewN ?_ _ | refine blk_drew ?_ | refine blk_alloc ?_ _)); refine blk_put (cs := #[.int .i64 13, .string (a0.extract 1 2), .int .i64 1, .int .i64 x127003_2]) ?_ 3 _ rfl; (with_reducible repeat (first | refine blk_drewN ?_ _ | refine blk_drew ?_ | refine blk_alloc ?_ _)); refine blk_put (cs := #[.int .i64 13, .string (a0.extract 1 2), .int .i64 x127002_2, .int .i64 x127003_2]) ?_ 2 _ rfl; (with_reducible repeat (first | refine blk_drewN ?_ _ | refine blk_drew ?_ | refine blk_alloc ?_ _)); refine blk_put (cs := #[.int .i64 13, .string x127001_2, .int .i64 x127002_2, .int .i64 x127003_2]) ?_ 1 _ rfl; (with_reducible repeat (first | refine blk_drewN ?_ _ | refine blk_drew ?_ | refine blk_alloc ?_ _)); refine blk_put (cs := #[.int .i64 x127000_2, .string x127001_2, .int .i64 x127002_2, .int .i64 x127003_2]) ?_ 0 _ rfl; (with_reducible repeat (first | refine blk_drewN ?_ _ | refine blk_drew ?_ | refine blk_alloc ?_ _)); exact BK126.out) Tryz.underlying75 rfl (by kernel_rfl) (.tmp (.tmp (.tmp .nil))))) rfl ?_
                   exact ⟨by first | rfl | (simp [errW_none, errW_some] <;> rfl) | (simp [*, errW_none, errW_some] <;> rfl), by repeat (first | (with_reducible first | exact HB.out | apply below_alloc | apply pw_below_drewN | apply below_drew1 | refine below_set ?_ GE126.out | refine below_set ?_ GE127.out) | exact HB.out)⟩
                  ·
                   rw [if_neg c78] at H
                   exact absurd H (by simp)
                 ·
                  rw [if_neg c77] at H
                  exact absurd H (by simp)
                ·
                 replace c76 := Bool.eq_false_iff.mpr c76
                 subst c76
                 have H1 := H
                 rw [if_neg (show ¬ (false = true) by decide)] at H1
                 clear H
                 have H := H1
                 clear H1
                 replace H := Option.bind_eq_some_iff.mp H
                 obtain ⟨t163, A810, H⟩ := H
                 replace H : (if t163 = true then (some (15, (⟨#[65, 77, 47, 80, 77]⟩ : ByteArray), 1, 0, 5, 0, 0)) else ((numeraryref11_begins.f a0 (⟨#[97, 47, 112]⟩ : ByteArray)).bind fun t164 => (if t164 = true then (some (15, (⟨#[65, 47, 80]⟩ : ByteArray), 1, 0, 3, 0, 0)) else ((numeraryref11_begins.f a0 (⟨#[103, 101, 110, 101, 114, 97, 108]⟩ : ByteArray)).bind fun t165 => (if t165 = true then (some (16, (⟨#[71, 101, 110, 101, 114, 97, 108]⟩ : ByteArray), 1, 0, 7, 0, 0)) else ((numeraryref11_low.f a0).bind fun t166 => (if 0 < (t166.size : Int) then ((numeraryref11_has.f kj63 (⟨#[121, 109, 100, 104, 115]⟩ : ByteArray) (bt t166 0)).bind fun t167 => (if t167 = true then (numeraryref11_First.l1 kj63 t166 0) else ((numeraryref01_First.f kj63 a0).bind fun bt168 => (if bt168.2.2 = true then ((numeraryref11_has.f kj63 (⟨#[36, 45, 43, 40, 41, 58, 33, 94, 38, 39, 126, 123, 125, 60, 62, 61, 32, 49, 50, 51, 52, 53, 54, 55, 56, 57]⟩ : ByteArray) (bt a0 0)).bind fun t171 => (if (bt a0 0) < 128 then (if t171 = true then (if 0 ≤ bt168.2.1 then (if bt168.2.1 ≤ (a0.size : Int) then (some (17, a0.extract 0 (bt168.2.1 : Int).toNat, 1, 0, bt168.2.1, 0, 0)) else (none)) else (none)) else (some (0, (⟨#[]⟩ : ByteArray), 0, 0, 0, 0, 9))) else (if 0 ≤ bt168.2.1 then (if bt168.2.1 ≤ (a0.size : Int) then (some (17, a0.extract 0 (bt168.2.1 : Int).toNat, 1, 0, bt168.2.1, 0, 0)) else (none)) else (none)))) else (some (0, (⟨#[]⟩ : ByteArray), 0, 0, 0, 0, 4)))))) else (none)))))))) = some (r1, r2, r3, r4, r5, r6, r7) := H
                 have A81 := Aside0.mk A810
                 clear A810
                 by_cases c82 : t163 = true
                 ·
                  subst c82
                  have H1 := H
                  rw [if_pos rfl] at H1
                  clear H
                  have H := H1
                  clear H1
                  simp only [Option.some.injEq, Prod.mk.injEq] at H
                  obtain ⟨rfl, rfl, rfl, rfl, rfl, rfl, rfl⟩ := H
                  go_wp2_with (first | (go_at_call 77; (with_reducible refine (numeraryref11_begins.calls a0 (⟨#[97, 109, 47, 112, 109]⟩ : ByteArray) true _ A81.out).mono ?_); rintro e w83 ⟨rfl, hb⟩; have n0_ := Aside0.mk (blk_below (g := gb126) (o := .cells #[.int .i64 x127000_2, .string x127001_2, .int .i64 x127002_2, .int .i64 x127003_2] 75 (0, 0)) (by (with_reducible repeat (first | refine blk_drewN ?_ _ | refine blk_drew ?_ | refine blk_alloc ?_ _)); exact BK126.out) hb); have n1_ := Aside0.mk (blk_below (g := gb127) (o := .cells #[.int .i64 0, .string (⟨#[]⟩ : ByteArray), .int .i64 0, .int .i64 0] 75 (0, 0)) (by (with_reducible repeat (first | refine blk_drewN ?_ _ | refine blk_drew ?_ | refine blk_alloc ?_ _)); exact BK127.out) hb); have n2_ := Aside0.mk (below_step (by repeat (first | (with_reducible first | exact HB.out | apply below_alloc | apply pw_below_drewN | apply below_drew1 | refine below_set ?_ GE126.out | refine below_set ?_ GE127.out) | exact HB.out)) hb); clear BK126; clear BK127; clear HB; have BK126 := n0_; have BK127 := n1_; have HB := n2_; clear n0_ n1_ n2_; (try clear hb); (try clear hb2); (try clear hk); (try clear hi); have hnb84 := NB126_127.out; have hnc84 := NB127_126.out; have hcz85_0 : w83.cell? ⟨gb126, 0, none⟩ = some (.int .i64 x127000_2) := (blk_cell BK126.out 0).trans rfl; have hcz85_1 : w83.cell? ⟨gb126, 1, none⟩ = some (.string x127001_2) := (blk_cell BK126.out 1).trans rfl; have hcz85_2 : w83.cell? ⟨gb126, 2, none⟩ = some (.int .i64 x127002_2) := (blk_cell BK126.out 2).trans rfl; have hcz85_3 : w83.cell? ⟨gb126, 3, none⟩ = some (.int .i64 x127003_2) := (blk_cell BK126.out 3).trans rfl; have hfz85_0 := blk_frozen BK126.out 0; have hfz85_1 := blk_frozen BK126.out 1; have hfz85_2 := blk_frozen BK126.out 2; have hfz85_3 := blk_frozen BK126.out 3))
                  repeat (go_quiet (first | (go_at_call 77; (with_reducible refine (numeraryref11_begins.calls a0 (⟨#[97, 109, 47, 112, 109]⟩ : ByteArray) true _ A81.out).mono ?_); rintro e w83 ⟨rfl, hb⟩; have n0_ := Aside0.mk (blk_below (g := gb126) (o := .cells #[.int .i64 x127000_2, .string x127001_2, .int .i64 x127002_2, .int .i64 x127003_2] 75 (0, 0)) (by (with_reducible repeat (first | refine blk_drewN ?_ _ | refine blk_drew ?_ | refine blk_alloc ?_ _)); exact BK126.out) hb); have n1_ := Aside0.mk (blk_below (g := gb127) (o := .cells #[.int .i64 0, .string (⟨#[]⟩ : ByteArray), .int .i64 0, .int .i64 0] 75 (0, 0)) (by (with_reducible repeat (first | refine blk_drewN ?_ _ | refine blk_drew ?_ | refine blk_alloc ?_ _)); exact BK127.out) hb); have n2_ := Aside0.mk (below_step (by repeat (first | (with_reducible first | exact HB.out | apply below_alloc | apply pw_below_drewN | apply below_drew1 | refine below_set ?_ GE126.out | refine below_set ?_ GE127.out) | exact HB.out)) hb); clear BK126; clear BK127; clear HB; have BK126 := n0_; have BK127 := n1_; have HB := n2_; clear n0_ n1_ n2_; (try clear hb); (try clear hb2); (try clear hk); (try clear hi); have hnb84 := NB126_127.out; have hnc84 := NB127_126.out; have hcz85_0 : w83.cell? ⟨gb126, 0, none⟩ = some (.int .i64 x127000_2) := (blk_cell BK126.out 0).trans rfl; have hcz85_1 : w83.cell? ⟨gb126, 1, none⟩ = some (.string x127001_2) := (blk_cell BK126.out 1).trans rfl; have hcz85_2 : w83.cell? ⟨gb126, 2, none⟩ = some (.int .i64 x127002_2) := (blk_cell BK126.out 2).trans rfl; have hcz85_3 : w83.cell? ⟨gb126, 3, none⟩ = some (.int .i64 x127003_2) := (blk_cell BK126.out 3).trans rfl; have hfz85_0 := blk_frozen BK126.out 0; have hfz85_1 := blk_frozen BK126.out 1; have hfz85_2 := blk_frozen BK126.out 2; have hfz85_3 := blk_frozen BK126.out 3)); try go_wp2_with (first | (go_at_call 77; (with_reducible refine (numeraryref11_begins.calls a0 (⟨#[97, 109, 47, 112, 109]⟩ : ByteArray) true _ A81.out).mono ?_); rintro e w83 ⟨rfl, hb⟩; have n0_ := Aside0.mk (blk_below (g := gb126) (o := .cells #[.int .i64 x127000_2, .string x127001_2, .int .i64 x127002_2, .int .i64 x127003_2] 75 (0, 0)) (by (with_reducible repeat (first | refine blk_drewN ?_ _ | refine blk_drew ?_ | refine blk_alloc ?_ _)); exact BK126.out) hb); have n1_ := Aside0.mk (blk_below (g := gb127) (o := .cells #[.int .i64 0, .string (⟨#[]⟩ : ByteArray), .int .i64 0, .int .i64 0] 75 (0, 0)) (by (with_reducible repeat (first | refine blk_drewN ?_ _ | refine blk_drew ?_ | refine blk_alloc ?_ _)); exact BK127.out) hb); have n2_ := Aside0.mk (below_step (by repeat (first | (with_reducible first | exact HB.out | apply below_alloc | apply pw_below_drewN | apply below_drew1 | refine below_set ?_ GE126.out | refine below_set ?_ GE127.out) | exact HB.out)) hb); clear BK126; clear BK127; clear HB; have BK126 := n0_; have BK127 := n1_; have HB := n2_; clear n0_ n1_ n2_; (try clear hb); (try clear hb2); (try clear hk); (try clear hi); have hnb84 := NB126_127.out; have hnc84 := NB127_126.out; have hcz85_0 : w83.cell? ⟨gb126, 0, none⟩ = some (.int .i64 x127000_2) := (blk_cell BK126.out 0).trans rfl; have hcz85_1 : w83.cell? ⟨gb126, 1, none⟩ = some (.string x127001_2) := (blk_cell BK126.out 1).trans rfl; have hcz85_2 : w83.cell? ⟨gb126, 2, none⟩ = some (.int .i64 x127002_2) := (blk_cell BK126.out 2).trans rfl; have hcz85_3 : w83.cell? ⟨gb126, 3, none⟩ = some (.int .i64 x127003_2) := (blk_cell BK126.out 3).trans rfl; have hfz85_0 := blk_frozen BK126.out 0; have hfz85_1 := blk_frozen BK126.out 1; have hfz85_2 := blk_frozen BK126.out 2; have hfz85_3 := blk_frozen BK126.out 3)))
                  refine bodyPost_ret (results_list (rs := [.cell 2 75, .tmp 3, .tmp 4, .tmp 5]) rfl (by simp) (.cell gb126 75 #[.int .i64 15, .string (⟨#[65, 77, 47, 80, 77]⟩ : ByteArray), .int .i64 1, .int .i64 0] (0, 0) _ rfl (by (with_reducible repeat (first | refine blk_drewN ?_ _ | refine blk_drew ?_ | refine blk_alloc ?_ _)); refine blk_put (cs := #[.int .i64 15, .string (⟨#[65, 77, 47, 80, 77]⟩ : ByteArray), .int .i64 1, .int .i64 x127003_2]) ?_ 3 _ rfl; (with_reducible repeat (first | refine blk_drewN ?_ _ | refine blk_drew ?_ | refine blk_alloc ?_ _)); refine blk_put (cs := #[.int .i64 15, .string (⟨#[65, 77, 47, 80, 77]⟩ : ByteArray), .int .i64 x127002_2, .int .i64 x127003_2]) ?_ 2 _ rfl; (with_reducible repeat (first | refine blk_drewN ?_ _ | refine blk_drew ?_ | refine blk_alloc ?_ _)); refine blk_put (cs := #[.int .i64 15, .string x127001_2, .int .i64 x127002_2, .int .i64 x127003_2]) ?_ 1 _ rfl; (with_reducible repeat (first | refine blk_drewN ?_ _ | refine blk_drew ?_ | refine blk_alloc ?_ _)); refine blk_put (cs := #[.int .i64 x127000_2, .string x127001_2, .int .i64 x127002_2, .int .i64 x127003_2]) ?_ 0 _ rfl; (with_reducible repeat (first | refine blk_drewN ?_ _ | refine blk_drew ?_ | refine blk_alloc ?_ _)); exact BK126.out) Tryz.underlying75 rfl (by kernel_rfl) (.tmp (.tmp (.tmp .nil))))) rfl ?_
                  exact ⟨by first | rfl | (simp [errW_none, errW_some] <;> rfl) | (simp [*, errW_none, errW_some] <;> rfl), by repeat (first | (with_reducible first | exact HB.out | apply below_alloc | apply pw_below_drewN | apply below_drew1 | refine below_set ?_ GE126.out | refine below_set ?_ GE127.out) | exact HB.out)⟩
                 ·
                  replace c82 := Bool.eq_false_iff.mpr c82
                  subst c82
                  have H1 := H
                  rw [if_neg (show ¬ (false = true) by decide)] at H1
                  clear H
                  have H := H1
                  clear H1
                  replace H := Option.bind_eq_some_iff.mp H
                  obtain ⟨t164, A860, H⟩ := H
                  replace H : (if t164 = true then (some (15, (⟨#[65, 47, 80]⟩ : ByteArray), 1, 0, 3, 0, 0)) else ((numeraryref11_begins.f a0 (⟨#[103, 101, 110, 101, 114, 97, 108]⟩ : ByteArray)).bind fun t165 => (if t165 = true then (some (16, (⟨#[71, 101, 110, 101, 114, 97, 108]⟩ : ByteArray), 1, 0, 7, 0, 0)) else ((numeraryref11_low.f a0).bind fun t166 => (if 0 < (t166.size : Int) then ((numeraryref11_has.f kj63 (⟨#[121, 109, 100, 104, 115]⟩ : ByteArray) (bt t166 0)).bind fun t167 => (if t167 = true then (numeraryref11_First.l1 kj63 t166 0) else ((numeraryref01_First.f kj63 a0).bind fun bt168 => (if bt168.2.2 = true then ((numeraryref11_has.f kj63 (⟨#[36, 45, 43, 40, 41, 58, 33, 94, 38, 39, 126, 123, 125, 60, 62, 61, 32, 49, 50, 51, 52, 53, 54, 55, 56, 57]⟩ : ByteArray) (bt a0 0)).bind fun t171 => (if (bt a0 0) < 128 then (if t171 = true then (if 0 ≤ bt168.2.1 then (if bt168.2.1 ≤ (a0.size : Int) then (some (17, a0.extract 0 (bt168.2.1 : Int).toNat, 1, 0, bt168.2.1, 0, 0)) else (none)) else (none)) else (some (0, (⟨#[]⟩ : ByteArray), 0, 0, 0, 0, 9))) else (if 0 ≤ bt168.2.1 then (if bt168.2.1 ≤ (a0.size : Int) then (some (17, a0.extract 0 (bt168.2.1 : Int).toNat, 1, 0, bt168.2.1, 0, 0)) else (none)) else (none)))) else (some (0, (⟨#[]⟩ : ByteArray), 0, 0, 0, 0, 4)))))) else (none)))))) = some (r1, r2, r3, r4, r5, r6, r7) := H
                  have A86 := Aside0.mk A860
                  clear A860
                  by_cases c87 : t164 = true
                  ·
                   subst c87
                   have H1 := H
                   rw [if_pos rfl] at H1
                   clear H
                   have H := H1
                   clear H1
                   simp only [Option.some.injEq, Prod.mk.injEq] at H
                   obtain ⟨rfl, rfl, rfl, rfl, rfl, rfl, rfl⟩ := H
                   go_wp2_with (first | (go_at_call 77; (with_reducible refine (numeraryref11_begins.calls a0 (⟨#[97, 109, 47, 112, 109]⟩ : ByteArray) false _ A81.out).mono ?_); rintro e w88 ⟨rfl, hb⟩; have n0_ := Aside0.mk (blk_below (g := gb126) (o := .cells #[.int .i64 x127000_2, .string x127001_2, .int .i64 x127002_2, .int .i64 x127003_2] 75 (0, 0)) (by (with_reducible repeat (first | refine blk_drewN ?_ _ | refine blk_drew ?_ | refine blk_alloc ?_ _)); exact BK126.out) hb); have n1_ := Aside0.mk (blk_below (g := gb127) (o := .cells #[.int .i64 0, .string (⟨#[]⟩ : ByteArray), .int .i64 0, .int .i64 0] 75 (0, 0)) (by (with_reducible repeat (first | refine blk_drewN ?_ _ | refine blk_drew ?_ | refine blk_alloc ?_ _)); exact BK127.out) hb); have n2_ := Aside0.mk (below_step (by repeat (first | (with_reducible first | exact HB.out | apply below_alloc | apply pw_below_drewN | apply below_drew1 | refine below_set ?_ GE126.out | refine below_set ?_ GE127.out) | exact HB.out)) hb); clear BK126; clear BK127; clear HB; have BK126 := n0_; have BK127 := n1_; have HB := n2_; clear n0_ n1_ n2_; (try clear hb); (try clear hb2); (try clear hk); (try clear hi)) | (go_at_call 77; (with_reducible refine (numeraryref11_begins.calls a0 (⟨#[97, 47, 112]⟩ : ByteArray) true _ A86.out).mono ?_); rintro e w89 ⟨rfl, hb⟩; have n0_ := Aside0.mk (blk_below (g := gb126) (o := .cells #[.int .i64 x127000_2, .string x127001_2, .int .i64 x127002_2, .int .i64 x127003_2] 75 (0, 0)) (by (with_reducible repeat (first | refine blk_drewN ?_ _ | refine blk_drew ?_ | refine blk_alloc ?_ _)); exact BK126.out) hb); have n1_ := Aside0.mk (blk_below (g := gb127) (o := .cells #[.int .i64 0, .string (⟨#[]⟩ : ByteArray), .int .i64 0, .int .i64 0] 75 (0, 0)) (by (with_reducible repeat (first | refine blk_drewN ?_ _ | refine blk_drew ?_ | refine blk_alloc ?_ _)); exact BK127.out) hb); have n2_ := Aside0.mk (below_step (by repeat (first | (with_reducible first | exact HB.out | apply below_alloc | apply pw_below_drewN | apply below_drew1 | refine below_set ?_ GE126.out | refine below_set ?_ GE127.out) | exact HB.out)) hb); clear BK126; clear BK127; clear HB; have BK126 := n0_; have BK127 := n1_; have HB := n2_; clear n0_ n1_ n2_; (try clear hb); (try clear hb2); (try clear hk); (try clear hi); have hnb90 := NB126_127.out; have hnc90 := NB127_126.out; have hcz91_0 : w89.cell? ⟨gb126, 0, none⟩ = some (.int .i64 x127000_2) := (blk_cell BK126.out 0).trans rfl; have hcz91_1 : w89.cell? ⟨gb126, 1, none⟩ = some (.string x127001_2) := (blk_cell BK126.out 1).trans rfl; have hcz91_2 : w89.cell? ⟨gb126, 2, none⟩ = some (.int .i64 x127002_2) := (blk_cell BK126.out 2).trans rfl; have hcz91_3 : w89.cell? ⟨gb126, 3, none⟩ = some (.int .i64 x127003_2) := (blk_cell BK126.out 3).trans rfl; have hfz91_0 := blk_frozen BK126.out 0; have hfz91_1 := blk_frozen BK126.out 1; have hfz91_2 := blk_frozen BK126.out 2; have hfz91_3 := blk_frozen BK126.out 3))
                   refine bodyPost_ret (results_list (rs := [.cell 2 75, .tmp 3, .tmp 4, .tmp 5]) rfl (by simp) (.cell gb126 75 #[.int .i64 15, .string (⟨#[65, 47, 80]⟩ : ByteArray), .int .i64 1, .int .i64 0] (0, 0) _ rfl (by (with_reducible repeat (first | refine blk_drewN ?_ _ | refine blk_drew ?_ | refine blk_alloc ?_ _)); refine blk_put (cs := #[.int .i64 15, .string (⟨#[65, 47, 80]⟩ : ByteArray), .int .i64 1, .int .i64 x127003_2]) ?_ 3 _ rfl; (with_reducible repeat (first | refine blk_drewN ?_ _ | refine blk_drew ?_ | refine blk_alloc ?_ _)); refine blk_put (cs := #[.int .i64 15, .string (⟨#[65, 47, 80]⟩ : ByteArray), .int .i64 x127002_2, .int .i64 x127003_2]) ?_ 2 _ rfl; (with_reducible repeat (first | refine blk_drewN ?_ _ | refine blk_drew ?_ | refine blk_alloc ?_ _)); refine blk_put (cs := #[.int .i64 15, .string x127001_2, .int .i64 x127002_2, .int .i64 x127003_2]) ?_ 1 _ rfl; (with_reducible repeat (first | refine blk_drewN ?_ _ | refine blk_drew ?_ | refine blk_alloc ?_ _)); refine blk_put (cs := #[.int .i64 x127000_2, .string x127001_2, .int .i64 x127002_2, .int .i64 x127003_2]) ?_ 0 _ rfl; (with_reducible repeat (first | refine blk_drewN ?_ _ | refine blk_drew ?_ | refine blk_alloc ?_ _)); exact BK126.out) Tryz.underlying75 rfl (by kernel_rfl) (.tmp (.tmp (.tmp .nil))))) rfl ?_
                   exact ⟨by first | rfl | (simp [errW_none, errW_some] <;> rfl) | (simp [*, errW_none, errW_some] <;> rfl), by repeat (first | (with_reducible first | exact HB.out | apply below_alloc | apply pw_below_drewN | apply below_drew1 | refine below_set ?_ GE126.out | refine below_set ?_ GE127.out) | exact HB.out)⟩
                  ·
                   replace c87 := Bool.eq_false_iff.mpr c87
                   subst c87
                   have H1 := H
                   rw [if_neg (show ¬ (false = true) by decide)] at H1
                   clear H
                   have H := H1
                   clear H1
                   replace H := Option.bind_eq_some_iff.mp H
                   obtain ⟨t165, A920, H⟩ := H
                   replace H : (if t165 = true then (some (16, (⟨#[71, 101, 110, 101, 114, 97, 108]⟩ : ByteArray), 1, 0, 7, 0, 0)) else ((numeraryref11_low.f a0).bind fun t166 => (if 0 < (t166.size : Int) then ((numeraryref11_has.f kj63 (⟨#[121, 109, 100, 104, 115]⟩ : ByteArray) (bt t166 0)).bind fun t167 => (if t167 = true then (numeraryref11_First.l1 kj63 t166 0) else ((numeraryref01_First.f kj63 a0).bind fun bt168 => (if bt168.2.2 = true then ((numeraryref11_has.f kj63 (⟨#[36, 45, 43, 40, 41, 58, 33, 94, 38, 39, 126, 123, 125, 60, 62, 61, 32, 49, 50, 51, 52, 53, 54, 55, 56, 57]⟩ : ByteArray) (bt a0 0)).bind fun t171 => (if (bt a0 0) < 128 then (if t171 = true then (if 0 ≤ bt168.2.1 then (if bt168.2.1 ≤ (a0.size : Int) then (some (17, a0.extract 0 (bt168.2.1 : Int).toNat, 1, 0, bt168.2.1, 0, 0)) else (none)) else (none)) else (some (0, (⟨#[]⟩ : ByteArray), 0, 0, 0, 0, 9))) else (if 0 ≤ bt168.2.1 then (if bt168.2.1 ≤ (a0.size : Int) then (some (17, a0.extract 0 (bt168.2.1 : Int).toNat, 1, 0, bt168.2.1, 0, 0)) else (none)) else (none)))) else (some (0, (⟨#[]⟩ : ByteArray), 0, 0, 0, 0, 4)))))) else (none)))) = some (r1, r2, r3, r4, r5, r6, r7) := H
                   have A92 := Aside0.mk A920
                   clear A920
                   by_cases c93 : t165 = true
                   ·
                    subst c93
                    have H1 := H
                    rw [if_pos rfl] at H1
                    clear H
                    have H := H1
                    clear H1
                    simp only [Option.some.injEq, Prod.mk.injEq] at H
                    obtain ⟨rfl, rfl, rfl, rfl, rfl, rfl, rfl⟩ := H
                    go_wp2_with (first | (go_at_call 77; (with_reducible refine (numeraryref11_begins.calls a0 (⟨#[97, 109, 47, 112, 109]⟩ : ByteArray) false _ A81.out).mono ?_); rintro e w94 ⟨rfl, hb⟩; have n0_ := Aside0.mk (blk_below (g := gb126) (o := .cells #[.int .i64 x127000_2, .string x127001_2, .int .i64 x127002_2, .int .i64 x127003_2] 75 (0, 0)) (by (with_reducible repeat (first | refine blk_drewN ?_ _ | refine blk_drew ?_ | refine blk_alloc ?_ _)); exact BK126.out) hb); have n1_ := Aside0.mk (blk_below (g := gb127) (o := .cells #[.int .i64 0, .string (⟨#[]⟩ : ByteArray), .int .i64 0, .int .i64 0] 75 (0, 0)) (by (with_reducible repeat (first | refine blk_drewN ?_ _ | refine blk_drew ?_ | refine blk_alloc ?_ _)); exact BK127.out) hb); have n2_ := Aside0.mk (below_step (by repeat (first | (with_reducible first | exact HB.out | apply below_alloc | apply pw_below_drewN | apply below_drew1 | refine below_set ?_ GE126.out | refine below_set ?_ GE127.out) | exact HB.out)) hb); clear BK126; clear BK127; clear HB; have BK126 := n0_; have BK127 := n1_; have HB := n2_; clear n0_ n1_ n2_; (try clear hb); (try clear hb2); (try clear hk); (try clear hi)) | (go_at_call 77; (with_reducible refine (numeraryref11_begins.calls a0 (⟨#[97, 47, 112]⟩ : ByteArray) false _ A86.out).mono ?_); rintro e w95 ⟨rfl, hb⟩; have n0_ := Aside0.mk (blk_below (g := gb126) (o := .cells #[.int .i64 x127000_2, .string x127001_2, .int .i64 x127002_2, .int .i64 x127003_2] 75 (0, 0)) (by (with_reducible repeat (first | refine blk_drewN ?_ _ | refine blk_drew ?_ | refine blk_alloc ?_ _)); exact BK126.out) hb); have n1_ := Aside0.mk (blk_below (g := gb127) (o := .cells #[.int .i64 0, .string (⟨#[]⟩ : ByteArray), .int .i64 0, .int .i64 0] 75 (0, 0)) (by (with_reducible repeat (first | refine blk_drewN ?_ _ | refine blk_drew ?_ | refine blk_alloc ?_ _)); exact BK127.out) hb); have n2_ := Aside0.mk (below_step (by repeat (first | (with_reducible first | exact HB.out | apply below_alloc | apply pw_below_drewN | apply below_drew1 | refine below_set ?_ GE126.out | refine below_set ?_ GE127.out) | exact HB.out)) hb); clear BK126; clear BK127; clear HB; have BK126 := n0_; have BK127 := n1_; have HB := n2_; clear n0_ n1_ n2_; (try clear hb); (try clear hb2); (try clear hk); (try clear hi)) | (go_at_call 77; (with_reducible refine (numeraryref11_begins.calls a0 (⟨#[103, 101, 110, 101, 114, 97, 108]⟩ : ByteArray) true _ A92.out).mono ?_); rintro e w96 ⟨rfl, hb⟩; have n0_ := Aside0.mk (blk_below (g := gb126) (o := .cells #[.int .i64 x127000_2, .string x127001_2, .int .i64 x127002_2, .int .i64 x127003_2] 75 (0, 0)) (by (with_reducible repeat (first | refine blk_drewN ?_ _ | refine blk_drew ?_ | refine blk_alloc ?_ _)); exact BK126.out) hb); have n1_ := Aside0.mk (blk_below (g := gb127) (o := .cells #[.int .i64 0, .string (⟨#[]⟩ : ByteArray), .int .i64 0, .int .i64 0] 75 (0, 0)) (by (with_reducible repeat (first | refine blk_drewN ?_ _ | refine blk_drew ?_ | refine blk_alloc ?_ _)); exact BK127.out) hb); have n2_ := Aside0.mk (below_step (by repeat (first | (with_reducible first | exact HB.out | apply below_alloc | apply pw_below_drewN | apply below_drew1 | refine below_set ?_ GE126.out | refine below_set ?_ GE127.out) | exact HB.out)) hb); clear BK126; clear BK127; clear HB; have BK126 := n0_; have BK127 := n1_; have HB := n2_; clear n0_ n1_ n2_; (try clear hb); (try clear hb2); (try clear hk); (try clear hi); have hnb97 := NB126_127.out; have hnc97 := NB127_126.out; have hcz98_0 : w96.cell? ⟨gb126, 0, none⟩ = some (.int .i64 x127000_2) := (blk_cell BK126.out 0).trans rfl; have hcz98_1 : w96.cell? ⟨gb126, 1, none⟩ = some (.string x127001_2) := (blk_cell BK126.out 1).trans rfl; have hcz98_2 : w96.cell? ⟨gb126, 2, none⟩ = some (.int .i64 x127002_2) := (blk_cell BK126.out 2).trans rfl; have hcz98_3 : w96.cell? ⟨gb126, 3, none⟩ = some (.int .i64 x127003_2) := (blk_cell BK126.out 3).trans rfl; have hfz98_0 := blk_frozen BK126.out 0; have hfz98_1 := blk_frozen BK126.out 1; have hfz98_2 := blk_frozen BK126.out 2; have hfz98_3 := blk_frozen BK126.out 3))
                    refine bodyPost_ret (results_list (rs := [.cell 2 75, .tmp 3, .tmp 4, .tmp 5]) rfl (by simp) (.cell gb126 75 #[.int .i64 16, .string (⟨#[71, 101, 110, 101, 114, 97, 108]⟩ : ByteArray), .int .i64 1, .int .i64 0] (0, 0) _ rfl (by (with_reducible repeat (first | refine blk_drewN ?_ _ | refine blk_drew ?_ | refine blk_alloc ?_ _)); refine blk_put (cs := #[.int .i64 16, .string (⟨#[71, 101, 110, 101, 114, 97, 108]⟩ : ByteArray), .int .i64 1, .int .i64 x127003_2]) ?_ 3 _ rfl; (with_reducible repeat (first | refine blk_drewN ?_ _ | refine blk_drew ?_ | refine blk_alloc ?_ _)); refine blk_put (cs := #[.int .i64 16, .string (⟨#[71, 101, 110, 101, 114, 97, 108]⟩ : ByteArray), .int .i64 x127002_2, .int .i64 x127003_2]) ?_ 2 _ rfl; (with_reducible repeat (first | refine blk_drewN ?_ _ | refine blk_drew ?_ | refine blk_alloc ?_ _)); refine blk_put (cs := #[.int .i64 16, .string x127001_2, .int .i64 x127002_2, .int .i64 x127003_2]) ?_ 1 _ rfl; (with_reducible repeat (first | refine blk_drewN ?_ _ | refine blk_drew ?_ | refine blk_alloc ?_ _)); refine blk_put (cs := #[.int .i64 x127000_2, .string x127001_2, .int .i64 x127002_2, .int .i64 x127003_2]) ?_ 0 _ rfl; (with_reducible repeat (first | refine blk_drewN ?_ _ | refine blk_drew ?_ | refine blk_alloc ?_ _)); exact BK126.out) Tryz.underlying75 rfl (by kernel_rfl) (.tmp (.tmp (.tmp .nil))))) rfl ?_
                    exact ⟨by first | rfl | (simp [errW_none, errW_some] <;> rfl) | (simp [*, errW_none, errW_some] <;> rfl), by repeat (first | (with_reducible first | exact HB.out | apply below_alloc | apply pw_below_drewN | apply below_drew1 | refine below_set ?_ GE126.out | refine below_set ?_ GE127.out) | exact HB.out)⟩
                   ·
                    replace c93 := Bool.eq_false_iff.mpr c93
                    subst c93
                    have H1 := H
                    rw [if_neg (show ¬ (false = true) by decide)] at H1
                    clear H
                    have H := H1
                    clear H1
                    replace H := Option.bind_eq_some_iff.mp H
                    obtain ⟨t166, A990, H⟩ := H
                    replace H : (if 0 < (t166.size : Int) then ((numeraryref11_has.f kj63 (⟨#[121, 109, 100, 104, 115]⟩ : ByteArray) (bt t166 0)).bind fun t167 => (if t167 = true then (numeraryref11_First.l1 kj63 t166 0) else ((numeraryref01_First.f kj63 a0).bind fun bt168 => (if bt168.2.2 = true then ((numeraryref11_has.f kj63 (⟨#[36, 45, 43, 40, 41, 58, 33, 94, 38, 39, 126, 123, 125, 60, 62, 61, 32, 49, 50, 51, 52, 53, 54, 55, 56, 57]⟩ : ByteArray) (bt a0 0)).bind fun t171 => (if (bt a0 0) < 128 then (if t171 = true then (if 0 ≤ bt168.2.1 then (if bt168.2.1 ≤ (a0.size : Int) then (some (17, a0.extract 0 (bt168.2.1 : Int).toNat, 1, 0, bt168.2.1, 0, 0)) else (none)) else (none)) else (some (0, (⟨#[]⟩ : ByteArray), 0, 0, 0, 0, 9))) else (if 0 ≤ bt168.2.1 then (if bt168.2.1 ≤ (a0.size : Int) then (some (17, a0.extract 0 (bt168.2.1 : Int).toNat, 1, 0, bt168.2.1, 0, 0)) else (none)) else (none)))) else (some (0, (⟨#[]⟩ : ByteArray), 0, 0, 0, 0, 4)))))) else (none)) = some (r1, r2, r3, r4, r5, r6, r7) := H
                    have A99 := Aside0.mk A990
                    clear A990
                    by_cases c100 : 0 < (t166.size : Int)
                    ·
                     rw [if_pos c100] at H
                     have c100b0 : decide (0 < (t166.size : Int)) = true := decide_eq_true c100
                     have c100b1 : decide (0 < t166.size) = true := decide_eq_true (by omega)
                     clear c100
                     replace H := Option.bind_eq_some_iff.mp H
                     obtain ⟨t167, A1020, H⟩ := H
                     replace H : (if t167 = true then (numeraryref11_First.l1 kj63 t166 0) else ((numeraryref01_First.f kj63 a0).bind fun bt168 => (if bt168.2.2 = true then ((numeraryref11_has.f kj63 (⟨#[36, 45, 43, 40, 41, 58, 33, 94, 38, 39, 126, 123, 125, 60, 62, 61, 32, 49, 50, 51, 52, 53, 54, 55, 56, 57]⟩ : ByteArray) (bt a0 0)).bind fun t171 => (if (bt a0 0) < 128 then (if t171 = true then (if 0 ≤ bt168.2.1 then (if bt168.2.1 ≤ (a0.size : Int) then (some (17, a0.extract 0 (bt168.2.1 : Int).toNat, 1, 0, bt168.2.1, 0, 0)) else (none)) else (none)) else (some (0, (⟨#[]⟩ : ByteArray), 0, 0, 0, 0, 9))) else (if 0 ≤ bt168.2.1 then (if bt168.2.1 ≤ (a0.size : Int) then (some (17, a0.extract 0 (bt168.2.1 : Int).toNat, 1, 0, bt168.2.1, 0, 0)) else (none)) else (none)))) else (some (0, (⟨#[]⟩ : ByteArray), 0, 0, 0, 0, 4))))) = some (r1, r2, r3, r4, r5, r6, r7) := H
                     have A102 := Aside0.mk A1020
                     clear A1020
                     by_cases c103 : t167 = true
                     ·
                      subst c103
                      have H1 := H
                      rw [if_pos rfl] at H1
                      clear H
                      have H := H1
                      clear H1
                      have H' := Aside0.mk H
                      clear H
                      go_wp2_with (first | (go_at_call 77; (with_reducible refine (numeraryref11_begins.calls a0 (⟨#[97, 109, 47, 112, 109]⟩ : ByteArray) false _ A81.out).mono ?_); rintro e w104 ⟨rfl, hb⟩; have n0_ := Aside0.mk (blk_below (g := gb126) (o := .cells #[.int .i64 x127000_2, .string x127001_2, .int .i64 x127002_2, .int .i64 x127003_2] 75 (0, 0)) (by (with_reducible repeat (first | refine blk_drewN ?_ _ | refine blk_drew ?_ | refine blk_alloc ?_ _)); exact BK126.out) hb); have n1_ := Aside0.mk (blk_below (g := gb127) (o := .cells #[.int .i64 0, .string (⟨#[]⟩ : ByteArray), .int .i64 0, .int .i64 0] 75 (0, 0)) (by (with_reducible repeat (first | refine blk_drewN ?_ _ | refine blk_drew ?_ | refine blk_alloc ?_ _)); exact BK127.out) hb); have n2_ := Aside0.mk (below_step (by repeat (first | (with_reducible first | exact HB.out | apply below_alloc | apply pw_below_drewN | apply below_drew1 | refine below_set ?_ GE126.out | refine below_set ?_ GE127.out) | exact HB.out)) hb); clear BK126; clear BK127; clear HB; have BK126 := n0_; have BK127 := n1_; have HB := n2_; clear n0_ n1_ n2_; (try clear hb); (try clear hb2); (try clear hk); (try clear hi)) | (go_at_call 77; (with_reducible refine (numeraryref11_begins.calls a0 (⟨#[97, 47, 112]⟩ : ByteArray) false _ A86.out).mono ?_); rintro e w105 ⟨rfl, hb⟩; have n0_ := Aside0.mk (blk_below (g := gb126) (o := .cells #[.int .i64 x127000_2, .string x127001_2, .int .i64 x127002_2, .int .i64 x127003_2] 75 (0, 0)) (by (with_reducible repeat (first | refine blk_drewN ?_ _ | refine blk_drew ?_ | refine blk_alloc ?_ _)); exact BK126.out) hb); have n1_ := Aside0.mk (blk_below (g := gb127) (o := .cells #[.int .i64 0, .string (⟨#[]⟩ : ByteArray), .int .i64 0, .int .i64 0] 75 (0, 0)) (by (with_reducible repeat (first | refine blk_drewN ?_ _ | refine blk_drew ?_ | refine blk_alloc ?_ _)); exact BK127.out) hb); have n2_ := Aside0.mk (below_step (by repeat (first | (with_reducible first | exact HB.out | apply below_alloc | apply pw_below_drewN | apply below_drew1 | refine below_set ?_ GE126.out | refine below_set ?_ GE127.out) | exact HB.out)) hb); clear BK126; clear BK127; clear HB; have BK126 := n0_; have BK127 := n1_; have HB := n2_; clear n0_ n1_ n2_; (try clear hb); (try clear hb2); (try clear hk); (try clear hi)) | (go_at_call 77; (with_reducible refine (numeraryref11_begins.calls a0 (⟨#[103, 101, 110, 101, 114, 97, 108]⟩ : ByteArray) false _ A92.out).mono ?_); rintro e w106 ⟨rfl, hb⟩; have n0_ := Aside0.mk (blk_below (g := gb126) (o := .cells #[.int .i64 x127000_2, .string x127001_2, .int .i64 x127002_2, .int .i64 x127003_2] 75 (0, 0)) (by (with_reducible repeat (first | refine blk_drewN ?_ _ | refine blk_drew ?_ | refine blk_alloc ?_ _)); exact BK126.out) hb); have n1_ := Aside0.mk (blk_below (g := gb127) (o := .cells #[.int .i64 0, .string (⟨#[]⟩ : ByteArray), .int .i64 0, .int .i64 0] 75 (0, 0)) (by (with_reducible repeat (first | refine blk_drewN ?_ _ | refine blk_drew ?_ | refine blk_alloc ?_ _)); exact BK127.out) hb); have n2_ := Aside0.mk (below_step (by repeat (first | (with_reducible first | exact HB.out | apply below_alloc | apply pw_below_drewN | apply below_drew1 | refine below_set ?_ GE126.out | refine below_set ?_ GE127.out) | exact HB.out)) hb); clear BK126; clear BK127; clear HB; have BK126 := n0_; have BK127 := n1_; have HB := n2_; clear n0_ n1_ n2_; (try clear hb); (try clear hb2); (try clear hk); (try clear hi)) | (go_at_call 78; (with_reducible refine (numeraryref11_low.calls a0 t166 _ A99.out).mono ?_); rintro e w107 ⟨rfl, hb⟩; have n0_ := Aside0.mk (blk_below (g := gb126) (o := .cells #[.int .i64 x127000_2, .string x127001_2, .int .i64 x127002_2, .int .i64 x127003_2] 75 (0, 0)) (by (with_reducible repeat (first | refine blk_drewN ?_ _ | refine blk_drew ?_ | refine blk_alloc ?_ _)); exact BK126.out) hb); have n1_ := Aside0.mk (blk_below (g := gb127) (o := .cells #[.int .i64 0, .string (⟨#[]⟩ : ByteArray), .int .i64 0, .int .i64 0] 75 (0, 0)) (by (with_reducible repeat (first | refine blk_drewN ?_ _ | refine blk_drew ?_ | refine blk_alloc ?_ _)); exact BK127.out) hb); have n2_ := Aside0.mk (below_step (by repeat (first | (with_reducible first | exact HB.out | apply below_alloc | apply pw_below_drewN | apply below_drew1 | refine below_set ?_ GE126.out | refine below_set ?_ GE127.out) | exact HB.out)) hb); clear BK126; clear BK127; clear HB; have BK126 := n0_; have BK127 := n1_; have HB := n2_; clear n0_ n1_ n2_; (try clear hb); (try clear hb2); (try clear hk); (try clear hi); have p101 : 0 ≤ (0 : Int) := (by omega); have q101 : 0 < t166.size := (by have : (0 : Int) < (t166.size : Int) := of_decide_eq_true (by first | (with_reducible assumption) | assumption); omega); have hx101 : ∀ h : 0 < t166.size, ((t166[0]'h).toNat : Int) = bt t166 0 := bt_at t166 0; clear p101; have qi101 : (0 < (t166.size : Int)) = True := eq_true (of_decide_eq_true (by first | (with_reducible assumption) | assumption)); replace q101 := eq_true q101) | (go_at_call 79; (with_reducible refine (numeraryref11_has.calls kj63 (⟨#[121, 109, 100, 104, 115]⟩ : ByteArray) (bt t166 0) true _ A102.out).mono ?_); rintro e w' ⟨rfl, ⟨nd, rfl⟩⟩; (try first | exact ⟨rfl, _, World.drewN_drewN _ _ _⟩ | exact ⟨rfl, _, Eq.trans (World.drewN_drewN _ _ _) (congrArg (World.drewN _) (Nat.add_assoc _ _ _))⟩)))
                      go_loopg [13] kj63 (fun kq v13 w' => ∃ (x13_4 : Int), v13 = .int .i64 x13_4 ∧ Aside0 (numeraryref11_First.l1 kq t166 x13_4 = some (r1, r2, r3, r4, r5, r6, r7)) ∧ Aside0 (kq ≤ kj63) ∧ Aside0 (w'.heap[gb126]? = some (.cells #[.int .i64 x127000_2, .string x127001_2, .int .i64 x127002_2, .int .i64 x127003_2] 75 (0, 0))) ∧ Aside0 (w'.heap[gb127]? = some (.cells #[.int .i64 0, .string (⟨#[]⟩ : ByteArray), .int .i64 0, .int .i64 0] 75 (0, 0))) ∧ Aside0 (Below w.heap.size w w'))
                      case atStart => exact ⟨(0), (by first | rfl | (simp; done) | (simp [*]; done) | (simp only [isEmpty_ne, Bool.not_not]) | (simp only [isEmpty_ne])), H', ⟨Nat.le_refl _⟩, ⟨by (with_reducible repeat (first | refine blk_drewN ?_ _ | refine blk_drew ?_ | refine blk_alloc ?_ _)); exact BK126.out⟩, ⟨by (with_reducible repeat (first | refine blk_drewN ?_ _ | refine blk_drew ?_ | refine blk_alloc ?_ _)); exact BK127.out⟩, ⟨by repeat (first | (with_reducible first | exact HB.out | apply below_alloc | apply pw_below_drewN | apply below_drew1 | refine below_set ?_ GE126.out | refine below_set ?_ GE127.out) | exact HB.out)⟩⟩
                      case round =>
                       clear H'
                       (try clear c1); (try clear p1); (try clear q1); (try clear hx1); (try clear qi1); (try clear c2); (try clear c2b0); (try clear c2b1); (try clear p2); (try clear c3); (try clear p3); (try clear q3); (try clear hx3); (try clear qi3); (try clear c4); (try clear c4b0); (try clear c4b1); (try clear c5); (try clear p5); (try clear q5); (try clear hx5); (try clear c6); (try clear p6); (try clear q6); (try clear hx6); (try clear qi6); (try clear c7); (try clear p7); (try clear q7); (try clear hx7); (try clear qi7); (try clear c8); (try clear c9); (try clear c10); (try clear p10); (try clear q10); (try clear hx10); (try clear qi10); (try clear c12); (try clear c12b0); (try clear c12b1); (try clear c16); (try clear c20); (try clear c20b0); (try clear c20b1); (try clear c24); (try clear c28); (try clear c28b0); (try clear c28b1); (try clear c32); (try clear c36); (try clear c36b0); (try clear c36b1); (try clear c40); (try clear c47); (try clear c49); (try clear c49b0); (try clear c49b1); (try clear c50); (try clear c50b0); (try clear c50b1); (try clear c51); (try clear c52); (try clear c52b0); (try clear c52b1); (try clear c53); (try clear c53b0); (try clear c53b1); (try clear c54); (try clear c56); (try clear c56b0); (try clear c57); (try clear c57b0); (try clear p58); (try clear q58); (try clear hx58); (try clear c59); (try clear c59b0); (try clear c59b1); (try clear c60); (try clear c60b0); (try clear c60b1); (try clear c61); (try clear c61b0); (try clear c61b1); (try clear c62); (try clear p64); (try clear c65); (try clear c65b0); (try clear c65b1); (try clear c66); (try clear c66b0); (try clear c66b1); (try clear c67); (try clear c67b0); (try clear c67b1); (try clear p68); (try clear q68); (try clear hx68); (try clear qi68); (try clear c69); (try clear c69b0); (try clear c69b1); (try clear p70); (try clear q70); (try clear hx70); (try clear qi70); (try clear c71); (try clear c71b0); (try clear c71b1); (try clear c72); (try clear c72b0); (try clear c72b1); (try clear p73); (try clear q73); (try clear hx73); (try clear qi73); (try clear c74); (try clear c74b0); (try clear c74b1); (try clear p75); (try clear q75); (try clear hx75); (try clear qi75); (try clear c76); (try clear c77); (try clear c77b0); (try clear c77b1); (try clear c78); (try clear c78b0); (try clear c78b1); (try clear c79); (try clear c82); (try clear c84); (try clear c87); (try clear c90); (try clear c93); (try clear c97); (try clear c100); (try clear c100b0); (try clear c100b1); (try clear p101); (try clear q101); (try clear hx101); (try clear qi101); (try clear c103); (try clear hcz11_0); (try clear hcz11_1); (try clear hcz11_2); (try clear hcz11_3); (try clear hcz17_0); (try clear hcz17_1); (try clear hcz17_2); (try clear hcz17_3); (try clear hcz19_0); (try clear hcz19_1); (try clear hcz19_2); (try clear hcz19_3); (try clear hcz25_0); (try clear hcz25_1); (try clear hcz25_2); (try clear hcz25_3); (try clear hcz27_0); (try clear hcz27_1); (try clear hcz27_2); (try clear hcz27_3); (try clear hcz33_0); (try clear hcz33_1); (try clear hcz33_2); (try clear hcz33_3); (try clear hcz35_0); (try clear hcz35_1); (try clear hcz35_2); (try clear hcz35_3); (try clear hcz41_0); (try clear hcz41_1); (try clear hcz41_2); (try clear hcz41_3); (try clear hcz43_0); (try clear hcz43_1); (try clear hcz43_2); (try clear hcz43_3); (try clear hcz48_0); (try clear hcz48_1); (try clear hcz48_2); (try clear hcz48_3); (try clear hcz55_0); (try clear hcz55_1); (try clear hcz55_2); (try clear hcz55_3); (try clear hcz63_0); (try clear hcz63_1); (try clear hcz63_2); (try clear hcz63_3); (try clear hcz80_0); (try clear hcz80_1); (try clear hcz80_2); (try clear hcz80_3); (try clear hcz85_0); (try clear hcz85_1); (try clear hcz85_2); (try clear hcz85_3); (try clear hcz91_0); (try clear hcz91_1); (try clear hcz91_2); (try clear hcz91_3); (try clear hcz98_0); (try clear hcz98_1); (try clear hcz98_2); (try clear hcz98_3); (try clear hcz9_0); (try clear hcz9_1); (try clear hcz9_2); (try clear hcz9_3); (try clear hfz11_0); (try clear hfz11_1); (try clear hfz11_2); (try clear hfz11_3); (try clear hfz17_0); (try clear hfz17_1); (try clear hfz17_2); (try clear hfz17_3); (try clear hfz19_0); (try clear hfz19_1); (try clear hfz19_2); (try clear hfz19_3); (try clear hfz25_0); (try clear hfz25_1); (try clear hfz25_2); (try clear hfz25_3); (try clear hfz27_0); (try clear hfz27_1); (try clear hfz27_2); (try clear hfz27_3); (try clear hfz33_0); (try clear hfz33_1); (try clear hfz33_2); (try clear hfz33_3); (try clear hfz35_0); (try clear hfz35_1); (try clear hfz35_2); (try clear hfz35_3); (try clear hfz41_0); (try clear hfz41_1); (try clear hfz41_2); (try clear hfz41_3); (try clear hfz43_0); (try clear hfz43_1); (try clear hfz43_2); (try clear hfz43_3); (try clear hfz48_0); (try clear hfz48_1); (try clear hfz48_2); (try clear hfz48_3); (try clear hfz55_0); (try clear hfz55_1); (try clear hfz55_2); (try clear hfz55_3); (try clear hfz63_0); (try clear hfz63_1); (try clear hfz63_2); (try clear hfz63_3); (try clear hfz80_0); (try clear hfz80_1); (try clear hfz80_2); (try clear hfz80_3); (try clear hfz85_0); (try clear hfz85_1); (try clear hfz85_2); (try clear hfz85_3); (try clear hfz91_0); (try clear hfz91_1); (try clear hfz91_2); (try clear hfz91_3); (try clear hfz98_0); (try clear hfz98_1); (try clear hfz98_2); (try clear hfz98_3); (try clear hfz9_0); (try clear hfz9_1); (try clear hfz9_2); (try clear hfz9_3); (try clear p101); (try clear p2); (try clear p3); (try clear p5); (try clear p58); (try clear p6); (try clear p64); (try clear p68); (try clear p7); (try clear p70); (try clear p73); (try clear p75); (try clear q101); (try clear q3); (try clear q5); (try clear q58); (try clear q6); (try clear q68); (try clear q7); (try clear q70); (try clear q73); (try clear q75)
                       obtain ⟨x13_4, rfl, HA, HK4, BK126, BK127, HB⟩ := hrel
                       cases gk with
                       | zero => exact absurd HA.out (by simp [numeraryref11_First.l1])
                       | succ k4 =>
                        have H := HA.out
                        clear HA
                        simp only [numeraryref11_First.l1] at H
                        by_cases c108 : x13_4 < (t166.size : Int)
                        ·
                         rw [if_pos c108] at H
                         have c108b0 : decide (x13_4 < (t166.size : Int)) = true := decide_eq_true c108
                         clear c108
                         by_cases c109 : 0 ≤ x13_4
                         ·
                          rw [if_pos c109] at H
                          have c109b0 : decide (0 ≤ x13_4) = true := decide_eq_true c109
                          clear c109
                          by_cases c111 : 0 < (t166.size : Int)
                          ·
                           rw [if_pos c111] at H
                           have c111b0 : decide (0 < (t166.size : Int)) = true := decide_eq_true c111
                           have c111b1 : decide (0 < t166.size) = true := decide_eq_true (by omega)
                           clear c111
                           by_cases c113 : (bt t166 x13_4) = (bt t166 0)
                           ·
                            rw [if_pos c113] at H
                            have c113b0 : ((bt t166 x13_4) == (bt t166 0)) = true := beq_iff_eq.mpr c113
                            have c113b1 : ((bt t166 x13_4) != (bt t166 0)) = false := bne_eq_false_iff_eq.mpr c113
                            clear c113
                            have H' := Aside0.mk H
                            clear H
                            have p110 : 0 ≤ (x13_4 : Int) := of_decide_eq_true (by first | (with_reducible assumption) | assumption)
                            have q110 : x13_4 < (t166.size : Int) := of_decide_eq_true (by first | (with_reducible assumption) | assumption)
                            have hx110 := bt_at t166 x13_4
                            replace p110 := eq_true p110
                            replace q110 := eq_true q110
                            have p112 : 0 ≤ (0 : Int) := (by omega)
                            have q112 : 0 < t166.size := (by have : (0 : Int) < (t166.size : Int) := of_decide_eq_true (by first | (with_reducible assumption) | assumption); omega)
                            have hx112 : ∀ h : 0 < t166.size, ((t166[0]'h).toNat : Int) = bt t166 0 := bt_at t166 0
                            clear p112
                            have qi112 : (0 < (t166.size : Int)) = True := eq_true (of_decide_eq_true (by first | (with_reducible assumption) | assumption))
                            replace q112 := eq_true q112
                            go_wp2
                            repeat (go_quiet (fail); try go_wp2)
                            go_roundg k4
                            case measure => have := HJ43.out; have := HK2.out; have := HJ63.out; have := HK4.out; omega
                            case rel => exact ⟨(wrap64 (x13_4 + 1)), (by first | rfl | (simp; done) | (simp [*]; done) | (simp only [isEmpty_ne, Bool.not_not]) | (simp only [isEmpty_ne])), H', ⟨by have := HJ43.out; have := HK2.out; have := HJ63.out; have := HK4.out; omega⟩, ⟨by (with_reducible repeat (first | refine blk_drewN ?_ _ | refine blk_drew ?_ | refine blk_alloc ?_ _)); exact BK126.out⟩, ⟨by (with_reducible repeat (first | refine blk_drewN ?_ _ | refine blk_drew ?_ | refine blk_alloc ?_ _)); exact BK127.out⟩, ⟨by repeat (first | (with_reducible first | exact HB.out | apply below_alloc | apply pw_below_drewN | apply below_drew1 | refine below_set ?_ GE126.out | refine below_set ?_ GE127.out) | exact HB.out)⟩⟩
                           ·
                            rw [if_neg c113] at H
                            have c113b0 : ((bt t166 x13_4) == (bt t166 0)) = false := beq_eq_false_iff_ne.mpr c113
                            have c113b1 : ((bt t166 x13_4) != (bt t166 0)) = true := bne_iff_ne.mpr c113
                            by_cases c114 : 0 ≤ 1
                            ·
                             rw [if_pos c114] at H
                             have c114b0 := eq_true c114
                             have c114b1 : decide (0 ≤ 1) = true := decide_eq_true c114
                             clear c114
                             by_cases c115 : 1 ≤ (t166.size : Int)
                             ·
                              rw [if_pos c115] at H
                              have c115b0 := eq_true c115
                              have c115b1 : decide (1 ≤ (t166.size : Int)) = true := decide_eq_true c115
                              clear c115
                              simp only [Option.some.injEq, Prod.mk.injEq] at H
                              obtain ⟨rfl, rfl, rfl, rfl, rfl, rfl, rfl⟩ := H
                              have p110 : 0 ≤ (x13_4 : Int) := of_decide_eq_true (by first | (with_reducible assumption) | assumption)
                              have q110 : x13_4 < (t166.size : Int) := of_decide_eq_true (by first | (with_reducible assumption) | assumption)
                              have hx110 := bt_at t166 x13_4
                              replace p110 := eq_true p110
                              replace q110 := eq_true q110
                              have p112 : 0 ≤ (0 : Int) := (by omega)
                              have q112 : 0 < t166.size := (by have : (0 : Int) < (t166.size : Int) := of_decide_eq_true (by first | (with_reducible assumption) | assumption); omega)
                              have hx112 : ∀ h : 0 < t166.size, ((t166[0]'h).toNat : Int) = bt t166 0 := bt_at t166 0
                              clear p112
                              have qi112 : (0 < (t166.size : Int)) = True := eq_true (of_decide_eq_true (by first | (with_reducible assumption) | assumption))
                              replace q112 := eq_true q112
                              have hnb116 := NB126_127.out
                              have hnc116 := NB127_126.out
                              have hcz117_0 : wr.cell? ⟨gb126, 0, none⟩ = some (.int .i64 x127000_2) := (blk_cell BK126.out 0).trans rfl
                              have hcz117_1 : wr.cell? ⟨gb126, 1, none⟩ = some (.string x127001_2) := (blk_cell BK126.out 1).trans rfl
                              have hcz117_2 : wr.cell? ⟨gb126, 2, none⟩ = some (.int .i64 x127002_2) := (blk_cell BK126.out 2).trans rfl
                              have hcz117_3 : wr.cell? ⟨gb126, 3, none⟩ = some (.int .i64 x127003_2) := (blk_cell BK126.out 3).trans rfl
                              have hfz117_0 := blk_frozen BK126.out 0
                              have hfz117_1 := blk_frozen BK126.out 1
                              have hfz117_2 := blk_frozen BK126.out 2
                              have hfz117_3 := blk_frozen BK126.out 3
                              go_wp2
                              repeat (go_quiet (fail); try go_wp2)
                              refine bodyPost_ret (results_list (rs := [.cell 2 75, .tmp 3, .tmp 4, .tmp 5]) rfl (by simp) (.cell gb126 75 #[.int .i64 14, .string (t166.extract 0 1), .int .i64 x13_4, .int .i64 0] (0, 0) _ rfl (by (with_reducible repeat (first | refine blk_drewN ?_ _ | refine blk_drew ?_ | refine blk_alloc ?_ _)); refine blk_put (cs := #[.int .i64 14, .string (t166.extract 0 1), .int .i64 x13_4, .int .i64 x127003_2]) ?_ 3 _ rfl; (with_reducible repeat (first | refine blk_drewN ?_ _ | refine blk_drew ?_ | refine blk_alloc ?_ _)); refine blk_put (cs := #[.int .i64 14, .string (t166.extract 0 1), .int .i64 x127002_2, .int .i64 x127003_2]) ?_ 2 _ rfl; (with_reducible repeat (first | refine blk_drewN ?_ _ | refine blk_drew ?_ | refine blk_alloc ?_ _)); refine blk_put (cs := #[.int .i64 14, .string x127001_2, .int .i64 x127002_2, .int .i64 x127003_2]) ?_ 1 _ rfl; (with_reducible repeat (first | refine blk_drewN ?_ _ | refine blk_drew ?_ | refine blk_alloc ?_ _)); refine blk_put (cs := #[.int .i64 x127000_2, .string x127001_2, .int .i64 x127002_2, .int .i64 x127003_2]) ?_ 0 _ rfl; (with_reducible repeat (first | refine blk_drewN ?_ _ | refine blk_drew ?_ | refine blk_alloc ?_ _)); exact BK126.out) Tryz.underlying75 rfl (by kernel_rfl) (.tmp (.tmp (.tmp .nil))))) rfl ?_
                              exact ⟨by first | rfl | (simp [errW_none, errW_some] <;> rfl) | (simp [*, errW_none, errW_some] <;> rfl), by repeat (first | (with_reducible first | exact HB.out | apply below_alloc | apply pw_below_drewN | apply below_drew1 | refine below_set ?_ GE126.out | refine below_set ?_ GE127.out) | exact HB.out)⟩
                             ·
                              rw [if_neg c115] at H
                              exact absurd H (by simp)
                            ·
                             rw [if_neg c114] at H
                             exact absurd H (by simp)
                          ·
                           rw [if_neg c111] at H
                           exact absurd H (by simp)
                         ·
                          rw [if_neg c109] at H
                          exact absurd H (by simp)
                        ·
                         rw [if_neg c108] at H
                         have c108b0 : decide (x13_4 < (t166.size : Int)) = false := decide_eq_false c108
                         clear c108
                         by_cases c118 : 0 ≤ 1
                         ·
                          rw [if_pos c118] at H
                          have c118b0 := eq_true c118
                          have c118b1 : decide (0 ≤ 1) = true := decide_eq_true c118
                          clear c118
                          by_cases c119 : 1 ≤ (t166.size : Int)
                          ·
                           rw [if_pos c119] at H
                           have c119b0 := eq_true c119
                           have c119b1 : decide (1 ≤ (t166.size : Int)) = true := decide_eq_true c119
                           clear c119
                           simp only [Option.some.injEq, Prod.mk.injEq] at H
                           obtain ⟨rfl, rfl, rfl, rfl, rfl, rfl, rfl⟩ := H
                           have hnb120 := NB126_127.out
                           have hnc120 := NB127_126.out
                           have hcz121_0 : wr.cell? ⟨gb126, 0, none⟩ = some (.int .i64 x127000_2) := (blk_cell BK126.out 0).trans rfl
                           have hcz121_1 : wr.cell? ⟨gb126, 1, none⟩ = some (.string x127001_2) := (blk_cell BK126.out 1).trans rfl
                           have hcz121_2 : wr.cell? ⟨gb126, 2, none⟩ = some (.int .i64 x127002_2) := (blk_cell BK126.out 2).trans rfl
                           have hcz121_3 : wr.cell? ⟨gb126, 3, none⟩ = some (.int .i64 x127003_2) := (blk_cell BK126.out 3).trans rfl
                           have hfz121_0 := blk_frozen BK126.out 0
                           have hfz121_1 := blk_frozen BK126.out 1
                           have hfz121_2 := blk_frozen BK126.out 2
                           have hfz121_3 := blk_frozen BK126.out 3
                           go_wp2
                           repeat (go_quiet (fail); try go_wp2)
                           refine bodyPost_ret (results_list (rs := [.cell 2 75, .tmp 3, .tmp 4, .tmp 5]) rfl (by simp) (.cell gb126 75 #[.int .i64 14, .string (t166.extract 0 1), .int .i64 x13_4, .int .i64 0] (0, 0) _ rfl (by (with_reducible repeat (first | refine blk_drewN ?_ _ | refine blk_drew ?_ | refine blk_alloc ?_ _)); refine blk_put (cs := #[.int .i64 14, .string (t166.extract 0 1), .int .i64 x13_4, .int .i64 x127003_2]) ?_ 3 _ rfl; (with_reducible repeat (first | refine blk_drewN ?_ _ | refine blk_drew ?_ | refine blk_alloc ?_ _)); refine blk_put (cs := #[.int .i64 14, .string (t166.extract 0 1), .int .i64 x127002_2, .int .i64 x127003_2]) ?_ 2 _ rfl; (with_reducible repeat (first | refine blk_drewN ?_ _ | refine blk_drew ?_ | refine blk_alloc ?_ _)); refine blk_put (cs := #[.int .i64 14, .string x127001_2, .int .i64 x127002_2, .int .i64 x127003_2]) ?_ 1 _ rfl; (with_reducible repeat (first | refine blk_drewN ?_ _ | refine blk_drew ?_ | refine blk_alloc ?_ _)); refine blk_put (cs := #[.int .i64 x127000_2, .string x127001_2, .int .i64 x127002_2, .int .i64 x127003_2]) ?_ 0 _ rfl; (with_reducible repeat (first | refine blk_drewN ?_ _ | refine blk_drew ?_ | refine blk_alloc ?_ _)); exact BK126.out) Tryz.underlying75 rfl (by kernel_rfl) (.tmp (.tmp (.tmp .nil))))) rfl ?_
                           exact ⟨by first | rfl | (simp [errW_none, errW_some] <;> rfl) | (simp [*, errW_none, errW_some] <;> rfl), by repeat (first | (with_reducible first | exact HB.out | apply below_alloc | apply pw_below_drewN | apply below_drew1 | refine below_set ?_ GE126.out | refine below_set ?_ GE127.out) | exact HB.out)⟩
                          ·
                           rw [if_neg c119] at H
                           exact absurd H (by simp)
                         ·
                          rw [if_neg c118] at H
                          exact absurd H (by simp)
                     ·
                      replace c103 := Bool.eq_false_iff.mpr c103
                      subst c103
                      have H1 := H
                      rw [if_neg (show ¬ (false = true) by decide)] at H1
                      clear H
                      have H := H1
                      clear H1
                      replace H := Option.bind_eq_some_iff.mp H
                      obtain ⟨⟨t168, t169, t170⟩, A1220, H⟩ := H
                      replace H : (if t170 = true then ((numeraryref11_has.f kj63 (⟨#[36, 45, 43, 40, 41, 58, 33, 94, 38, 39, 126, 123, 125, 60, 62, 61, 32, 49, 50, 51, 52, 53, 54, 55, 56, 57]⟩ : ByteArray) (bt a0 0)).bind fun t171 => (if (bt a0 0) < 128 then (if t171 = true then (if 0 ≤ t169 then (if t169 ≤ (a0.size : Int) then (some (17, a0.extract 0 (t169 : Int).toNat, 1, 0, t169, 0, 0)) else (none)) else (none)) else (some (0, (⟨#[]⟩ : ByteArray), 0, 0, 0, 0, 9))) else (if 0 ≤ t169 then (if t169 ≤ (a0.size : Int) then (some (17, a0.extract 0 (t169 : Int).toNat, 1, 0, t169, 0, 0)) else (none)) else (none)))) else (some (0, (⟨#[]⟩ : ByteArray), 0, 0, 0, 0, 4))) = some (r1, r2, r3, r4, r5, r6, r7) := H
                      have A122 := Aside0.mk A1220
                      clear A1220
                      by_cases c123 : t170 = true
                      ·
                       subst c123
                       have H1 := H
                       rw [if_pos rfl] at H1
                       clear H
                       have H := H1
                       clear H1
                       replace H := Option.bind_eq_some_iff.mp H
                       obtain ⟨t171, A1240, H⟩ := H
                       replace H : (if (bt a0 0) < 128 then (if t171 = true then (if 0 ≤ t169 then (if t169 ≤ (a0.size : Int) then (some (17, a0.extract 0 (t169 : Int).toNat, 1, 0, t169, 0, 0)) else (none)) else (none)) else (some (0, (⟨#[]⟩ : ByteArray), 0, 0, 0, 0, 9))) else (if 0 ≤ t169 then (if t169 ≤ (a0.size : Int) then (some (17, a0.extract 0 (t169 : Int).toNat, 1, 0, t169, 0, 0)) else (none)) else (none))) = some (r1, r2, r3, r4, r5, r6, r7) := H
                       have A124 := Aside0.mk A1240
                       clear A1240
                       by_cases c125 : (bt a0 0) < 128
                       ·
                        rw [if_pos c125] at H
                        have c125b0 : decide ((bt a0 0) < 128) = true := decide_eq_true c125
                        clear c125
                        by_cases c126 : t171 = true
                        ·
                         subst c126
                         have H1 := H
                         rw [if_pos rfl] at H1
                         clear H
                         have H := H1
                         clear H1
                         by_cases c127 : 0 ≤ t169
                         ·
                          rw [if_pos c127] at H
                          have c127b0 := eq_true c127
                          have c127b1 : decide (0 ≤ t169) = true := decide_eq_true c127
                          clear c127
                          by_cases c128 : t169 ≤ (a0.size : Int)
                          ·
                           rw [if_pos c128] at H
                           have c128b0 := eq_true c128
                           have c128b1 : decide (t169 ≤ (a0.size : Int)) = true := decide_eq_true c128
                           clear c128
                           simp only [Option.some.injEq, Prod.mk.injEq] at H
                           obtain ⟨rfl, rfl, rfl, rfl, rfl, rfl, rfl⟩ := H
                           go_wp2_with (first | (go_at_call 77; (with_reducible refine (numeraryref11_begins.calls a0 (⟨#[97, 109, 47, 112, 109]⟩ : ByteArray) false _ A81.out).mono ?_); rintro e w129 ⟨rfl, hb⟩; have n0_ := Aside0.mk (blk_below (g := gb126) (o := .cells #[.int .i64 x127000_2, .string x127001_2, .int .i64 x127002_2, .int .i64 x127003_2] 75 (0, 0)) (by (with_reducible repeat (first | refine blk_drewN ?_ _ | refine blk_drew ?_ | refine blk_alloc ?_ _)); exact BK126.out) hb); have n1_ := Aside0.mk (blk_below (g := gb127) (o := .cells #[.int .i64 0, .string (⟨#[]⟩ : ByteArray), .int .i64 0, .int .i64 0] 75 (0, 0)) (by (with_reducible repeat (first | refine blk_drewN ?_ _ | refine blk_drew ?_ | refine blk_alloc ?_ _)); exact BK127.out) hb); have n2_ := Aside0.mk (below_step (by repeat (first | (with_reducible first | exact HB.out | apply below_alloc | apply pw_below_drewN | apply below_drew1 | refine below_set ?_ GE126.out | refine below_set ?_ GE127.out) | exact HB.out)) hb); clear BK126; clear BK127; clear HB; have BK126 := n0_; have BK127 := n1_; have HB := n2_; clear n0_ n1_ n2_; (try clear hb); (try clear hb2); (try clear hk); (try clear hi)) | (go_at_call 77; (with_reducible refine (numeraryref11_begins.calls a0 (⟨#[97, 47, 112]⟩ : ByteArray) false _ A86.out).mono ?_); rintro e w130 ⟨rfl, hb⟩; have n0_ := Aside0.mk (blk_below (g := gb126) (o := .cells #[.int .i64 x127000_2, .string x127001_2, .int .i64 x127002_2, .int .i64 x127003_2] 75 (0, 0)) (by (with_reducible repeat (first | refine blk_drewN ?_ _ | refine blk_drew ?_ | refine blk_alloc ?_ _)); exact BK126.out) hb); have n1_ := Aside0.mk (blk_below (g := gb127) (o := .cells #[.int .i64 0, .string (⟨#[]⟩ : ByteArray), .int .i64 0, .int .i64 0] 75 (0, 0)) (by (with_reducible repeat (first | refine blk_drewN ?_ _ | refine blk_drew ?_ | refine blk_alloc ?_ _)); exact BK127.out) hb); have n2_ := Aside0.mk (below_step (by repeat (first | (with_reducible first | exact HB.out | apply below_alloc | apply pw_below_drewN | apply below_drew1 | refine below_set ?_ GE126.out | refine below_set ?_ GE127.out) | exact HB.out)) hb); clear BK126; clear BK127; clear HB; have BK126 := n0_; have BK127 := n1_; have HB := n2_; clear n0_ n1_ n2_; (try clear hb); (try clear hb2); (try clear hk); (try clear hi)) | (go_at_call 77; (with_reducible refine (numeraryref11_begins.calls a0 (⟨#[103, 101, 110, 101, 114, 97, 108]⟩ : ByteArray) false _ A92.out).mono ?_); rintro e w131 ⟨rfl, hb⟩; have n0_ := Aside0.mk (blk_below (g := gb126) (o := .cells #[.int .i64 x127000_2, .string x127001_2, .int .i64 x127002_2, .int .i64 x127003_2] 75 (0, 0)) (by (with_reducible repeat (first | refine blk_drewN ?_ _ | refine blk_drew ?_ | refine blk_alloc ?_ _)); exact BK126.out) hb); have n1_ := Aside0.mk (blk_below (g := gb127) (o := .cells #[.int .i64 0, .string (⟨#[]⟩ : ByteArray), .int .i64 0, .int .i64 0] 75 (0, 0)) (by (with_reducible repeat (first | refine blk_drewN ?_ _ | refine blk_drew ?_ | refine blk_alloc ?_ _)); exact BK127.out) hb); have n2_ := Aside0.mk (below_step (by repeat (first | (with_reducible first | exact HB.out | apply below_alloc | apply pw_below_drewN | apply below_drew1 | refine below_set ?_ GE126.out | refine below_set ?_ GE127.out) | exact HB.out)) hb); clear BK126; clear BK127; clear HB; have BK126 := n0_; have BK127 := n1_; have HB := n2_; clear n0_ n1_ n2_; (try clear hb); (try clear hb2); (try clear hk); (try clear hi)) | (go_at_call 78; (with_reducible refine (numeraryref11_low.calls a0 t166 _ A99.out).mono ?_); rintro e w132 ⟨rfl, hb⟩; have n0_ := Aside0.mk (blk_below (g := gb126) (o := .cells #[.int .i64 x127000_2, .string x127001_2, .int .i64 x127002_2, .int .i64 x127003_2] 75 (0, 0)) (by (with_reducible repeat (first | refine blk_drewN ?_ _ | refine blk_drew ?_ | refine blk_alloc ?_ _)); exact BK126.out) hb); have n1_ := Aside0.mk (blk_below (g := gb127) (o := .cells #[.int .i64 0, .string (⟨#[]⟩ : ByteArray), .int .i64 0, .int .i64 0] 75 (0, 0)) (by (with_reducible repeat (first | refine blk_drewN ?_ _ | refine blk_drew ?_ | refine blk_alloc ?_ _)); exact BK127.out) hb); have n2_ := Aside0.mk (below_step (by repeat (first | (with_reducible first | exact HB.out | apply below_alloc | apply pw_below_drewN | apply below_drew1 | refine below_set ?_ GE126.out | refine below_set ?_ GE127.out) | exact HB.out)) hb); clear BK126; clear BK127; clear HB; have BK126 := n0_; have BK127 := n1_; have HB := n2_; clear n0_ n1_ n2_; (try clear hb); (try clear hb2); (try clear hk); (try clear hi); have p101 : 0 ≤ (0 : Int) := (by omega); have q101 : 0 < t166.size := (by have : (0 : Int) < (t166.size : Int) := of_decide_eq_true (by first | (with_reducible assumption) | assumption); omega); have hx101 : ∀ h : 0 < t166.size, ((t166[0]'h).toNat : Int) = bt t166 0 := bt_at t166 0; clear p101; have qi101 : (0 < (t166.size : Int)) = True := eq_true (of_decide_eq_true (by first | (with_reducible assumption) | assumption)); replace q101 := eq_true q101) | (go_at_call 79; (with_reducible refine (numeraryref11_has.calls kj63 (⟨#[121, 109, 100, 104, 115]⟩ : ByteArray) (bt t166 0) false _ A102.out).mono ?_); rintro e w' ⟨rfl, ⟨nd, rfl⟩⟩; (try first | exact ⟨rfl, _, World.drewN_drewN _ _ _⟩ | exact ⟨rfl, _, Eq.trans (World.drewN_drewN _ _ _) (congrArg (World.drewN _) (Nat.add_assoc _ _ _))⟩)) | (go_at_call 80; (with_reducible refine (numeraryref01_First.calls kj63 a0 t168 t169 true _ A122.out).mono ?_); rintro e w133 ⟨rfl, hb⟩; have n0_ := Aside0.mk (blk_below (g := gb126) (o := .cells #[.int .i64 x127000_2, .string x127001_2, .int .i64 x127002_2, .int .i64 x127003_2] 75 (0, 0)) (by (with_reducible repeat (first | refine blk_drewN ?_ _ | refine blk_drew ?_ | refine blk_alloc ?_ _)); exact BK126.out) hb); have n1_ := Aside0.mk (blk_below (g := gb127) (o := .cells #[.int .i64 0, .string (⟨#[]⟩ : ByteArray), .int .i64 0, .int .i64 0] 75 (0, 0)) (by (with_reducible repeat (first | refine blk_drewN ?_ _ | refine blk_drew ?_ | refine blk_alloc ?_ _)); exact BK127.out) hb); have n2_ := Aside0.mk (below_step (by repeat (first | (with_reducible first | exact HB.out | apply below_alloc | apply pw_below_drewN | apply below_drew1 | refine below_set ?_ GE126.out | refine below_set ?_ GE127.out) | exact HB.out)) hb); clear BK126; clear BK127; clear HB; have BK126 := n0_; have BK127 := n1_; have HB := n2_; clear n0_ n1_ n2_; (try clear hb); (try clear hb2); (try clear hk); (try clear hi)) | (go_at_call 79; (with_reducible refine (numeraryref11_has.calls kj63 (⟨#[36, 45, 43, 40, 41, 58, 33, 94, 38, 39, 126, 123, 125, 60, 62, 61, 32, 49, 50, 51, 52, 53, 54, 55, 56, 57]⟩ : ByteArray) (bt a0 0) true _ A124.out).mono ?_); rintro e w' ⟨rfl, ⟨nd, rfl⟩⟩; (try first | exact ⟨rfl, _, World.drewN_drewN _ _ _⟩ | exact ⟨rfl, _, Eq.trans (World.drewN_drewN _ _ _) (congrArg (World.drewN _) (Nat.add_assoc _ _ _))⟩); have hnb134 := NB126_127.out; have hnc134 := NB127_126.out; have hcz135_0 : w133.cell? ⟨gb126, 0, none⟩ = some (.int .i64 x127000_2) := (blk_cell BK126.out 0).trans rfl; have hcz135_1 : w133.cell? ⟨gb126, 1, none⟩ = some (.string x127001_2) := (blk_cell BK126.out 1).trans rfl; have hcz135_2 : w133.cell? ⟨gb126, 2, none⟩ = some (.int .i64 x127002_2) := (blk_cell BK126.out 2).trans rfl; have hcz135_3 : w133.cell? ⟨gb126, 3, none⟩ = some (.int .i64 x127003_2) := (blk_cell BK126.out 3).trans rfl; have hfz135_0 := blk_frozen BK126.out 0; have hfz135_1 := blk_frozen BK126.out 1; have hfz135_2 := blk_frozen BK126.out 2; have hfz135_3 := blk_frozen BK126.out 3))
                           refine bodyPost_ret (results_list (rs := [.cell 2 75, .tmp 3, .tmp 4, .tmp 5]) rfl (by simp) (.cell gb126 75 #[.int .i64 17, .string (a0.extract 0 (t169 : Int).toNat), .int .i64 1, .int .i64 0] (0, 0) _ rfl (by (with_reducible repeat (first | refine blk_drewN ?_ _ | refine blk_drew ?_ | refine blk_alloc ?_ _)); refine blk_put (cs := #[.int .i64 17, .string (a0.extract 0 (t169 : Int).toNat), .int .i64 1, .int .i64 x127003_2]) ?_ 3 _ rfl; (with_reducible repeat (first | refine blk_drewN ?_ _ | refine blk_drew ?_ | refine blk_alloc ?_ _)); refine blk_put (cs := #[.int .i64 17, .string (a0.extract 0 (t169 : Int).toNat), .int .i64 x127002_2, .int .i64 x127003_2]) ?_ 2 _ rfl; (with_reducible repeat (first | refine blk_drewN ?_ _ | refine blk_drew ?_ | refine blk_alloc ?_ _)); refine blk_put (cs := #[.int .i64 17, .string x127001_2, .int .i64 x127002_2, .int .i64 x127003_2]) ?_ 1 _ rfl; (with_reducible repeat (first | refine blk_drewN ?_ _ | refine blk_drew ?_ | refine blk_alloc ?_ _)); refine blk_put (cs := #[.int .i64 x127000_2, .string x127001_2, .int .i64 x127002_2, .int .i64 x127003_2]) ?_ 0 _ rfl; (with_reducible repeat (first | refine blk_drewN ?_ _ | refine blk_drew ?_ | refine blk_alloc ?_ _)); exact BK126.out) Tryz.underlying75 rfl (by kernel_rfl) (.tmp (.tmp (.tmp .nil))))) rfl ?_
                           exact ⟨by first | rfl | (simp [errW_none, errW_some] <;> rfl) | (simp [*, errW_none, errW_some] <;> rfl), by repeat (first | (with_reducible first | exact HB.out | apply below_alloc | apply pw_below_drewN | apply below_drew1 | refine below_set ?_ GE126.out | refine below_set ?_ GE127.out) | exact HB.out)⟩
                          ·
                           rw [if_neg c128] at H
                           exact absurd H (by simp)
                         ·
                          rw [if_neg c127] at H
                          exact absurd H (by simp)
                        ·
                         replace c126 := Bool.eq_false_iff.mpr c126
                         subst c126
                         have H1 := H
                         rw [if_neg (show ¬ (false = true) by decide)] at H1
                         clear H
                         have H := H1
                         clear H1
                         simp only [Option.some.injEq, Prod.mk.injEq] at H
                         obtain ⟨rfl, rfl, rfl, rfl, rfl, rfl, rfl⟩ := H
                         go_wp2_with (first | (go_at_call 77; (with_reducible refine (numeraryref11_begins.calls a0 (⟨#[97, 109, 47, 112, 109]⟩ : ByteArray) false _ A81.out).mono ?_); rintro e w136 ⟨rfl, hb⟩; have n0_ := Aside0.mk (blk_below (g := gb126) (o := .cells #[.int .i64 x127000_2, .string x127001_2, .int .i64 x127002_2, .int .i64 x127003_2] 75 (0, 0)) (by (with_reducible repeat (first | refine blk_drewN ?_ _ | refine blk_drew ?_ | refine blk_alloc ?_ _)); exact BK126.out) hb); have n1_ := Aside0.mk (blk_below (g := gb127) (o := .cells #[.int .i64 0, .string (⟨#[]⟩ : ByteArray), .int .i64 0, .int .i64 0] 75 (0, 0)) (by (with_reducible repeat (first | refine blk_drewN ?_ _ | refine blk_drew ?_ | refine blk_alloc ?_ _)); exact BK127.out) hb); have n2_ := Aside0.mk (below_step (by repeat (first | (with_reducible first | exact HB.out | apply below_alloc | apply pw_below_drewN | apply below_drew1 | refine below_set ?_ GE126.out | refine below_set ?_ GE127.out) | exact HB.out)) hb); clear BK126; clear BK127; clear HB; have BK126 := n0_; have BK127 := n1_; have HB := n2_; clear n0_ n1_ n2_; (try clear hb); (try clear hb2); (try clear hk); (try clear hi)) | (go_at_call 77; (with_reducible refine (numeraryref11_begins.calls a0 (⟨#[97, 47, 112]⟩ : ByteArray) false _ A86.out).mono ?_); rintro e w137 ⟨rfl, hb⟩; have n0_ := Aside0.mk (blk_below (g := gb126) (o := .cells #[.int .i64 x127000_2, .string x127001_2, .int .i64 x127002_2, .int .i64 x127003_2] 75 (0, 0)) (by (with_reducible repeat (first | refine blk_drewN ?_ _ | refine blk_drew ?_ | refine blk_alloc ?_ _)); exact BK126.out) hb); have n1_ := Aside0.mk (blk_below (g := gb127) (o := .cells #[.int .i64 0, .string (⟨#[]⟩ : ByteArray), .int .i64 0, .int .i64 0] 75 (0, 0)) (by (with_reducible repeat (first | refine blk_drewN ?_ _ | refine blk_drew ?_ | refine blk_alloc ?_ _)); exact BK127.out) hb); have n2_ := Aside0.mk (below_step (by repeat (first | (with_reducible first | exact HB.out | apply below_alloc | apply pw_below_drewN | apply below_drew1 | refine below_set ?_ GE126.out | refine below_set ?_ GE127.out) | exact HB.out)) hb); clear BK126; clear BK127; clear HB; have BK126 := n0_; have BK127 := n1_; have HB := n2_; clear n0_ n1_ n2_; (try clear hb); (try clear hb2); (try clear hk); (try clear hi)) | (go_at_call 77; (with_reducible refine (numeraryref11_begins.calls a0 (⟨#[103, 101, 110, 101, 114, 97, 108]⟩ : ByteArray) false _ A92.out).mono ?_); rintro e w138 ⟨rfl, hb⟩; have n0_ := Aside0.mk (blk_below (g := gb126) (o := .cells #[.int .i64 x127000_2, .string x127001_2, .int .i64 x127002_2, .int .i64 x127003_2] 75 (0, 0)) (by (with_reducible repeat (first | refine blk_drewN ?_ _ | refine blk_drew ?_ | refine blk_alloc ?_ _)); exact BK126.out) hb); have n1_ := Aside0.mk (blk_below (g := gb127) (o := .cells #[.int .i64 0, .string (⟨#[]⟩ : ByteArray), .int .i64 0, .int .i64 0] 75 (0, 0)) (by (with_reducible repeat (first | refine blk_drewN ?_ _ | refine blk_drew ?_ | refine blk_alloc ?_ _)); exact BK127.out) hb); have n2_ := Aside0.mk (below_step (by repeat (first | (with_reducible first | exact HB.out | apply below_alloc | apply pw_below_drewN | apply below_drew1 | refine below_set ?_ GE126.out | refine below_set ?_ GE127.out) | exact HB.out)) hb); clear BK126; clear BK127; clear HB; have BK126 := n0_; have BK127 := n1_; have HB := n2_; clear n0_ n1_ n2_; (try clear hb); (try clear hb2); (try clear hk); (try clear hi)) | (go_at_call 78; (with_reducible refine (numeraryref11_low.calls a0 t166 _ A99.out).mono ?_); rintro e w139 ⟨rfl, hb⟩; have n0_ := Aside0.mk (blk_below (g := gb126) (o := .cells #[.int .i64 x127000_2, .string x127001_2, .int .i64 x127002_2, .int .i64 x127003_2] 75 (0, 0)) (by (with_reducible repeat (first | refine blk_drewN ?_ _ | refine blk_drew ?_ | refine blk_alloc ?_ _)); exact BK126.out) hb); have n1_ := Aside0.mk (blk_below (g := gb127) (o := .cells #[.int .i64 0, .string (⟨#[]⟩ : ByteArray), .int .i64 0, .int .i64 0] 75 (0, 0)) (by (with_reducible repeat (first | refine blk_drewN ?_ _ | refine blk_drew ?_ | refine blk_alloc ?_ _)); exact BK127.out) hb); have n2_ := Aside0.mk (below_step (by repeat (first | (with_reducible first | exact HB.out | apply below_alloc | apply pw_below_drewN | apply below_drew1 | refine below_set ?_ GE126.out | refine below_set ?_ GE127.out) | exact HB.out)) hb); clear BK126; clear BK127; clear HB; have BK126 := n0_; have BK127 := n1_; have HB := n2_; clear n0_ n1_ n2_; (try clear hb); (try clear hb2); (try clear hk); (try clear hi); have p101 : 0 ≤ (0 : Int) := (by omega); have q101 : 0 < t166.size := (by have : (0 : Int) < (t166.size : Int) := of_decide_eq_true (by first | (with_reducible assumption) | assumption); omega); have hx101 : ∀ h : 0 < t166.size, ((t166[0]'h).toNat : Int) = bt t166 0 := bt_at t166 0; clear p101; have qi101 : (0 < (t166.size : Int)) = True := eq_true (of_decide_eq_true (by first | (with_reducible assumption) | assumption)); replace q101 := eq_true q101) | (go_at_call 79; (with_reducible refine (numeraryref11_has.calls kj63 (⟨#[121, 109, 100, 104, 115]⟩ : ByteArray) (bt t166 0) false _ A102.out).mono ?_); rintro e w' ⟨rfl, ⟨nd, rfl⟩⟩; (try first | exact ⟨rfl, _, World.drewN_drewN _ _ _⟩ | exact ⟨rfl, _, Eq.trans (World.drewN_drewN _ _ _) (congrArg (World.drewN _) (Nat.add_assoc _ _ _))⟩)) | (go_at_call 80; (with_reducible refine (numeraryref01_First.calls kj63 a0 t168 t169 true _ A122.out).mono ?_); rintro e w140 ⟨rfl, hb⟩; have n0_ := Aside0.mk (blk_below (g := gb126) (o := .cells #[.int .i64 x127000_2, .string x127001_2, .int .i64 x127002_2, .int .i64 x127003_2] 75 (0, 0)) (by (with_reducible repeat (first | refine blk_drewN ?_ _ | refine blk_drew ?_ | refine blk_alloc ?_ _)); exact BK126.out) hb); have n1_ := Aside0.mk (blk_below (g := gb127) (o := .cells #[.int .i64 0, .string (⟨#[]⟩ : ByteArray), .int .i64 0, .int .i64 0] 75 (0, 0)) (by (with_reducible repeat (first | refine blk_drewN ?_ _ | refine blk_drew ?_ | refine blk_alloc ?_ _)); exact BK127.out) hb); have n2_ := Aside0.mk (below_step (by repeat (first | (with_reducible first | exact HB.out | apply below_alloc | apply pw_below_drewN | apply below_drew1 | refine below_set ?_ GE126.out | refine below_set ?_ GE127.out) | exact HB.out)) hb); clear BK126; clear BK127; clear HB; have BK126 := n0_; have BK127 := n1_; have HB := n2_; clear n0_ n1_ n2_; (try clear hb); (try clear hb2); (try clear hk); (try clear hi)) | (go_at_call 79; (with_reducible refine (numeraryref11_has.calls kj63 (⟨#[36, 45, 43, 40, 41, 58, 33, 94, 38, 39, 126, 123, 125, 60, 62, 61, 32, 49, 50, 51, 52, 53, 54, 55, 56, 57]⟩ : ByteArray) (bt a0 0) false _ A124.out).mono ?_); rintro e w' ⟨rfl, ⟨nd, rfl⟩⟩; (try first | exact ⟨rfl, _, World.drewN_drewN _ _ _⟩ | exact ⟨rfl, _, Eq.trans (World.drewN_drewN _ _ _) (congrArg (World.drewN _) (Nat.add_assoc _ _ _))⟩); have hnb141 := NB127_126.out; have hnc141 := NB126_127.out; have hcz142_0 : w140.cell? ⟨gb127, 0, none⟩ = some (.int .i64 0) := (blk_cell BK127.out 0).trans rfl; have hcz142_1 : w140.cell? ⟨gb127, 1, none⟩ = some (.string (⟨#[]⟩ : ByteArray)) := (blk_cell BK127.out 1).trans rfl; have hcz142_2 : w140.cell? ⟨gb127, 2, none⟩ = some (.int .i64 0) := (blk_cell BK127.out 2).trans rfl; have hcz142_3 : w140.cell? ⟨gb127, 3, none⟩ = some (.int .i64 0) := (blk_cell BK127.out 3).trans rfl; have hfz142_0 := blk_frozen BK127.out 0; have hfz142_1 := blk_frozen BK127.out 1; have hfz142_2 := blk_frozen BK127.out 2; have hfz142_3 := blk_frozen BK127.out 3; have hcz143_0 : w140.cell? ⟨gb126, 0, none⟩ = some (.int .i64 x127000_2) := (blk_cell BK126.out 0).trans rfl; have hcz143_1 : w140.cell? ⟨gb126, 1, none⟩ = some (.string x127001_2) := (blk_cell BK126.out 1).trans rfl; have hcz143_2 : w140.cell? ⟨gb126, 2, none⟩ = some (.int .i64 x127002_2) := (blk_cell BK126.out 2).trans rfl; have hcz143_3 : w140.cell? ⟨gb126, 3, none⟩ = some (.int .i64 x127003_2) := (blk_cell BK126.out 3).trans rfl; have hfz143_0 := blk_frozen BK126.out 0; have hfz143_1 := blk_frozen BK126.out 1; have hfz143_2 := blk_frozen BK126.out 2; have hfz143_3 := blk_frozen BK126.out 3))
                         refine bodyPost_ret (results_list (rs := [.cell 2 75, .tmp 3, .tmp 4, .tmp 5]) rfl (by simp) (.cell gb126 75 #[.int .i64 0, .string (⟨#[]⟩ : ByteArray), .int .i64 0, .int .i64 0] (0, 0) _ rfl (by (with_reducible repeat (first | refine blk_drewN ?_ _ | refine blk_drew ?_ | refine blk_alloc ?_ _)); refine blk_put (cs := #[.int .i64 0, .string (⟨#[]⟩ : ByteArray), .int .i64 0, .int .i64 x127003_2]) ?_ 3 _ rfl; (with_reducible repeat (first | refine blk_drewN ?_ _ | refine blk_drew ?_ | refine blk_alloc ?_ _)); refine blk_put (cs := #[.int .i64 0, .string (⟨#[]⟩ : ByteArray), .int .i64 x127002_2, .int .i64 x127003_2]) ?_ 2 _ rfl; (with_reducible repeat (first | refine blk_drewN ?_ _ | refine blk_drew ?_ | refine blk_alloc ?_ _)); refine blk_put (cs := #[.int .i64 0, .string x127001_2, .int .i64 x127002_2, .int .i64 x127003_2]) ?_ 1 _ rfl; (with_reducible repeat (first | refine blk_drewN ?_ _ | refine blk_drew ?_ | refine blk_alloc ?_ _)); refine blk_put (cs := #[.int .i64 x127000_2, .string x127001_2, .int .i64 x127002_2, .int .i64 x127003_2]) ?_ 0 _ rfl; (with_reducible repeat (first | refine blk_drewN ?_ _ | refine blk_drew ?_ | refine blk_alloc ?_ _)); exact BK126.out) Tryz.underlying75 rfl (by kernel_rfl) (.tmp (.tmp (.tmp .nil))))) rfl ?_
                         exact ⟨by first | rfl | (simp [errW_none, errW_some] <;> rfl) | (simp [*, errW_none, errW_some] <;> rfl), by repeat (first | (with_reducible first | exact HB.out | apply below_alloc | apply pw_below_drewN | apply below_drew1 | refine below_set ?_ GE126.out | refine below_set ?_ GE127.out) | exact HB.out)⟩
                       ·
                        rw [if_neg c125] at H
                        have c125b0 : decide ((bt a0 0) < 128) = false := decide_eq_false c125
                        clear c125
                        by_cases c144 : 0 ≤ t169
                        ·
                         rw [if_pos c144] at H
                         have c144b0 := eq_true c144
                         have c144b1 : decide (0 ≤ t169) = true := decide_eq_true c144
                         clear c144
                         by_cases c145 : t169 ≤ (a0.size : Int)
                         ·
                          rw [if_pos c145] at H
                          have c145b0 := eq_true c145
                          have c145b1 : decide (t169 ≤ (a0.size : Int)) = true := decide_eq_true c145
                          clear c145
                          simp only [Option.some.injEq, Prod.mk.injEq] at H
                          obtain ⟨rfl, rfl, rfl, rfl, rfl, rfl, rfl⟩ := H
                          go_wp2_with (first | (go_at_call 77; (with_reducible refine (numeraryref11_begins.calls a0 (⟨#[97, 109, 47, 112, 109]⟩ : ByteArray) false _ A81.out).mono ?_); rintro e w146 ⟨rfl, hb⟩; have n0_ := Aside0.mk (blk_below (g := gb126) (o := .cells #[.int .i64 x127000_2, .string x127001_2, .int .i64 x127002_2, .int .i64 x127003_2] 75 (0, 0)) (by (with_reducible repeat (first | refine blk_drewN ?_ _ | refine blk_drew ?_ | refine blk_alloc ?_ _)); exact BK126.out) hb); have n1_ := Aside0.mk (blk_below (g := gb127) (o := .cells #[.int .i64 0, .string (⟨#[]⟩ : ByteArray), .int .i64 0, .int .i64 0] 75 (0, 0)) (by (with_reducible repeat (first | refine blk_drewN ?_ _ | refine blk_drew ?_ | refine blk_alloc ?_ _)); exact BK127.out) hb); have n2_ := Aside0.mk (below_step (by repeat (first | (with_reducible first | exact HB.out | apply below_alloc | apply pw_below_drewN | apply below_drew1 | refine below_set ?_ GE126.out | refine below_set ?_ GE127.out) | exact HB.out)) hb); clear BK126; clear BK127; clear HB; have BK126 := n0_; have BK127 := n1_; have HB := n2_; clear n0_ n1_ n2_; (try clear hb); (try clear hb2); (try clear hk); (try clear hi)) | (go_at_call 77; (with_reducible refine (numeraryref11_begins.calls a0 (⟨#[97, 47, 112]⟩ : ByteArray) false _ A86.out).mono ?_); rintro e w147 ⟨rfl, hb⟩; have n0_ := Aside0.mk (blk_below (g := gb126) (o := .cells #[.int .i64 x127000_2, .string x127001_2, .int .i64 x127002_2, .int .i64 x127003_2] 75 (0, 0)) (by (with_reducible repeat (first | refine blk_drewN ?_ _ | refine blk_drew ?_ | refine blk_alloc ?_ _)); exact BK126.out) hb); have n1_ := Aside0.mk (blk_below (g := gb127) (o := .cells #[.int .i64 0, .string (⟨#[]⟩ : ByteArray), .int .i64 0, .int .i64 0] 75 (0, 0)) (by (with_reducible repeat (first | refine blk_drewN ?_ _ | refine blk_drew ?_ | refine blk_alloc ?_ _)); exact BK127.out) hb); have n2_ := Aside0.mk (below_step (by repeat (first | (with_reducible first | exact HB.out | apply below_alloc | apply pw_below_drewN | apply below_drew1 | refine below_set ?_ GE126.out | refine below_set ?_ GE127.out) | exact HB.out)) hb); clear BK126; clear BK127; clear HB; have BK126 := n0_; have BK127 := n1_; have HB := n2_; clear n0_ n1_ n2_; (try clear hb); (try clear hb2); (try clear hk); (try clear hi)) | (go_at_call 77; (with_reducible refine (numeraryref11_begins.calls a0 (⟨#[103, 101, 110, 101, 114, 97, 108]⟩ : ByteArray) false _ A92.out).mono ?_); rintro e w148 ⟨rfl, hb⟩; have n0_ := Aside0.mk (blk_below (g := gb126) (o := .cells #[.int .i64 x127000_2, .string x127001_2, .int .i64 x127002_2, .int .i64 x127003_2] 75 (0, 0)) (by (with_reducible repeat (first | refine blk_drewN ?_ _ | refine blk_drew ?_ | refine blk_alloc ?_ _)); exact BK126.out) hb); have n1_ := Aside0.mk (blk_below (g := gb127) (o := .cells #[.int .i64 0, .string (⟨#[]⟩ : ByteArray), .int .i64 0, .int .i64 0] 75 (0, 0)) (by (with_reducible repeat (first | refine blk_drewN ?_ _ | refine blk_drew ?_ | refine blk_alloc ?_ _)); exact BK127.out) hb); have n2_ := Aside0.mk (below_step (by repeat (first | (with_reducible first | exact HB.out | apply below_alloc | apply pw_below_drewN | apply below_drew1 | refine below_set ?_ GE126.out | refine below_set ?_ GE127.out) | exact HB.out)) hb); clear BK126; clear BK127; clear HB; have BK126 := n0_; have BK127 := n1_; have HB := n2_; clear n0_ n1_ n2_; (try clear hb); (try clear hb2); (try clear hk); (try clear hi)) | (go_at_call 78; (with_reducible refine (numeraryref11_low.calls a0 t166 _ A99.out).mono ?_); rintro e w149 ⟨rfl, hb⟩; have n0_ := Aside0.mk (blk_below (g := gb126) (o := .cells #[.int .i64 x127000_2, .string x127001_2, .int .i64 x127002_2, .int .i64 x127003_2] 75 (0, 0)) (by (with_reducible repeat (first | refine blk_drewN ?_ _ | refine blk_drew ?_ | refine blk_alloc ?_ _)); exact BK126.out) hb); have n1_ := Aside0.mk (blk_below (g := gb127) (o := .cells #[.int .i64 0, .string (⟨#[]⟩ : ByteArray), .int .i64 0, .int .i64 0] 75 (0, 0)) (by (with_reducible repeat (first | refine blk_drewN ?_ _ | refine blk_drew ?_ | refine blk_alloc ?_ _)); exact BK127.out) hb); have n2_ := Aside0.mk (below_step (by repeat (first | (with_reducible first | exact HB.out | apply below_alloc | apply pw_below_drewN | apply below_drew1 | refine below_set ?_ GE126.out | refine below_set ?_ GE127.out) | exact HB.out)) hb); clear BK126; clear BK127; clear HB; have BK126 := n0_; have BK127 := n1_; have HB := n2_; clear n0_ n1_ n2_; (try clear hb); (try clear hb2); (try clear hk); (try clear hi); have p101 : 0 ≤ (0 : Int) := (by omega); have q101 : 0 < t166.size := (by have : (0 : Int) < (t166.size : Int) := of_decide_eq_true (by first | (with_reducible assumption) | assumption); omega); have hx101 : ∀ h : 0 < t166.size, ((t166[0]'h).toNat : Int) = bt t166 0 := bt_at t166 0; clear p101; have qi101 : (0 < (t166.size : Int)) = True := eq_true (of_decide_eq_true (by first | (with_reducible assumption) | assumption)); replace q101 := eq_true q101) | (go_at_call 79; (with_reducible refine (numeraryref11_has.calls kj63 (⟨#[121, 109, 100, 104, 115]⟩ : ByteArray) (bt t166 0) false _ A102.out).mono ?_); rintro e w' ⟨rfl, ⟨nd, rfl⟩⟩; (try first | exact ⟨rfl, _, World.drewN_drewN _ _ _⟩ | exact ⟨rfl, _, Eq.trans (World.drewN_drewN _ _ _) (congrArg (World.drewN _) (Nat.add_assoc _ _ _))⟩)) | (go_at_call 80; (with_reducible refine (numeraryref01_First.calls kj63 a0 t168 t169 true _ A122.out).mono ?_); rintro e w150 ⟨rfl, hb⟩; have n0_ := Aside0.mk (blk_below (g := gb126) (o := .cells #[.int .i64 x127000_2, .string x127001_2, .int .i64 x127002_2, .int .i64 x127003_2] 75 (0, 0)) (by (with_reducible repeat (first | refine blk_drewN ?_ _ | refine blk_drew ?_ | refine blk_alloc ?_ _)); exact BK126.out) hb); have n1_ := Aside0.mk (blk_below (g := gb127) (o := .cells #[.int .i64 0, .string (⟨#[]⟩ : ByteArray), .int .i64 0, .int .i64 0] 75 (0, 0)) (by (with_reducible repeat (first | refine blk_drewN ?_ _ | refine blk_drew ?_ | refine blk_alloc ?_ _)); exact BK127.out) hb); have n2_ := Aside0.mk (below_step (by repeat (first | (with_reducible first | exact HB.out | apply below_alloc | apply pw_below_drewN | apply below_drew1 | refine below_set ?_ GE126.out | refine below_set ?_ GE127.out) | exact HB.out)) hb); clear BK126; clear BK127; clear HB; have BK126 := n0_; have BK127 := n1_; have HB := n2_; clear n0_ n1_ n2_; (try clear hb); (try clear hb2); (try clear hk); (try clear hi)) | (go_at_call 79; (with_reducible refine (numeraryref11_has.calls kj63 (⟨#[36, 45, 43, 40, 41, 58, 33, 94, 38, 39, 126, 123, 125, 60, 62, 61, 32, 49, 50, 51, 52, 53, 54, 55, 56, 57]⟩ : ByteArray) (bt a0 0) t171 _ A124.out).mono ?_); rintro e w' ⟨rfl, ⟨nd, rfl⟩⟩; (try first | exact ⟨rfl, _, World.drewN_drewN _ _ _⟩ | exact ⟨rfl, _, Eq.trans (World.drewN_drewN _ _ _) (congrArg (World.drewN _) (Nat.add_assoc _ _ _))⟩); have hnb151 := NB126_127.out; have hnc151 := NB127_126.out; have hcz152_0 : w150.cell? ⟨gb126, 0, none⟩ = some (.int .i64 x127000_2) := (blk_cell BK126.out 0).trans rfl; have hcz152_1 : w150.cell? ⟨gb126, 1, none⟩ = some (.string x127001_2) := (blk_cell BK126.out 1).trans rfl; have hcz152_2 : w150.cell? ⟨gb126, 2, none⟩ = some (.int .i64 x127002_2) := (blk_cell BK126.out 2).trans rfl; have hcz152_3 : w150.cell? ⟨gb126, 3, none⟩ = some (.int .i64 x127003_2) := (blk_cell BK126.out 3).trans rfl; have hfz152_0 := blk_frozen BK126.out 0; have hfz152_1 := blk_frozen BK126.out 1; have hfz152_2 := blk_frozen BK126.out 2; have hfz152_3 := blk_frozen BK126.out 3))
                          refine bodyPost_ret (results_list (rs := [.cell 2 75, .tmp 3, .tmp 4, .tmp 5]) rfl (by simp) (.cell gb126 75 #[.int .i64 17, .string (a0.extract 0 (t169 : Int).toNat), .int .i64 1, .int .i64 0] (0, 0) _ rfl (by (with_reducible repeat (first | refine blk_drewN ?_ _ | refine blk_drew ?_ | refine blk_alloc ?_ _)); refine blk_put (cs := #[.int .i64 17, .string (a0.extract 0 (t169 : Int).toNat), .int .i64 1, .int .i64 x127003_2]) ?_ 3 _ rfl; (with_reducible repeat (first | refine blk_drewN ?_ _ | refine blk_drew ?_ | refine blk_alloc ?_ _)); refine blk_put (cs := #[.int .i64 17, .string (a0.extract 0 (t169 : Int).toNat), .int .i64 x127002_2, .int .i64 x127003_2]) ?_ 2 _ rfl; (with_reducible repeat (first | refine blk_drewN ?_ _ | refine blk_drew ?_ | refine blk_alloc ?_ _)); refine blk_put (cs := #[.int .i64 17, .string x127001_2, .int .i64 x127002_2, .int .i64 x127003_2]) ?_ 1 _ rfl; (with_reducible repeat (first | refine blk_drewN ?_ _ | refine blk_drew ?_ | refine blk_alloc ?_ _)); refine blk_put (cs := #[.int .i64 x127000_2, .string x127001_2, .int .i64 x127002_2, .int .i64 x127003_2]) ?_ 0 _ rfl; (with_reducible repeat (first | refine blk_drewN ?_ _ | refine blk_drew ?_ | refine blk_alloc ?_ _)); exact BK126.out) Tryz.underlying75 rfl (by kernel_rfl) (.tmp (.tmp (.tmp .nil))))) rfl ?_
                          exact ⟨by first | rfl | (simp [errW_none, errW_some] <;> rfl) | (simp [*, errW_none, errW_some] <;> rfl), by repeat (first | (with_reducible first | exact HB.out | apply below_alloc | apply pw_below_drewN | apply below_drew1 | refine below_set ?_ GE126.out | refine below_set ?_ GE127.out) | exact HB.out)⟩
                         ·
                          rw [if_neg c145] at H
                          exact absurd H (by simp)
                        ·
                         rw [if_neg c144] at H
                         exact absurd H (by simp)
                      ·
                       replace c123 := Bool.eq_false_iff.mpr c123
                       subst c123
                       have H1 := H
                       rw [if_neg (show ¬ (false = true) by decide)] at H1
                       clear H
                       have H := H1
                       clear H1
                       simp only [Option.some.injEq, Prod.mk.injEq] at H
                       obtain ⟨rfl, rfl, rfl, rfl, rfl, rfl, rfl⟩ := H
                       go_wp2_with (first | (go_at_call 77; (with_reducible refine (numeraryref11_begins.calls a0 (⟨#[97, 109, 47, 112, 109]⟩ : ByteArray) false _ A81.out).mono ?_); rintro e w153 ⟨rfl, hb⟩; have n0_ := Aside0.mk (blk_below (g := gb126) (o := .cells #[.int .i64 x127000_2, .string x127001_2, .int .i64 x127002_2, .int .i64 x127003_2] 75 (0, 0)) (by (with_reducible repeat (first | refine blk_drewN ?_ _ | refine blk_drew ?_ | refine blk_alloc ?_ _)); exact BK126.out) hb); have n1_ := Aside0.mk (blk_below (g := gb127) (o := .cells #[.int .i64 0, .string (⟨#[]⟩ : ByteArray), .int .i64 0, .int .i64 0] 75 (0, 0)) (by (with_reducible repeat (first | refine blk_drewN ?_ _ | refine blk_drew ?_ | refine blk_alloc ?_ _)); exact BK127.out) hb); have n2_ := Aside0.mk (below_step (by repeat (first | (with_reducible first | exact HB.out | apply below_alloc | apply pw_below_drewN | apply below_drew1 | refine below_set ?_ GE126.out | refine below_set ?_ GE127.out) | exact HB.out)) hb); clear BK126; clear BK127; clear HB; have BK126 := n0_; have BK127 := n1_; have HB := n2_; clear n0_ n1_ n2_; (try clear hb); (try clear hb2); (try clear hk); (try clear hi)) | (go_at_call 77; (with_reducible refine (numeraryref11_begins.calls a0 (⟨#[97, 47, 112]⟩ : ByteArray) false _ A86.out).mono ?_); rintro e w154 ⟨rfl, hb⟩; have n0_ := Aside0.mk (blk_below (g := gb126) (o := .cells #[.int .i64 x127000_2, .string x127001_2, .int .i64 x127002_2, .int .i64 x127003_2] 75 (0, 0)) (by (with_reducible repeat (first | refine blk_drewN ?_ _ | refine blk_drew ?_ | refine blk_alloc ?_ _)); exact BK126.out) hb); have n1_ := Aside0.mk (blk_below (g := gb127) (o := .cells #[.int .i64 0, .string (⟨#[]⟩ : ByteArray), .int .i64 0, .int .i64 0] 75 (0, 0)) (by (with_reducible repeat (first | refine blk_drewN ?_ _ | refine blk_drew ?_ | refine blk_alloc ?_ _)); exact BK127.out) hb); have n2_ := Aside0.mk (below_step (by repeat (first | (with_reducible first | exact HB.out | apply below_alloc | apply pw_below_drewN | apply below_drew1 | refine below_set ?_ GE126.out | refine below_set ?_ GE127.out) | exact HB.out)) hb); clear BK126; clear BK127; clear HB; have BK126 := n0_; have BK127 := n1_; have HB := n2_; clear n0_ n1_ n2_; (try clear hb); (try clear hb2); (try clear hk); (try clear hi)) | (go_at_call 77; (with_reducible refine (numeraryref11_begins.calls a0 (⟨#[103, 101, 110, 101, 114, 97, 108]⟩ : ByteArray) false _ A92.out).mono ?_); rintro e w155 ⟨rfl, hb⟩; have n0_ := Aside0.mk (blk_below (g := gb126) (o := .cells #[.int .i64 x127000_2, .string x127001_2, .int .i64 x127002_2, .int .i64 x127003_2] 75 (0, 0)) (by (with_reducible repeat (first | refine blk_drewN ?_ _ | refine blk_drew ?_ | refine blk_alloc ?_ _)); exact BK126.out) hb); have n1_ := Aside0.mk (blk_below (g := gb127) (o := .cells #[.int .i64 0, .string (⟨#[]⟩ : ByteArray), .int .i64 0, .int .i64 0] 75 (0, 0)) (by (with_reducible repeat (first | refine blk_drewN ?_ _ | refine blk_drew ?_ | refine blk_alloc ?_ _)); exact BK127.out) hb); have n2_ := Aside0.mk (below_step (by repeat (first | (with_reducible first | exact HB.out | apply below_alloc | apply pw_below_drewN | apply below_drew1 | refine below_set ?_ GE126.out | refine below_set ?_ GE127.out) | exact HB.out)) hb); clear BK126; clear BK127; clear HB; have BK126 := n0_; have BK127 := n1_; have HB := n2_; clear n0_ n1_ n2_; (try clear hb); (try clear hb2); (try clear hk); (try clear hi)) | (go_at_call 78; (with_reducible refine (numeraryref11_low.calls a0 t166 _ A99.out).mono ?_); rintro e w156 ⟨rfl, hb⟩; have n0_ := Aside0.mk (blk_below (g := gb126) (o := .cells #[.int .i64 x127000_2, .string x127001_2, .int .i64 x127002_2, .int .i64 x127003_2] 75 (0, 0)) (by (with_reducible repeat (first | refine blk_drewN ?_ _ | refine blk_drew ?_ | refine blk_alloc ?_ _)); exact BK126.out) hb); have n1_ := Aside0.mk (blk_below (g := gb127) (o := .cells #[.int .i64 0, .string (⟨#[]⟩ : ByteArray), .int .i64 0, .int .i64 0] 75 (0, 0)) (by (with_reducible repeat (first | refine blk_drewN ?_ _ | refine blk_drew ?_ | refine blk_alloc ?_ _)); exact BK127.out) hb); have n2_ := Aside0.mk (below_step (by repeat (first | (with_reducible first | exact HB.out | apply below_alloc | apply pw_below_drewN | apply below_drew1 | refine below_set ?_ GE126.out | refine below_set ?_ GE127.out) | exact HB.out)) hb); clear BK126; clear BK127; clear HB; have BK126 := n0_; have BK127 := n1_; have HB := n2_; clear n0_ n1_ n2_; (try clear hb); (try clear hb2); (try clear hk); (try clear hi); have p101 : 0 ≤ (0 : Int) := (by omega); have q101 : 0 < t166.size := (by have : (0 : Int) < (t166.size : Int) := of_decide_eq_true (by first | (with_reducible assumption) | assumption); omega); have hx101 : ∀ h : 0 < t166.size, ((t166[0]'h).toNat : Int) = bt t166 0 := bt_at t166 0; clear p101; have qi101 : (0 < (t166.size : Int)) = True := eq_true (of_decide_eq_true (by first | (with_reducible assumption) | assumption)); replace q101 := eq_true q101) | (go_at_call 79; (with_reducible refine (numeraryref11_has.calls kj63 (⟨#[121, 109, 100, 104, 115]⟩ : ByteArray) (bt t166 0) false _ A102.out).mono ?_); rintro e w' ⟨rfl, ⟨nd, rfl⟩⟩; (try first | exact ⟨rfl, _, World.drewN_drewN _ _ _⟩ | exact ⟨rfl, _, Eq.trans (World.drewN_drewN _ _ _) (congrArg (World.drewN _) (Nat.add_assoc _ _ _))⟩)) | (go_at_call 80; (with_reducible refine (numeraryref01_First.calls kj63 a0 t168 t169 false _ A122.out).mono ?_); rintro e w157 ⟨rfl, hb⟩; have n0_ := Aside0.mk (blk_below (g := gb126) (o := .cells #[.int .i64 x127000_2, .string x127001_2, .int .i64 x127002_2, .int .i64 x127003_2] 75 (0, 0)) (by (with_reducible repeat (first | refine blk_drewN ?_ _ | refine blk_drew ?_ | refine blk_alloc ?_ _)); exact BK126.out) hb); have n1_ := Aside0.mk (blk_below (g := gb127) (o := .cells #[.int .i64 0, .string (⟨#[]⟩ : ByteArray), .int .i64 0, .int .i64 0] 75 (0, 0)) (by (with_reducible repeat (first | refine blk_drewN ?_ _ | refine blk_drew ?_ | refine blk_alloc ?_ _)); exact BK127.out) hb); have n2_ := Aside0.mk (below_step (by repeat (first | (with_reducible first | exact HB.out | apply below_alloc | apply pw_below_drewN | apply below_drew1 | refine below_set ?_ GE126.out | refine below_set ?_ GE127.out) | exact HB.out)) hb); clear BK126; clear BK127; clear HB; have BK126 := n0_; have BK127 := n1_; have HB := n2_; clear n0_ n1_ n2_; (try clear hb); (try clear hb2); (try clear hk); (try clear hi); have hnb158 := NB127_126.out; have hnc158 := NB126_127.out; have hcz159_0 : w157.cell? ⟨gb127, 0, none⟩ = some (.int .i64 0) := (blk_cell BK127.out 0).trans rfl; have hcz159_1 : w157.cell? ⟨gb127, 1, none⟩ = some (.string (⟨#[]⟩ : ByteArray)) := (blk_cell BK127.out 1).trans rfl; have hcz159_2 : w157.cell? ⟨gb127, 2, none⟩ = some (.int .i64 0) := (blk_cell BK127.out 2).trans rfl; have hcz159_3 : w157.cell? ⟨gb127, 3, none⟩ = some (.int .i64 0) := (blk_cell BK127.out 3).trans rfl; have hfz159_0 := blk_frozen BK127.out 0; have hfz159_1 := blk_frozen BK127.out 1; have hfz159_2 := blk_frozen BK127.out 2; have hfz159_3 := blk_frozen BK127.out 3; have hcz160_0 : w157.cell? ⟨gb126, 0, none⟩ = some (.int .i64 x127000_2) := (blk_cell BK126.out 0).trans rfl; have hcz160_1 : w157.cell? ⟨gb126, 1, none⟩ = some (.string x127001_2) := (blk_cell BK126.out 1).trans rfl; have hcz160_2 : w157.cell? ⟨gb126, 2, none⟩ = some (.int .i64 x127002_2) := (blk_cell BK126.out 2).trans rfl; have hcz160_3 : w157.cell? ⟨gb126, 3, none⟩ = some (.int .i64 x127003_2) := (blk_cell BK126.out 3).trans rfl; have hfz160_0 := blk_frozen BK126.out 0; have hfz160_1 := blk_frozen BK126.out 1; have hfz160_2 := blk_frozen BK126.out 2; have hfz160_3 := blk_frozen BK126.out 3))
                       refine bodyPost_ret (results_list (rs := [.cell 2 75, .tmp 3, .tmp 4, .tmp 5]) rfl (by simp) (.cell gb126 75 #[.int .i64 0, .string (⟨#[]⟩ : ByteArray), .int .i64 0, .int .i64 0] (0, 0) _ rfl (by (with_reducible repeat (first | refine blk_drewN ?_ _ | refine blk_drew ?_ | refine blk_alloc ?_ _)); refine blk_put (cs := #[.int .i64 0, .string (⟨#[]⟩ : ByteArray), .int .i64 0, .int .i64 x127003_2]) ?_ 3 _ rfl; (with_reducible repeat (first | refine blk_drewN ?_ _ | refine blk_drew ?_ | refine blk_alloc ?_ _)); refine blk_put (cs := #[.int .i64 0, .string (⟨#[]⟩ : ByteArray), .int .i64 x127002_2, .int .i64 x127003_2]) ?_ 2 _ rfl; (with_reducible repeat (first | refine blk_drewN ?_ _ | refine blk_drew ?_ | refine blk_alloc ?_ _)); refine blk_put (cs := #[.int .i64 0, .string x127001_2, .int .i64 x127002_2, .int .i64 x127003_2]) ?_ 1 _ rfl; (with_reducible repeat (first | refine blk_drewN ?_ _ | refine blk_drew ?_ | refine blk_alloc ?_ _)); refine blk_put (cs := #[.int .i64 x127000_2, .string x127001_2, .int .i64 x127002_2, .int .i64 x127003_2]) ?_ 0 _ rfl; (with_reducible repeat (first | refine blk_drewN ?_ _ | refine blk_drew ?_ | refine blk_alloc ?_ _)); exact BK126.out) Tryz.underlying75 rfl (by kernel_rfl) (.tmp (.tmp (.tmp .nil))))) rfl ?_
                       exact ⟨by first | rfl | (simp [errW_none, errW_some] <;> rfl) | (simp [*, errW_none, errW_some] <;> rfl), by repeat (first | (with_reducible first | exact HB.out | apply below_alloc | apply pw_below_drewN | apply below_drew1 | refine below_set ?_ GE126.out | refine below_set ?_ GE127.out) | exact HB.out)⟩
                    ·
                     rw [if_neg c100] at H
                     exact absurd H (by simp)
  ·
   rw [if_neg c2] at H
   exact absurd H (by simp)

end Go.Proofs.YtiidpicgdjjikaaGreatDoor.P

