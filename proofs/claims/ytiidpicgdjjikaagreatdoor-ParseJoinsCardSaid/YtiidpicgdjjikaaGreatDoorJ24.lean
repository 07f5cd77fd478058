import Derived.Lib.AtoiErrMem
import Derived.Test.YtiidpicgdjjikaaGreatDoorJ4
import Derived.Test.YtiidpicgdjjikaaGreatDoorJ6
namespace Go.Proofs.YtiidpicgdjjikaaGreatDoor.G
open Go.RowKit Go.Lib Go.Shelf Go.Proofs Go.Proofs.YtiidpicgdjjikaaGreatDoor.P Go.Proofs.YtiidpicgdjjikaaGreatDoorW.PrintWords Go.Proofs.YtiidpicgdjjikaaGreatDoorW.PrintLast Go.Proofs.YtiidpicgdjjikaaGreatDoorW.PrintMore
set_option linter.unusedVariables false
def strconv_ParseUint.f (a0 : ByteArray) (a1 a2 : Int) : Option (Int × Option Int) := if a1 = 10 then (if a2 = 64 then (if a0.size ≤ 1000 then (match Lib.parseUintB 64 a0.data.toList with | .ok u => some ((u : Int), none) | _ => none) else none) else none) else none
theorem strconv_ParseUint.calls (a0 : ByteArray) (a1 a2 : Int) (r1 : Int) (r2 : Option Int) (w : World) (h : strconv_ParseUint.f a0 a1 a2 = some (r1, r2)) (HLW_ : LW w) :
    Calls Tryz.prog 138 #[.string a0, .int .i64 a1, .int .i64 a2] w fun e w' => e = .returned (.tuple #[.int .u64 r1, errW r2]) ∧ Below w.heap.size w w' := by
  unfold strconv_ParseUint.f at h
  split at h
  · rename_i h1
    split at h
    · rename_i h2
      split at h
      · rename_i h3
        split at h
        · rename_i u hu
          simp only [Option.some.injEq, Prod.mk.injEq] at h
          obtain ⟨rfl, rfl⟩ := h
          subst h1 h2
          refine (Tryz.strconv_ParseUint_10_at64_ok a0 (by omega) u hu w).mono ?_
          rintro e w' ⟨h4, h5⟩
          refine ⟨h4, ?_⟩
          rcases h5 with rfl | rfl
          · exact Below.refl _ _
          · exact Lib.bytesWorld_below _ _ _
        · cases h
      · cases h
    · cases h
  · cases h
end Go.Proofs.YtiidpicgdjjikaaGreatDoor.G
