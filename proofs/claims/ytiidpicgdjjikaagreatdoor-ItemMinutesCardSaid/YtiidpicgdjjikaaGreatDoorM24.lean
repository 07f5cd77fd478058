/- Texts of this seat, one behind the other (merged by a program of this session's own). -/
import Derived.Below
import Derived.Deep.Draws
import Derived.Deep.AppendLies
import Derived.Maps.AppendAt
import Derived.OwnWalk
import Derived.Laws.BytesArg
import Derived.Laws.MakeOwn
import Derived.Laws.OwnMore
import Derived.Deep.OwnRows
import Derived.Tactics
import Derived.Lib.ConvBytes
import Derived.Laws.Slices
import Derived.WalkKit
import Derived.KernelRfl
import Derived.RowKit3
import Derived.Deep.LoopGhost
import Derived.Deep.QuietTactic
import Derived.BigQuiet
import Derived.WideLaws
import Derived.Deep.DeepCutAuto
import Derived.Deep.CutBlock
import Derived.Deep.RegionHeld3
import Derived.Laws.Rows
import Derived.Lib.AppendStr
import Derived.ArgAppend
import Derived.Laws.IdiomCopy
import Derived.RowKit
import Derived.OrdersHeld
import Derived.Laws.BitsLemmas
import Derived.IntWalk
import Derived.Maps.OwnSet
import Derived.Lib.LazyBuf
import Derived.Laws.StructEq
import Derived.Deep.RegionLaw
import Derived.StillTailTactics
import Derived.Deep.RegionWith
import Derived.Test.YtiidpicgdjjikaaGreatDoorM4
import Derived.Test.YtiidpicgdjjikaaGreatDoorM20

-- GIt3
namespace Go.Proofs.YtiidpicgdjjikaaGreatDoor.G
open Go.RowKit Go.Lib Go.Maps Go.ChangeMaps Go.MapKept Go.Proofs Go.Proofs.YtiidpicgdjjikaaGreatDoor.P Go.Proofs.YtiidpicgdjjikaaGreatDoorW.PrintWords Go.Proofs.YtiidpicgdjjikaaGreatDoorW.PrintLast Go.Proofs.YtiidpicgdjjikaaGreatDoorW.PrintMore
set_option linter.unusedVariables false
set_option linter.unusedSimpArgs false
/-- Of this function nothing is told here. -/
def signF (k : Nat) (b : BSt) (x : S53) : Option (Int × BSt) := none
set_option maxRecDepth 100000 in
theorem sign_calls (k : Nat) {n0 : Nat} {w0 w : World} {p m : Nat} {vi vl : Value} {b b' : BSt} {r : Int} (x : S53) (hI : BInv n0 w p m vi vl b) (hB : Below n0 w0 w) (hn : n0 ≤ w.heap.size) (h : signF k b x = some (r, b')) :
    Calls Tryz.prog 56 #[.pointer (some ⟨p, 0, none⟩), .agg #[.int .i64 x.f0, .string x.f1, .int .i64 x.f2, .int .i64 x.f3]] w fun e w' => e = .returned (.int .i64 r) ∧ Below n0 w0 w' ∧ ∃ vi', BInv n0 w' p m vi' vl b' := by
  exact absurd h (by simp [signF])
end Go.Proofs.YtiidpicgdjjikaaGreatDoor.G

