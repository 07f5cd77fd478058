import Derived.Deep.LoopGhost
import Derived.WalkKit
import Derived.IntWalk
import Derived.Laws.BytesArg
import Derived.Lib.AtoiErrMem
import Derived.Test.YtiidpicgdjjikaaGreatDoorJ4
namespace Go.Proofs.YtiidpicgdjjikaaGreatDoor.G
open Go.RowKit Go.Lib Go.Proofs Go.Proofs.YtiidpicgdjjikaaGreatDoorW.PrintWords Go.Proofs.YtiidpicgdjjikaaGreatDoorW.PrintLast Go.Proofs.YtiidpicgdjjikaaGreatDoorW.PrintMore
set_option linter.unusedVariables false
set_option linter.unusedSimpArgs false

def lowI (c : Int) : Int := if 65 ≤ c ∧ c ≤ 90 then c + 32 else c
end Go.Proofs.YtiidpicgdjjikaaGreatDoor.G
