/- A PART OF THE PROOF, JOINED OUT OF 3 TEXTS. -/
import Derived.Test.YthkkdepppjiaeaaGreatDoorQxMirrors
/- Walks of the program's package attitude: Back. -/
namespace Go.Proofs.YthkkdepppjiaeaaGreatDoor
open Go.RowKit Go.Shelf Go.Sort

attribute [local go_sem] Oper.semAt_some

end Go.Proofs.YthkkdepppjiaeaaGreatDoor

/- The law AttitudeReturns. -/
namespace Go.Proofs.YthkkdepppjiaeaaGreatDoor
open Go.RowKit Go.Shelf Go.Sort

attribute [local go_sem] Oper.semAt_some vec_guard vec_eq

end Go.Proofs.YthkkdepppjiaeaaGreatDoor

/- The law AttitudeReturns answers true at whatever strings. -/
namespace Go.Proofs.YthkkdepppjiaeaaGreatDoor
open Go.RowKit Go.Shelf Go.Sort

end Go.Proofs.YthkkdepppjiaeaaGreatDoor
