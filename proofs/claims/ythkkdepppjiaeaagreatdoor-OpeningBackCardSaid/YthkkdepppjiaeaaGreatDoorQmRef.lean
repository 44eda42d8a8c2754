/- The reference of layer 11: From, Valid. -/
import Derived.Test.YthkkdepppjiaeaaGreatDoorQlVector
namespace Go.Proofs.YthkkdepppjiaeaaGreatDoor
open Go.RowKit Go.Shelf Go.Sort

attribute [local go_sem] Oper.semAt_some

end Go.Proofs.YthkkdepppjiaeaaGreatDoor
