/- A PART OF THE PROOF, JOINED OUT OF 2 TEXTS. -/
import Derived.Test.YthkkdepppjiaeaaGreatDoorRaFrameOf
import Derived.Test.YthkkdepppjiaeaaGreatDoorPmVector
/- The reference of layer 16: Check, Of, Water, Turn, Back, Mirror. -/
namespace Go.Proofs.YthkkdepppjiaeaaGreatDoor
open Go.RowKit Go.Shelf Go.Sort

attribute [local go_sem] Oper.semAt_some
attribute [local go_sem ↓ high] storeAt_fr loadAt_fr
attribute [local go_sem high] run_storeAt_fr run_storeAt_frN


end Go.Proofs.YthkkdepppjiaeaaGreatDoor

/- The reference of layer 16: Turn, Back. -/
namespace Go.Proofs.YthkkdepppjiaeaaGreatDoor
open Go.RowKit Go.Shelf Go.Sort

attribute [local go_sem] Oper.semAt_some
attribute [local go_sem ↓ high] storeAt_fr loadAt_fr
attribute [local go_sem high] run_storeAt_fr run_storeAt_frN


end Go.Proofs.YthkkdepppjiaeaaGreatDoor
