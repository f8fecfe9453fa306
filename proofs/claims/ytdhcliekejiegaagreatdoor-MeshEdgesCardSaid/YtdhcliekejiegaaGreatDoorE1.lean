/- The walks over field.toward, field.side. -/
import Derived.Test.YtdhcliekejiegaaGreatDoorK3
import Derived.BigRegion
namespace Go.Proofs.YtdhcliekejiegaaGreatDoor
open Go.RowKit Go.Lib

/-- A corner: a place with a height. -/
abbrev Cor := PtQ × Rat
end Go.Proofs.YtdhcliekejiegaaGreatDoor
