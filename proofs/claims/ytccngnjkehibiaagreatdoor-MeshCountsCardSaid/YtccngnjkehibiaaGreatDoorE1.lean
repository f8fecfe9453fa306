/- The walks over field.toward, field.side. -/
import Derived.Test.YtccngnjkehibiaaGreatDoorK3
import Derived.BigRegion
namespace Go.Proofs.YtccngnjkehibiaaGreatDoor
open Go.RowKit Go.Lib

/-- A corner: a place with a height. -/
abbrev Cor := PtQ × Rat
/-- A number at a share between two others. -/
def towQ (a b k : Rat) : Rat := a + k * (b - a)


/-- The side between two corners, or -1. -/
def sideL (c0 c1 c2 a b : PtQ) : Int := if c0 = a ∧ c1 = b then 0 else if c1 = a ∧ c2 = b then 1 else if c2 = a ∧ c0 = b then 2 else -1


end Go.Proofs.YtccngnjkehibiaaGreatDoor
