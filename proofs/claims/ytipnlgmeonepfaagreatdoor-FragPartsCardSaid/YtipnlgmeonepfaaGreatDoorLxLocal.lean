/- Pieces that end well ahead of the place from which two texts differ are the same. -/
import Derived.Test.YtipnlgmeonepfaaGreatDoorLxTake
namespace Go.Proofs.YtipnlgmeonepfaaGreatDoor.Lx

end Go.Proofs.YtipnlgmeonepfaaGreatDoor.Lx
