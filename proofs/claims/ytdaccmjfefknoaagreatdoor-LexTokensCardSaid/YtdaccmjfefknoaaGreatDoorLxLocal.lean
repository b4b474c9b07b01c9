/- Pieces that end well ahead of the place from which two texts differ are the same. -/
import Derived.Test.YtdaccmjfefknoaaGreatDoorLxTake
namespace Go.Proofs.YtdaccmjfefknoaaGreatDoor.Lx

end Go.Proofs.YtdaccmjfefknoaaGreatDoor.Lx
