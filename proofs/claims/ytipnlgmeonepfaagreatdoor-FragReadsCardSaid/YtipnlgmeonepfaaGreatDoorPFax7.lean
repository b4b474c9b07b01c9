-- PRINTED by print.py (a twelfth state) out of the translation. Not trusted: Lean checks it.
import Derived.Test.YtipnlgmeonepfaaGreatDoorPFax0
import Derived.Test.YtipnlgmeonepfaaGreatDoorFrAlike
namespace Go.Proofs.YtipnlgmeonepfaaGreatDoor.PFa
open Go.RowKit Go.Proofs.YtipnlgmeonepfaaGreatDoorW.PrintWords Go.Proofs.YtipnlgmeonepfaaGreatDoorW.PrintLast Go.Proofs.YtipnlgmeonepfaaGreatDoorW.PrintMore
attribute [local go_sem] max2_int min2_int max_two min_two max_three min_three max_four min_four   -- for this text's walks alone
set_option linter.unusedVariables false
set_option linter.unusedSimpArgs false

/-! ### skerryref02_Alike: function 20 -/

def skerryref02_Alike.f (l0 l1:List S49) (a2:Bool):Option Bool:=some (alL a2 l0 l1)
theorem skerryref02_Alike.calls (A0:Option Addr) (c0:Nat) (l0:List S49) (A1:Option Addr) (c1:Nat) (l1:List S49) (a2 r:Bool) (w:World) (hr0:Kd.C k49 w A0 l0.length l0) (hc0:l0.length≤c0) (hr1:Kd.C k49 w A1 l1.length l1) (hc1:l1.length≤c1) (h:skerryref02_Alike.f l0 l1 a2=some r):
  Calls Tryz.prog 20 #[.slice A0 l0.length c0,.slice A1 l1.length c1,.bool a2] w fun e w'=>e=.returned (.bool r)∧Below w.heap.size w w':=by
 obtain rfl:=Option.some.inj h
 exact alike_c a2 (nodesL l0) l0 l1 A0 A1 c0 c1 w (Nat.le_refl _) hr0 hr1


end Go.Proofs.YtipnlgmeonepfaaGreatDoor.PFa
