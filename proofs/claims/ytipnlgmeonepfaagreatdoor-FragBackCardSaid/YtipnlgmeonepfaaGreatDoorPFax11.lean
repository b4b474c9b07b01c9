-- PRINTED by print.py (a twelfth state) out of the translation. Not trusted: Lean checks it.
import Derived.Test.YtipnlgmeonepfaaGreatDoorPFax0
import Derived.Test.YtipnlgmeonepfaaGreatDoorFrE
namespace Go.Proofs.YtipnlgmeonepfaaGreatDoor.PFa
open Go.RowKit Go.Proofs.YtipnlgmeonepfaaGreatDoorW.PrintWords Go.Proofs.YtipnlgmeonepfaaGreatDoorW.PrintLast Go.Proofs.YtipnlgmeonepfaaGreatDoorW.PrintMore
attribute [local go_sem] max2_int min2_int max_two min_two max_three min_three max_four min_four   -- for this text's walks alone
set_option linter.unusedVariables false
set_option linter.unusedSimpArgs false

/-! ### fragment_Flat: function 21 -/

def fragment_Flat.f (l0:List S49):Option (List S39):=some (flatOut l0)
theorem fragment_Flat.calls (A0:Option Addr) (c0:Nat) (l0:List S49) (r:List S39) (w:World) (hr0:Kd.C k49 w A0 l0.length l0) (hc0:l0.length≤c0) (h:fragment_Flat.f l0=some r):
  Calls Tryz.prog 21 #[.slice A0 l0.length c0] w fun e w'=> ∃v0_:Value,e=.returned (v0_)∧Kd.R k39 39 w' w.heap.size (fun _=>True) v0_ r∧Below w.heap.size w w':=by
 obtain rfl:=Option.some.inj h
 exact flat_c hr0


end Go.Proofs.YtipnlgmeonepfaaGreatDoor.PFa
