-- PRINTED by print.py (a twelfth state) out of the translation. Not trusted: Lean checks it.
import Derived.Test.YtipnlgmeonepfaaGreatDoorPFax0
import Derived.Test.YtipnlgmeonepfaaGreatDoorFrE
namespace Go.Proofs.YtipnlgmeonepfaaGreatDoor.PFa
open Go.RowKit Go.Proofs.YtipnlgmeonepfaaGreatDoorW.PrintWords Go.Proofs.YtipnlgmeonepfaaGreatDoorW.PrintLast Go.Proofs.YtipnlgmeonepfaaGreatDoorW.PrintMore
attribute [local go_sem] max2_int min2_int max_two min_two max_three min_three max_four min_four   -- for this text's walks alone
set_option linter.unusedVariables false
set_option linter.unusedSimpArgs false

/-! ### fragment_Check: function 22 -/

def fragment_Check.f (l0:List S49) (l1:List ByteArray):Option Int:=some (checkOut l0 l1)
theorem fragment_Check.calls (A0:Option Addr) (c0:Nat) (l0:List S49) (A1:Option Addr) (c1:Nat) (l1:List ByteArray) (r:Int) (w:World) (hr0:Kd.C k49 w A0 l0.length l0) (hc0:l0.length≤c0) (hr1:Kd.C Kd.string w A1 l1.length l1) (hc1:l1.length≤c1) (h:fragment_Check.f l0 l1=some r) (hE:Lx.Env w):
  Calls Tryz.prog 22 #[.slice A0 l0.length c0,.slice A1 l1.length c1] w fun e w'=>e=.returned (.int .i64 r)∧Below w.heap.size w w':=by
 obtain rfl:=Option.some.inj h
 exact checkF_c hr0 hc0 hr1 hc1 hE


end Go.Proofs.YtipnlgmeonepfaaGreatDoor.PFa
