-- PRINTED by print.py (a twelfth state) out of the translation. Not trusted: Lean checks it.
import Derived.Test.YtipnlgmeonepfaaGreatDoorPFax0
import Derived.Test.YtipnlgmeonepfaaGreatDoorFrD
namespace Go.Proofs.YtipnlgmeonepfaaGreatDoor.PFa
open Go.RowKit Go.Proofs.YtipnlgmeonepfaaGreatDoorW.PrintWords Go.Proofs.YtipnlgmeonepfaaGreatDoorW.PrintLast Go.Proofs.YtipnlgmeonepfaaGreatDoorW.PrintMore
attribute [local go_sem] max2_int min2_int max_two min_two max_three min_three max_four min_four   -- for this text's walks alone
set_option linter.unusedVariables false
set_option linter.unusedSimpArgs false

/-! ### fragment_Read: function 15 -/

def fragment_Read.f (l0:List S39) (l1:List ByteArray):Option (List S49×Int×Int):=some (readOut l0 l1)
theorem fragment_Read.calls (A0:Option Addr) (c0:Nat) (l0:List S39) (A1:Option Addr) (c1:Nat) (l1:List ByteArray) (r1:List S49) (r2 r3:Int) (w:World) (hr0:Kd.C k39 w A0 l0.length l0) (hc0:l0.length≤c0) (hr1:Kd.C Kd.string w A1 l1.length l1) (hc1:l1.length≤c1) (h:fragment_Read.f l0 l1=some (r1,r2,r3)) (hE:Lx.Env w):
  Calls Tryz.prog 15 #[.slice A0 l0.length c0,.slice A1 l1.length c1] w fun e w'=> ∃v0_:Value,e=.returned (.tuple #[v0_,.int .i64 r2,.int .i64 r3])∧Kd.R k49 49 w' w.heap.size (fun _=>True) v0_ r1∧Below w.heap.size w w':=by
 have h2:=Option.some.inj h
 have:=read_walk hr0 hc0 hr1 hc1 hE
 rw [h2] at this
 exact this


/-! ### fragment_Size: function 24 -/

def fragment_Size.f (l0:List S49):Option Int:=some ((min (toksOf 100 l0).length 6001:Nat):Int)
/-! ### skerrylaw02_sane: function 14 -/

def skerrylaw02_sane.f:Option Bool:=some true
theorem skerrylaw02_sane.calls (r:Bool) (w:World) (h:skerrylaw02_sane.f=some r) (hE:Lx.Env w):
  Calls Tryz.prog 14 #[] w fun e w'=>e=.returned (.bool r)∧Below w.heap.size w w':=by
 obtain rfl:=Option.some.inj h
 exact sane_c hE


end Go.Proofs.YtipnlgmeonepfaaGreatDoor.PFa
