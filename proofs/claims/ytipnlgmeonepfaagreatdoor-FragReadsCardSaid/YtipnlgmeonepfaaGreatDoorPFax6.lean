-- PRINTED by print.py (a twelfth state) out of the translation. Not trusted: Lean checks it.
import Derived.Test.YtipnlgmeonepfaaGreatDoorPFax0
import Derived.Test.YtipnlgmeonepfaaGreatDoorFrG
namespace Go.Proofs.YtipnlgmeonepfaaGreatDoor.PFa
open Go.RowKit Go.Proofs.YtipnlgmeonepfaaGreatDoorW.PrintWords Go.Proofs.YtipnlgmeonepfaaGreatDoorW.PrintLast Go.Proofs.YtipnlgmeonepfaaGreatDoorW.PrintMore
attribute [local go_sem] max2_int min2_int max_two min_two max_three min_three max_four min_four   -- for this text's walks alone
set_option linter.unusedVariables false
set_option linter.unusedSimpArgs false

/-! ### skerryref02_Read: function 16 -/

def skerryref02_Read.f (l0:List S39) (l1:List ByteArray):Option (List S49×Int×Int):=if l0.all (fun t=>decide (t.f2.size≤140737488351232))=true then some (readOut l0 l1) else none
theorem skerryref02_Read.calls (A0:Option Addr) (c0:Nat) (l0:List S39) (A1:Option Addr) (c1:Nat) (l1:List ByteArray) (r1:List S49) (r2 r3:Int) (w:World) (hr0:Kd.C k39 w A0 l0.length l0) (hc0:l0.length≤c0) (hr1:Kd.C Kd.string w A1 l1.length l1) (hc1:l1.length≤c1) (h:skerryref02_Read.f l0 l1=some (r1,r2,r3)):
  Calls Tryz.prog 16 #[.slice A0 l0.length c0,.slice A1 l1.length c1] w fun e w'=> ∃v0_:Value,e=.returned (.agg #[v0_,.int .i64 r2,.int .i64 r3])∧Kd.R k49 49 w' w.heap.size (fun _=>True) v0_ r1∧Below w.heap.size w w':=by
 unfold skerryref02_Read.f at h
 split at h
 ·rename_i hs
  have h2:=Option.some.inj h
  have:=rread_walk hr0 hc0 hr1 hc1 (fun t ht=>of_decide_eq_true (List.all_eq_true.1 hs t ht))
  rw [h2] at this
  exact this
 ·cases h


end Go.Proofs.YtipnlgmeonepfaaGreatDoor.PFa
