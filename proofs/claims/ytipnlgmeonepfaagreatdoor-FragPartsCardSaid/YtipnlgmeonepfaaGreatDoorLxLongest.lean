/- The cutter's window, its rules and the longest match. -/
import Derived.Test.YtipnlgmeonepfaaGreatDoorLxSign
import Derived.Test.YtipnlgmeonepfaaGreatDoorMoreWords
import Derived.IntWalk
import Derived.WalkLawsBesides
set_option linter.unusedVariables false
set_option linter.unusedSimpArgs false
namespace Go.Proofs.YtipnlgmeonepfaaGreatDoor.Lx
open Go.RowKit Go.Proofs.YtipnlgmeonepfaaGreatDoorW.PrintWords Go.Proofs.YtipnlgmeonepfaaGreatDoorW.PrintMore
attribute [local go_sem] max2_int min2_int max_two min_two max_three min_three max_four min_four

set_option maxHeartbeats 1600000 in
theorem ahead_walk {b tb:Nat} {text:ByteArray} {at_ lk la ll:Nat} (hs:text.size≤20000) (hl:at_≤text.size) {w:World} (hc:Cut w b tb text at_ lk la ll):
  Calls Tryz.prog 196 #[.pointer (some ⟨b,0,none⟩)] w fun e w'=>e=.returned (.string (text.extract at_ (min text.size (at_+100))))∧Drawn0 w w':=by
 obtain ⟨c0,c1,ct,c3,c4,c5⟩:=hc
 clear ct c3 c4 c5
 have hw:IntKind.i64.wrap ((at_:Int)+100)=(at_:Int)+100:=IntWalk.i64_in _ (by omega)
 have hi0:(0:Int)≤at_:=by omega
 by_cases h:at_+100<text.size
 ·have hmn:min text.size (at_+100)=at_+100:=by omega
  have h1:(at_:Int)+100<text.size:=by omega
  have h2:(at_:Int)+100≤text.size:=by omega
  have h3:(at_:Int)≤(at_:Int)+100:=by omega
  rw [hmn]
  clear hmn
  go_enter Tryz.func196,Tryz.ntmps196
  go_wp2
  go_quiet (fail)
  clear hw
  go_wp2
  go_ret
  exact ⟨by first|rfl|simp,by repeat (first|exact Drawn0.refl _|apply Drawn0.step)⟩
 ·have hmn:min text.size (at_+100)=text.size:=by omega
  have h1: ¬(at_:Int)+100<text.size:=by omega
  have h3:(at_:Int)≤text.size:=by omega
  rw [hmn]
  clear hmn
  go_enter Tryz.func196,Tryz.ntmps196
  go_wp2
  go_quiet (fail)
  clear hw
  go_wp2
  go_ret
  exact ⟨by first|rfl|simp,by repeat (first|exact Drawn0.refl _|apply Drawn0.step)⟩

theorem quiet0 {P:Program} {f:FuncId} {args:Array Value} {w:World} {n:Nat} {v:Value}
  (h:Calls P f args (w.drewN n) fun e w'=>e=.returned v∧Drawn0 (w.drewN n) w'):Calls P f args (w.drewN n) fun e w''=>e=.returned v∧ ∃m,w''=w.drewN m:=
 h.mono fun _ _ ⟨he,⟨m,hm⟩⟩=>⟨he,n+m,by rw [hm,World.drewN_drewN]⟩
set_option maxHeartbeats 1600000 in
theorem starts_at {b tb:Nat} {text p:ByteArray} {at_ lk la ll:Nat} {v:Bool} (hv:Hid (pre p.data.toList (text.data.toList.drop at_)=v)) (hs:text.size≤20000) (hl:at_≤text.size) {w:World} (hc:Cut w b tb text at_ lk la ll):
  Calls Tryz.prog 181 #[.pointer (some ⟨b,0,none⟩),.string p] w fun e w'=>e=.returned (.bool v)∧Drawn0 w w':=by
 obtain ⟨c0,c1,ct,c3,c4,c5⟩:=hc
 clear ct c3 c4 c5
 have hi0:(0:Int)≤at_:=by omega
 have hi1:(at_:Int)≤text.size:=by omega
 have HV:Hid (pre p.data.toList (text.extract at_ text.size).data.toList=v):=Lib.hid (by rw [Lib.extract_to_end];exact hv.out)
 clear hv
 go_enter Tryz.func181,Tryz.ntmps181
 go_wp2
 go_quiet ((go_at_call 193;exact quiet0 (prefix_at HV _)))
 go_wp2
 go_ret
 exact ⟨rfl,by repeat (first|exact Drawn0.refl _|apply Drawn0.step)⟩

/-- What is thrown at a piece with an error. -/
def wrongV (at_:Nat) (e:Int):Value:=.iface 185 (.agg #[.int .i64 at_,.int .i64 e])
set_option maxHeartbeats 1600000 in
theorem fail_walk {b tb:Nat} {text:ByteArray} {at_ lk la ll:Nat} (er:Int) {w:World} (hc:Cut w b tb text at_ lk la ll):
  Calls Tryz.prog 171 #[.pointer (some ⟨b,0,none⟩),.int .i64 er] w fun e w'=>e=.panicked [{v:=wrongV at_ er,recovered:=false}]∧Drawn0 w w':=by
 obtain ⟨c0,c1,ct,c3,c4,c5⟩:=hc
 clear ct c3 c4 c5 c0
 go_enter Tryz.func171,Tryz.ntmps171
 go_wp2
 exact ⟨rfl,rfl,Drawn0.refl _⟩
end Go.Proofs.YtipnlgmeonepfaaGreatDoor.Lx
