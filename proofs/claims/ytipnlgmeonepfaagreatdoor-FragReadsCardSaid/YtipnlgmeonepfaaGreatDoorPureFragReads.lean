/- FragReads in plain Lean. -/
import Derived.Test.YtipnlgmeonepfaaGreatDoorPFax8
set_option linter.unusedVariables false
set_option linter.unusedSimpArgs false
namespace Go.Proofs.YtipnlgmeonepfaaGreatDoor.PFa
open Go.RowKit Go.Proofs.YtipnlgmeonepfaaGreatDoorW.PrintWords Go.Proofs.YtipnlgmeonepfaaGreatDoorW.PrintLast
theorem same_self: ∀(a:List Fg),alL false a a=true
 |[]=>by rw [alL];rfl
 |⟨t,o,ks⟩::r=>by
  unfold alL
  dsimp only
  rw [alF_eq,same_self ks,same_self r]
  unfold tokAl
  simp only [beq_self_eq_true,Bool.and_true,Bool.or_true]
theorem words_same:skerryref01_SameStrings.f 40 ownWords ownWords=some true:=by decide+kernel
end Go.Proofs.YtipnlgmeonepfaaGreatDoor.PFa
namespace Go.Proofs.YtipnlgmeonepfaaGreatDoor.Pure
open Go.RowKit Go.Proofs.YtipnlgmeonepfaaGreatDoor.PFa Go.Proofs.YtipnlgmeonepfaaGreatDoorW.PrintWords Go.Proofs.YtipnlgmeonepfaaGreatDoorW.PrintLast
theorem FragReads (l:List Tk) (ws:List ByteArray) (hs: ∀t∈l,t.f2.size≤140737488351232): ∃k,skerrylaw02_FragReads.f k l ws=some true:=by
 refine ⟨40, ?_⟩
 unfold skerrylaw02_FragReads.f
 have f1:fragment_Read.f l ws=some (readOut l ws):=rfl
 have f2:skerryref02_Read.f l ws=some (readOut l ws):=by
  unfold skerryref02_Read.f
  rw [if_pos]
  rw [List.all_eq_true]
  exact fun t ht=>decide_eq_true (hs t ht)
 have f3:skerryref02_Words.f=some ownWords:=rfl
 rw [show skerrylaw02_sane.f=some true from rfl,f1,f2,show fragment_Words.f=some ownWords from rfl,f3]
 simp only [Option.bind_some]
 rw [words_same,show skerryref02_Alike.f (readOut l ws).1 (readOut l ws).1 false=some true from congrArg some (same_self _)]
 simp only [Option.bind_some,if_true]
end Go.Proofs.YtipnlgmeonepfaaGreatDoor.Pure
