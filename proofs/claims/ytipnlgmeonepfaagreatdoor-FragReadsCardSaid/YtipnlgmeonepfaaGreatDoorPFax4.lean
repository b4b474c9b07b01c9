-- PRINTED by print.py (a twelfth state) out of the translation. Not trusted: Lean checks it.
import Derived.Test.YtipnlgmeonepfaaGreatDoorPFax0
namespace Go.Proofs.YtipnlgmeonepfaaGreatDoor.PFa
open Go.RowKit Go.Proofs.YtipnlgmeonepfaaGreatDoorW.PrintWords Go.Proofs.YtipnlgmeonepfaaGreatDoorW.PrintLast Go.Proofs.YtipnlgmeonepfaaGreatDoorW.PrintMore
attribute [local go_sem] max2_int min2_int max_two min_two max_three min_three max_four min_four   -- for this text's walks alone
set_option linter.unusedVariables false
set_option linter.unusedSimpArgs false

/-! ### skerryref02_Words: function 19 -/
def skerryref02_Words.f  :Option (List ByteArray):=some (([(⟨#[98,101,103,105,110]⟩:ByteArray),(⟨#[105,102]⟩:ByteArray),(⟨#[98,108,111,99,107]⟩:ByteArray),(⟨#[109,101,116,104,111,100]⟩:ByteArray),(⟨#[99,108,97,115,115]⟩:ByteArray),(⟨#[109,97,99,114,111]⟩:ByteArray)]:List ByteArray))
set_option maxHeartbeats 8000000 in
set_option maxRecDepth 100000 in
theorem skerryref02_Words.calls  (r:List ByteArray) (w:World) (h:skerryref02_Words.f  =some r):
  Calls Tryz.prog 19 #[] w fun e w'=> ∃v0_:Value,e=.returned (v0_)∧Kd.R Kd.string 9 w' w.heap.size (fun _=>True) v0_ r∧Below w.heap.size w w':=by
 have HB:=Aside0.mk (Below.refl w.heap.size w)
 have H:(some (([(⟨#[98,101,103,105,110]⟩:ByteArray),(⟨#[105,102]⟩:ByteArray),(⟨#[98,108,111,99,107]⟩:ByteArray),(⟨#[109,101,116,104,111,100]⟩:ByteArray),(⟨#[99,108,97,115,115]⟩:ByteArray),(⟨#[109,97,99,114,111]⟩:ByteArray)]:List ByteArray)))=some r:=h
 clear h
 obtain ⟨y107,hy107⟩: ∃y_:List ByteArray,y_=(([(⟨#[98,101,103,105,110]⟩:ByteArray),(⟨#[105,102]⟩:ByteArray),(⟨#[98,108,111,99,107]⟩:ByteArray),(⟨#[109,101,116,104,111,100]⟩:ByteArray),(⟨#[99,108,97,115,115]⟩:ByteArray),(⟨#[109,97,99,114,111]⟩:ByteArray)]:List ByteArray)):=⟨_,rfl⟩
 replace H:(some y107)=some r:=by first|(rw [hy107];with_reducible exact H)|(have H2_:=(Option.bind_some _ _).symm.trans H;rw [hy107];with_reducible exact H2_)|(have H2_:=(Option.bind_some _ _).symm.trans H;with_reducible exact H2_)|with_reducible exact H|(rw [hy107];exact H)|exact H
 have Ny107:=Aside0.mk hy107
 clear hy107
 obtain rfl:=Option.some.inj H
 go_enter Tryz.func19,Tryz.ntmps19
 go_wp2_with (first|((with_reducible refine gate_dst (N:=1) rfl ?_);refine Kd.R_lit Kd.string _ 9 ?hg (N:=1) ?hd (xs:=([(⟨#[98,101,103,105,110]⟩:ByteArray),(⟨#[105,102]⟩:ByteArray),(⟨#[98,108,111,99,107]⟩:ByteArray),(⟨#[109,101,116,104,111,100]⟩:ByteArray),(⟨#[99,108,97,115,115]⟩:ByteArray),(⟨#[109,97,99,114,111]⟩:ByteArray)]:List ByteArray)) (inner:=[.string (⟨#[98,101,103,105,110]⟩:ByteArray),.string (⟨#[105,102]⟩:ByteArray),.string (⟨#[98,108,111,99,107]⟩:ByteArray),.string (⟨#[109,101,116,104,111,100]⟩:ByteArray),.string (⟨#[99,108,97,115,115]⟩:ByteArray),.string (⟨#[109,97,99,114,111]⟩:ByteArray)]) (ok:=fun _=>True) (okp:=fun _=>True) ?hr ?hp (fun _ hk=>hk) trivial (Below.refl _ _) (Nat.le_refl _) (by simp) ?_;(case hd=>rfl);(case hg=>rfl);(case hr=>first|(go_simp;done)|(go_simp;rfl));(case hp=>exact (Reps.one (show Kd.M Kd.string _ _ _ (⟨#[98,101,103,105,110]⟩:ByteArray) [.string (⟨#[98,101,103,105,110]⟩:ByteArray)] from rfl) (Reps.one (show Kd.M Kd.string _ _ _ (⟨#[105,102]⟩:ByteArray) [.string (⟨#[105,102]⟩:ByteArray)] from rfl) (Reps.one (show Kd.M Kd.string _ _ _ (⟨#[98,108,111,99,107]⟩:ByteArray) [.string (⟨#[98,108,111,99,107]⟩:ByteArray)] from rfl) (Reps.one (show Kd.M Kd.string _ _ _ (⟨#[109,101,116,104,111,100]⟩:ByteArray) [.string (⟨#[109,101,116,104,111,100]⟩:ByteArray)] from rfl) (Reps.one (show Kd.M Kd.string _ _ _ (⟨#[99,108,97,115,115]⟩:ByteArray) [.string (⟨#[99,108,97,115,115]⟩:ByteArray)] from rfl) (Reps.one (show Kd.M Kd.string _ _ _ (⟨#[109,97,99,114,111]⟩:ByteArray) [.string (⟨#[109,97,99,114,111]⟩:ByteArray)] from rfl) (Reps.none _ _))))))));intro v108 w1 ho2 hb hg_ hnew_;clear hg_ hnew_;(first|rw [←Ny107.out] at ho2|(simp only [Int.reduceToNat] at ho2;rw [←Ny107.out] at ho2));have n0_:=Aside0.mk (Kd.R_lower ho2 (below_size (by repeat (first|(with_reducible first|exact HB.out|apply below_alloc|apply pw_below_drewN|apply below_drew1)|exact HB.out))));have n1_:=Aside0.mk (below_step (by repeat (first|(with_reducible first|exact HB.out|apply below_alloc|apply pw_below_drewN|apply below_drew1)|exact HB.out)) hb);clear HB;have HO109:=n0_;have HB:=n1_;clear n0_ n1_;clear hb ho2))
 go_ret
 exact ⟨_,by first|rfl|(simp [errW_none,errW_some]<;>rfl)|(simp [*,errW_none,errW_some]<;>rfl),by (with_reducible repeat (first|apply Kd.R_alloc|apply Kd.R_drewN|apply Kd.R_drew));exact HO109.out,by repeat (first|(with_reducible first|exact HB.out|apply below_alloc|apply pw_below_drewN|apply below_drew1)|exact HB.out)⟩

end Go.Proofs.YtipnlgmeonepfaaGreatDoor.PFa
