/- The deferred closure of Pieces: it takes up what was thrown. -/
import Derived.Test.YtipnlgmeonepfaaGreatDoorLxIter
import Derived.Recover
import Derived.RecoverIn
import Derived.RegionIn
set_option linter.unusedVariables false
set_option linter.unusedSimpArgs false
namespace Go.Proofs.YtipnlgmeonepfaaGreatDoor.Lx
open Go.RowKit Go.Proofs.YtipnlgmeonepfaaGreatDoorW.PrintWords
attribute [local go_sem] Oper.semAt_some

set_option maxHeartbeats 3200000 in
theorem catch_idle (n:Nat) (p q r:Addr) (w:World):
  CallsDIn Fence.wide n Tryz.prog 158 #[.pointer (some p),.pointer (some q),.pointer (some r)] .returning w fun e u' w'=>e=.returned (.tuple #[])∧u'=.returning∧w'=w:=by
 refine callsDIn_of_wpSIn Tryz.func158 rfl trivial fun c₀ cs hu=> ?_
 apply wpSIn_seq
 apply wpSIn_region
 simp [wpOpsSIn,go_sem,recoverD,hu,Tryz.ntmps158,Exit.thenS]
 refine wpSIn_of_wpIn rfl ?_
 gi_wp2_with fail
 exact ⟨rfl,.returning,by cases c₀;simp_all,.tuple #[],results_none rfl _ _ _,rfl,rfl,rfl⟩

theorem assert_wrong (a:Value) (t:TypeId) (w:World):(Instr.typeAssert (.iface 185 a) t 185 true).run Tryz.prog w=.ok (.tuple #[a,.bool true]) w:=by
 simp [Instr.typeAssert,run_underlying Tryz.underlying185,go_sem]

set_option maxHeartbeats 3200000 in
set_option maxRecDepth 100000 in
theorem catch_wrong (n:Nat) (p q r:Nat) (at_:Nat) (er:Int) (w:World) {v0 v1 v2:Value} (h0:w.cell? ⟨p,0,none⟩=some v0) (h1:w.cell? ⟨q,0,none⟩=some v1) (h2:w.cell? ⟨r,0,none⟩=some v2)
  (f0:w.frozen? ⟨p,0,none⟩=false) (f1:w.frozen? ⟨q,0,none⟩=false) (f2:w.frozen? ⟨r,0,none⟩=false) (hp:p<w.heap.size) (hq:q<w.heap.size) (hr:r<w.heap.size) (hpq:p≠q) (hpr:p≠r) (hqr:q≠r):
  CallsDIn Fence.wide n Tryz.prog 158 #[.pointer (some ⟨p,0,none⟩),.pointer (some ⟨q,0,none⟩),.pointer (some ⟨r,0,none⟩)] (.panicking [{v:=wrongV at_ er,recovered:=false}]) w
   fun e u' w'=>e=.returned (.tuple #[])∧u'=.panicking [{v:=wrongV at_ er,recovered:=true}]∧
    w'.cell? ⟨p,0,none⟩=some (.slice none 0 0)∧w'.cell? ⟨q,0,none⟩=some (.int .i64 at_)∧w'.cell? ⟨r,0,none⟩=some (.int .i64 er)∧Kp (fun k=>k=p∨k=q∨k=r) w w':=by
 unfold wrongV
 refine callsDIn_of_wpSIn Tryz.func158 rfl trivial fun c₀ cs hu=> ?_
 apply wpSIn_seq
 apply wpSIn_region
 simp [wpOpsSIn,go_sem,recoverD,hu,Tryz.ntmps158,Exit.thenS]
 refine wpSIn_of_wpIn rfl ?_
 simp only [List.size_toArray,List.length_cons,List.length_nil,Nat.reduceAdd,Nat.reduceSub,Array.replicate_succ,Array.replicate_zero,List.push_toArray,List.append_toArray,List.nil_append,List.cons_append,List.setIfInBounds_toArray,List.set_cons_zero,List.set_cons_succ]
 have hta:=fun a=>assert_wrong a 20 w
 have hu67:=Tryz.underlying185
 gi_wp2_with fail
 gi_region
 gi_wp2_with fail
 refine ⟨rfl,.panicking [{v:=.iface 185 (.agg #[.int .i64 at_,.int .i64 er]),recovered:=true}],by cases c₀;simp_all,.tuple #[],results_none rfl _ _ _,rfl,rfl, ?_, ?_, ?_, ?_⟩
 ·show World.cell? (((((w.setCell _ _).setCell _ _).setCell _ _).alloc _)) _=_
  rw [World.cell?_alloc_past _ _ _ (by simpa using hp),World.cell?_setCell_far _ _ _ _ (Ne.symm hpr),World.cell?_setCell_far _ _ _ _ (Ne.symm hpq)]
  exact World.cell?_setCell_same' _ _ _ (by rw [h0];rfl)
 ·show World.cell? (((((w.setCell _ _).setCell _ _).setCell _ _).alloc _)) _=_
  rw [World.cell?_alloc_past _ _ _ (by simpa using hq),World.cell?_setCell_far _ _ _ _ (Ne.symm hqr)]
  exact World.cell?_setCell_same' _ _ _ (by rw [World.cell?_setCell_far _ _ _ _ hpq,h1];rfl)
 ·show World.cell? (((((w.setCell _ _).setCell _ _).setCell _ _).alloc _)) _=_
  rw [World.cell?_alloc_past _ _ _ (by simpa using hr)]
  exact World.cell?_setCell_same' _ _ _ (by rw [World.cell?_setCell_far _ _ _ _ hqr,World.cell?_setCell_far _ _ _ _ hpr,h2];rfl)
 ·exact Kp.drew (Kp.alloc (Kp.setCell (Kp.setCell (Kp.setCell (S:=fun k=>k=p∨k=q∨k=r) (Kp.refl _ _) (.inl (.inl rfl)) _) (.inl (.inr (.inl rfl))) _) (.inl (.inr (.inr rfl))) _) _)
end Go.Proofs.YtipnlgmeonepfaaGreatDoor.Lx
