/- The cutter's table: newTable lays one that holds the classes. (Printed by gen_table.py.) -/
import Derived.Test.YtipnlgmeonepfaaGreatDoorLxAll
import Derived.Test.YtipnlgmeonepfaaGreatDoorLxBounds
import Derived.Test.YtipnlgmeonepfaaGreatDoorLxSign
import Derived.Deep.LoopGhost
import Derived.BigRegion
import Derived.BigQuiet
import Derived.Lib.ItoaWalk
import Derived.StillTailTactics
import Derived.Deep.DeepCutAuto
import Derived.Deep.CutBlock
set_option linter.unusedVariables false
set_option linter.unusedSimpArgs false
namespace Go.Proofs.YtipnlgmeonepfaaGreatDoor.Lx
open Go.RowKit Go.Proofs.YtipnlgmeonepfaaGreatDoorW.PrintWords

set_option maxHeartbeats 800000 in
theorem in_walk {b c:Nat} (hc:c<256) (s:ByteArray) {v:Bool} (hv:Hid (s.data.toList.contains c.toUInt8=v)) {w:World} (h:w.cell? ⟨b,0,none⟩=some (.int .i64 c)):
  Calls Tryz.prog 166 #[.string s,.pointer (some ⟨b,0,none⟩)] w fun e w'=>e=.returned (.bool v)∧w'=w:=by
 have hw:IntKind.u8.wrap (c:Int)=c:=IntWalk.u8_in _ (by omega)
 obtain ⟨i,hi⟩: ∃i:Int,Lib.indexByte s.data.toList c.toUInt8=i:=⟨_,rfl⟩
 have hdec:decide (0≤i)=v:=by rw [←hi,in_index,hv.out]
 have HI:=Lib.hid (fun (w:World)=>Tryz.strings_IndexByte s (c:Int) w)
 rw [show ((c:Int).toNat.toUInt8)=c.toUInt8 from by simp,hi] at HI
 clear hi hv
 go_enter Tryz.func166,Tryz.ntmps166
 go_wp2_with (go_at_call 167;go_must (refine (HI.out _).mono ?_;rintro e w' ⟨rfl,rfl⟩))
 go_ret
 refine ⟨?_,rfl⟩
 rw [←hdec]
 rfl

/-- One round writes the six classes of one byte. -/
theorem tab_step {T:Array Value} {c:Nat} {a0 a1 a2 a3 a4 a5:Bool} (hT:T.size=1536) (hc:c<256) (HT:Hid (∀k x:Nat,k<6→x<c→T[k*256+x]? =some (.bool (cls k x))))
  (h0:a0=cls 0 c) (h1:a1=cls 1 c) (h2:a2=cls 2 c) (h3:a3=cls 3 c) (h4:a4=cls 4 c) (h5:a5=cls 5 c):
  Hid (∀k x:Nat,k<6→x<c+1→((((((T.setIfInBounds c (.bool a0)).setIfInBounds (256+c) (.bool a1)).setIfInBounds (512+c) (.bool a2)).setIfInBounds (768+c) (.bool a3)).setIfInBounds (1024+c) (.bool a4)).setIfInBounds (1280+c) (.bool a5))[k*256+x]? =some (.bool (cls k x))):=Lib.hid (by
 intro k x hk hx
 simp only [Array.getElem?_setIfInBounds,Array.size_setIfInBounds,hT]
 by_cases hxc:x=c
 ·subst hxc
  obtain rfl|rfl|rfl|rfl|rfl|rfl:k=0∨k=1∨k=2∨k=3∨k=4∨k=5:=by omega
  ·rw [if_neg (by omega),if_neg (by omega),if_neg (by omega),if_neg (by omega),if_neg (by omega),if_pos (by omega),if_pos (by omega),h0]
  ·rw [if_neg (by omega),if_neg (by omega),if_neg (by omega),if_neg (by omega),if_pos (by omega),if_pos (by omega),h1]
  ·rw [if_neg (by omega),if_neg (by omega),if_neg (by omega),if_pos (by omega),if_pos (by omega),h2]
  ·rw [if_neg (by omega),if_neg (by omega),if_pos (by omega),if_pos (by omega),h3]
  ·rw [if_neg (by omega),if_pos (by omega),if_pos (by omega),h4]
  ·rw [if_pos (by omega),if_pos (by omega),h5]
 ·rw [if_neg (by omega),if_neg (by omega),if_neg (by omega),if_neg (by omega),if_neg (by omega),if_neg (by omega)]
  exact HT.out k x hk (by omega))

theorem in_eq (l:List UInt8) (m:List Nat) (h: ∀c:Fin 256,l.contains c.1.toUInt8=m.contains c.1) {c:Nat} (hc:c<256):l.contains c.toUInt8=m.contains c:=h ⟨c,hc⟩
theorem in16 {c:Nat} (hc:c<256):([33,36,38,42,60,62,124,94,37,95,126,63,43,45,47,61]:List UInt8).contains c.toUInt8=([33,36,38,42,60,62,124,94,37,95,126,63,43,45,47,61]:List Nat).contains c:=in_eq _ _ (by decide+kernel) hc
theorem in4 {c:Nat} (hc:c<256):([43,45,47,61]:List UInt8).contains c.toUInt8=([43,45,47,61]:List Nat).contains c:=in_eq _ _ (by decide+kernel) hc
theorem in5 {c:Nat} (hc:c<256):([60,36,37,42,95]:List UInt8).contains c.toUInt8=([60,36,37,42,95]:List Nat).contains c:=in_eq _ _ (by decide+kernel) hc

set_option maxHeartbeats 25600000 in
set_option maxRecDepth 100000 in
theorem table_walk (w:World):
  Calls Tryz.prog 159 #[] w fun e w'=>e=.returned (.pointer (some ⟨w.heap.size,0,none⟩))∧Tab w' w.heap.size∧Below w.heap.size w w':=by
 have hz:(Tryz.zeroCells204).size=1536:=by kernel_rfl
 go_enter Tryz.func159,Tryz.ntmps159
 go_wp2_with fail
 go_loopg [8] 256 (fun gk v wr=> ∃(c:Nat) (T:Array Value),v=.int .i64 c∧gk=256-c∧c≤256∧T.size=1536∧Hid (wr.heap[w.heap.size]? =some (Obj.cells T 204 (0,0)))∧Hid (∀k x:Nat,k<6→x<c→T[k*256+x]? =some (.bool (cls k x)))∧Hid (Below w.heap.size w wr))
 case atStart=>exact ⟨0,_,rfl,rfl,by omega,hz,Lib.hid (blk_new _ _),Lib.hid (fun _ _ _ h=>absurd h (by omega)),Lib.hid (by repeat (first|(with_reducible exact Below.refl _ _)|(with_reducible apply below_alloc)))⟩
 case round=>
  obtain ⟨c,T,rfl,rfl,hc0,hT,BT,HT,HB⟩:=hrel
  have htb:w.heap.size<wr.heap.size:=blk_lt BT.out
  by_cases hc:c<256
  ·have hlt:decide ((c:Int)<256)=true:=decide_eq_true (by omega)
   have h0:(0:Int)≤c:=by omega
   have h256:(c:Int)<256:=by omega
   have hw1:IntKind.i64.wrap ((c:Int)+1)=((c+1:Nat):Int):=(IntWalk.i64_in _ (by omega)).trans (by simp)
   obtain ⟨v2,hv2⟩: ∃v,([33,36,38,42,60,62,124,94,37,95,126,63,43,45,47,61]:List UInt8).contains c.toUInt8=v:=⟨_,rfl⟩
   obtain ⟨v3,hv3⟩: ∃v,([43,45,47,61]:List UInt8).contains c.toUInt8=v:=⟨_,rfl⟩
   obtain ⟨v4,hv4⟩: ∃v,([60,36,37,42,95]:List UInt8).contains c.toUInt8=v:=⟨_,rfl⟩
   have C2:=Lib.hid ((in16 hc).symm.trans hv2)
   have C3:=Lib.hid ((in4 hc).symm.trans hv3)
   have C4:=Lib.hid ((in5 hc).symm.trans hv4)
   have W2:=Lib.hid (fun (b:Nat) (W:World) (h:W.cell? ⟨b,0,none⟩=some (.int .i64 c))=>in_walk hc ⟨#[33,36,38,42,60,62,124,94,37,95,126,63,43,45,47,61]⟩ (Lib.hid hv2) h)
   have W3:=Lib.hid (fun (b:Nat) (W:World) (h:W.cell? ⟨b,0,none⟩=some (.int .i64 c))=>in_walk hc ⟨#[43,45,47,61]⟩ (Lib.hid hv3) h)
   have W4:=Lib.hid (fun (b:Nat) (W:World) (h:W.cell? ⟨b,0,none⟩=some (.int .i64 c))=>in_walk hc ⟨#[60,36,37,42,95]⟩ (Lib.hid hv4) h)
   clear hv2 hv3 hv4
   obtain ⟨v5,hv5⟩: ∃v,((c:Int)==45)=v:=⟨_,rfl⟩
   have C5:Hid ((c==45)=v5):=Lib.hid (by rw [←hv5,Bool.eq_iff_iff];simp<;>omega)
   go_upto_region 6 with (fail)
   go_cut [4,5] (fun u4 u5 X0=> ∃l d:Bool,u4=.bool l∧u5=.bool d∧Hid (cL c=l)∧Hid (cD c=d)∧Hid (Below w.heap.size w X0)∧Hid (X0.heap[w.heap.size]? =some (Obj.cells T 204 (0,0)))∧Hid (X0.heap[wr.heap.size]? =some (Obj.cells #[.int .i64 c] 3 (0,0))))
   case first=>
    by_cases r0:97≤c∧c≤122
    ·have d0:decide ((97:Int)≤(c:Int))=true:=decide_eq_true (by omega)
     have d1:decide ((c:Int)≤122)=true:=decide_eq_true (by omega)
     have d2:decide ((48:Int)≤(c:Int))=true:=decide_eq_true (by omega)
     have d3:decide ((c:Int)≤57)=false:=decide_eq_false (by omega)
     go_quiet (fail)
     go_wp2_with fail
     go_meet
     exact ⟨true,false,rfl,rfl,Lib.hid (by unfold cL;rw [decide_eq_true (by omega),decide_eq_true (by omega)];rfl),Lib.hid (by unfold cD;rw [decide_eq_true (by omega),decide_eq_false (by omega)];rfl),Lib.hid (by repeat (first|(with_reducible exact HB.out)|(with_reducible apply below_alloc)|(with_reducible apply pw_below_drewN))),Lib.hid (blk_drewN (blk_alloc BT.out _) _),Lib.hid (blk_drewN (blk_new _ _) _)⟩
    ·by_cases r1:48≤c∧c≤57
     ·have d0:decide ((97:Int)≤(c:Int))=false:=decide_eq_false (by omega)
      have d1:decide ((c:Int)≤122)=true:=decide_eq_true (by omega)
      have d2:decide ((48:Int)≤(c:Int))=true:=decide_eq_true (by omega)
      have d3:decide ((c:Int)≤57)=true:=decide_eq_true (by omega)
      go_quiet (fail)
      go_wp2_with fail
      go_meet
      exact ⟨false,true,rfl,rfl,Lib.hid (by unfold cL;rw [decide_eq_false (by omega),decide_eq_true (by omega)];rfl),Lib.hid (by unfold cD;rw [decide_eq_true (by omega),decide_eq_true (by omega)];rfl),Lib.hid (by repeat (first|(with_reducible exact HB.out)|(with_reducible apply below_alloc)|(with_reducible apply pw_below_drewN))),Lib.hid (blk_drewN (blk_alloc BT.out _) _),Lib.hid (blk_drewN (blk_new _ _) _)⟩
     ·by_cases r2:c<48
      ·have d0:decide ((97:Int)≤(c:Int))=false:=decide_eq_false (by omega)
       have d1:decide ((c:Int)≤122)=true:=decide_eq_true (by omega)
       have d2:decide ((48:Int)≤(c:Int))=false:=decide_eq_false (by omega)
       have d3:decide ((c:Int)≤57)=true:=decide_eq_true (by omega)
       go_quiet (fail)
       go_wp2_with fail
       go_meet
       exact ⟨false,false,rfl,rfl,Lib.hid (by unfold cL;rw [decide_eq_false (by omega),decide_eq_true (by omega)];rfl),Lib.hid (by unfold cD;rw [decide_eq_false (by omega),decide_eq_true (by omega)];rfl),Lib.hid (by repeat (first|(with_reducible exact HB.out)|(with_reducible apply below_alloc)|(with_reducible apply pw_below_drewN))),Lib.hid (blk_drewN (blk_alloc BT.out _) _),Lib.hid (blk_drewN (blk_new _ _) _)⟩
      ·by_cases r3:c<97
       ·have d0:decide ((97:Int)≤(c:Int))=false:=decide_eq_false (by omega)
        have d1:decide ((c:Int)≤122)=true:=decide_eq_true (by omega)
        have d2:decide ((48:Int)≤(c:Int))=true:=decide_eq_true (by omega)
        have d3:decide ((c:Int)≤57)=false:=decide_eq_false (by omega)
        go_quiet (fail)
        go_wp2_with fail
        go_meet
        exact ⟨false,false,rfl,rfl,Lib.hid (by unfold cL;rw [decide_eq_false (by omega),decide_eq_true (by omega)];rfl),Lib.hid (by unfold cD;rw [decide_eq_true (by omega),decide_eq_false (by omega)];rfl),Lib.hid (by repeat (first|(with_reducible exact HB.out)|(with_reducible apply below_alloc)|(with_reducible apply pw_below_drewN))),Lib.hid (blk_drewN (blk_alloc BT.out _) _),Lib.hid (blk_drewN (blk_new _ _) _)⟩
       ·have d0:decide ((97:Int)≤(c:Int))=true:=decide_eq_true (by omega)
        have d1:decide ((c:Int)≤122)=false:=decide_eq_false (by omega)
        have d2:decide ((48:Int)≤(c:Int))=true:=decide_eq_true (by omega)
        have d3:decide ((c:Int)≤57)=false:=decide_eq_false (by omega)
        go_quiet (fail)
        go_wp2_with fail
        go_meet
        exact ⟨false,false,rfl,rfl,Lib.hid (by unfold cL;rw [decide_eq_true (by omega),decide_eq_false (by omega)];rfl),Lib.hid (by unfold cD;rw [decide_eq_true (by omega),decide_eq_false (by omega)];rfl),Lib.hid (by repeat (first|(with_reducible exact HB.out)|(with_reducible apply below_alloc)|(with_reducible apply pw_below_drewN))),Lib.hid (blk_drewN (blk_alloc BT.out _) _),Lib.hid (blk_drewN (blk_new _ _) _)⟩
   case rest=>
    obtain ⟨l,d,rfl,rfl,CL,CD,HB0,BT0,BC0⟩:=hcut
    generalize hX:wc=X0 at HB0 BT0 BC0⊢
    clear hX
    cases l
    ·cases d
     ·cases v2
      ·have hT0:=hT
       have hT0:Hid (T.size=1536):=Lib.hid hT
       go_wp2_with fail
       have c0:X0.cell? ⟨wr.heap.size,0,none⟩=some (.int .i64 c):=blk_cell BC0.out 0
       have g0:X0.frozen? ⟨wr.heap.size,0,none⟩=false:=blk_frozen BC0.out 0
       have l0_0: ∃u,X0.cell? ⟨w.heap.size,c,none⟩=some u:=⟨_,(blk_cell BT0.out (c)).trans (Array.getElem?_eq_getElem (by rw [hT0.out];omega))⟩
       have f0_0:X0.frozen? ⟨w.heap.size,c,none⟩=false:=blk_frozen BT0.out (c)
       have l0_1: ∃u,X0.cell? ⟨w.heap.size,256+c,none⟩=some u:=⟨_,(blk_cell BT0.out (256+c)).trans (Array.getElem?_eq_getElem (by rw [hT0.out];omega))⟩
       have f0_1:X0.frozen? ⟨w.heap.size,256+c,none⟩=false:=blk_frozen BT0.out (256+c)
       obtain ⟨u0_0,l0_0⟩:=l0_0
       obtain ⟨u0_1,l0_1⟩:=l0_1
       go_region
       go_wp2_with fail
       go_name_world X1 hX1
       have HB1:Hid (Below w.heap.size w X1):=Lib.hid (hX1▸(by repeat (first|(with_reducible exact HB0.out)|(with_reducible apply pw_below_drewN)|(with_reducible apply below_drew)|(with_reducible refine Below.setCell ?_ ?_ _;case refine_2=>simp))))
       have BT1:Hid (X1.heap[w.heap.size]? =some (Obj.cells (((T).setIfInBounds (c) (.bool false)).setIfInBounds (256+c) (.bool false)) 204 (0,0))):=Lib.hid (hX1▸(by repeat (first|exact BT0.out|apply blk_drewN|apply blk_drew|apply blk_set)))
       have BC1:Hid (X1.heap[wr.heap.size]? =some (Obj.cells #[.int .i64 c] 3 (0,0))):=Lib.hid (hX1▸(by repeat (first|exact BC0.out|apply blk_drewN|apply blk_drew|(refine blk_far ?_ (by simp;omega) _))))
       have hT1:Hid ((((T).setIfInBounds (c) (.bool false)).setIfInBounds (256+c) (.bool false)).size=1536):=Lib.hid (by simp only [Array.size_setIfInBounds];exact hT)
       clear hX1
       clear c0 g0 l0_0 f0_0 l0_1 f0_1
       have c1:X1.cell? ⟨wr.heap.size,0,none⟩=some (.int .i64 c):=blk_cell BC1.out 0
       have g1:X1.frozen? ⟨wr.heap.size,0,none⟩=false:=blk_frozen BC1.out 0
       have l1_2: ∃u,X1.cell? ⟨w.heap.size,512+c,none⟩=some u:=⟨_,(blk_cell BT1.out (512+c)).trans (Array.getElem?_eq_getElem (by rw [hT1.out];omega))⟩
       have f1_2:X1.frozen? ⟨w.heap.size,512+c,none⟩=false:=blk_frozen BT1.out (512+c)
       obtain ⟨u1_2,l1_2⟩:=l1_2
       refine wp_region_still_tail 13 (by kernel_rfl) (by kernel_rfl) ?_
       simp only [List.take_succ_cons,List.take_zero,List.drop_succ_cons,List.drop_zero]
       still_step
       still_step
       still_step
       still_step
       still_step
       still_step
       still_step
       still_step
       still_call (W2.out _ _ c1)
       repeat still_step
       try refine wpStill_nil ?_
       go_wp2_with fail
       go_name_world X2 hX2
       have HB2:Hid (Below w.heap.size w X2):=Lib.hid (hX2▸(by repeat (first|(with_reducible exact HB1.out)|(with_reducible apply pw_below_drewN)|(with_reducible apply below_drew)|(with_reducible refine Below.setCell ?_ ?_ _;case refine_2=>simp))))
       have BT2:Hid (X2.heap[w.heap.size]? =some (Obj.cells ((((T).setIfInBounds (c) (.bool false)).setIfInBounds (256+c) (.bool false)).setIfInBounds (512+c) (.bool false)) 204 (0,0))):=Lib.hid (hX2▸(by repeat (first|exact BT1.out|apply blk_drewN|apply blk_drew|apply blk_set)))
       have BC2:Hid (X2.heap[wr.heap.size]? =some (Obj.cells #[.int .i64 c] 3 (0,0))):=Lib.hid (hX2▸(by repeat (first|exact BC1.out|apply blk_drewN|apply blk_drew|(refine blk_far ?_ (by simp;omega) _))))
       have hT2:Hid (((((T).setIfInBounds (c) (.bool false)).setIfInBounds (256+c) (.bool false)).setIfInBounds (512+c) (.bool false)).size=1536):=Lib.hid (by simp only [Array.size_setIfInBounds];exact hT)
       clear hX2
       clear c1 g1 l1_2 f1_2
       have c2:X2.cell? ⟨wr.heap.size,0,none⟩=some (.int .i64 c):=blk_cell BC2.out 0
       have g2:X2.frozen? ⟨wr.heap.size,0,none⟩=false:=blk_frozen BC2.out 0
       have l2_2:X2.cell? ⟨w.heap.size,512+c,none⟩=some (.bool false):=(blk_cell BT2.out _).trans (by rw [Array.getElem?_setIfInBounds_self_of_lt];rw [Array.size_setIfInBounds,Array.size_setIfInBounds];omega)
       have f2_2:X2.frozen? ⟨w.heap.size,512+c,none⟩=false:=blk_frozen BT2.out (512+c)
       have l2_3: ∃u,X2.cell? ⟨w.heap.size,768+c,none⟩=some u:=⟨_,(blk_cell BT2.out (768+c)).trans (Array.getElem?_eq_getElem (by rw [hT2.out];omega))⟩
       have f2_3:X2.frozen? ⟨w.heap.size,768+c,none⟩=false:=blk_frozen BT2.out (768+c)
       obtain ⟨u2_3,l2_3⟩:=l2_3
       go_region
       go_wp2_with fail
       go_name_world X3 hX3
       have HB3:Hid (Below w.heap.size w X3):=Lib.hid (hX3▸(by repeat (first|(with_reducible exact HB2.out)|(with_reducible apply pw_below_drewN)|(with_reducible apply below_drew)|(with_reducible refine Below.setCell ?_ ?_ _;case refine_2=>simp))))
       have BT3:Hid (X3.heap[w.heap.size]? =some (Obj.cells (((((T).setIfInBounds (c) (.bool false)).setIfInBounds (256+c) (.bool false)).setIfInBounds (512+c) (.bool false)).setIfInBounds (768+c) (.bool false)) 204 (0,0))):=Lib.hid (hX3▸(by repeat (first|exact BT2.out|apply blk_drewN|apply blk_drew|apply blk_set)))
       have BC3:Hid (X3.heap[wr.heap.size]? =some (Obj.cells #[.int .i64 c] 3 (0,0))):=Lib.hid (hX3▸(by repeat (first|exact BC2.out|apply blk_drewN|apply blk_drew|(refine blk_far ?_ (by simp;omega) _))))
       have hT3:Hid ((((((T).setIfInBounds (c) (.bool false)).setIfInBounds (256+c) (.bool false)).setIfInBounds (512+c) (.bool false)).setIfInBounds (768+c) (.bool false)).size=1536):=Lib.hid (by simp only [Array.size_setIfInBounds];exact hT)
       clear hX3
       clear c2 g2 l2_2 f2_2 l2_3 f2_3
       have c3:X3.cell? ⟨wr.heap.size,0,none⟩=some (.int .i64 c):=blk_cell BC3.out 0
       have g3:X3.frozen? ⟨wr.heap.size,0,none⟩=false:=blk_frozen BC3.out 0
       have l3_4: ∃u,X3.cell? ⟨w.heap.size,1024+c,none⟩=some u:=⟨_,(blk_cell BT3.out (1024+c)).trans (Array.getElem?_eq_getElem (by rw [hT3.out];omega))⟩
       have f3_4:X3.frozen? ⟨w.heap.size,1024+c,none⟩=false:=blk_frozen BT3.out (1024+c)
       obtain ⟨u3_4,l3_4⟩:=l3_4
       refine wp_region_still_tail 7 (by kernel_rfl) (by kernel_rfl) ?_
       simp only [List.take_succ_cons,List.take_zero,List.drop_succ_cons,List.drop_zero]
       still_step
       still_step
       still_step
       still_call (W4.out _ _ c3)
       repeat still_step
       try refine wpStill_nil ?_
       go_wp2_with fail
       go_name_world X4 hX4
       have HB4:Hid (Below w.heap.size w X4):=Lib.hid (hX4▸(by repeat (first|(with_reducible exact HB3.out)|(with_reducible apply pw_below_drewN)|(with_reducible apply below_drew)|(with_reducible refine Below.setCell ?_ ?_ _;case refine_2=>simp))))
       have BT4:Hid (X4.heap[w.heap.size]? =some (Obj.cells ((((((T).setIfInBounds (c) (.bool false)).setIfInBounds (256+c) (.bool false)).setIfInBounds (512+c) (.bool false)).setIfInBounds (768+c) (.bool false)).setIfInBounds (1024+c) (.bool v4)) 204 (0,0))):=Lib.hid (hX4▸(by repeat (first|exact BT3.out|apply blk_drewN|apply blk_drew|apply blk_set)))
       have BC4:Hid (X4.heap[wr.heap.size]? =some (Obj.cells #[.int .i64 c] 3 (0,0))):=Lib.hid (hX4▸(by repeat (first|exact BC3.out|apply blk_drewN|apply blk_drew|(refine blk_far ?_ (by simp;omega) _))))
       have hT4:Hid (((((((T).setIfInBounds (c) (.bool false)).setIfInBounds (256+c) (.bool false)).setIfInBounds (512+c) (.bool false)).setIfInBounds (768+c) (.bool false)).setIfInBounds (1024+c) (.bool v4)).size=1536):=Lib.hid (by simp only [Array.size_setIfInBounds];exact hT)
       clear hX4
       clear c3 g3 l3_4 f3_4
       have c4:X4.cell? ⟨wr.heap.size,0,none⟩=some (.int .i64 c):=blk_cell BC4.out 0
       have g4:X4.frozen? ⟨wr.heap.size,0,none⟩=false:=blk_frozen BC4.out 0
       have l4_5: ∃u,X4.cell? ⟨w.heap.size,1280+c,none⟩=some u:=⟨_,(blk_cell BT4.out (1280+c)).trans (Array.getElem?_eq_getElem (by rw [hT4.out];omega))⟩
       have f4_5:X4.frozen? ⟨w.heap.size,1280+c,none⟩=false:=blk_frozen BT4.out (1280+c)
       obtain ⟨u4_5,l4_5⟩:=l4_5
       go_region
       go_wp2_with fail
       go_roundg (256-(c+1))
       case measure=>omega
       case rel=>exact ⟨c+1,((((((T).setIfInBounds (c) (.bool false)).setIfInBounds (256+c) (.bool false)).setIfInBounds (512+c) (.bool false)).setIfInBounds (768+c) (.bool false)).setIfInBounds (1024+c) (.bool v4)).setIfInBounds (1280+c) (.bool v5),rfl,rfl,by omega,by simp only [Array.size_setIfInBounds];exact hT,Lib.hid (by repeat (first|exact BT4.out|apply blk_drewN|apply blk_drew|apply blk_set)),tab_step hT hc HT (by have e2:=C2.out;have e3:=C3.out;have e4:=C4.out;have e5:=C5.out;have el:=CL.out;have ed:=CD.out;simp only [cls,cW,cF,cB,cQ,el,ed,e2,e3,e4,e5]<;>simp) (by have e2:=C2.out;have e3:=C3.out;have e4:=C4.out;have e5:=C5.out;have el:=CL.out;have ed:=CD.out;simp only [cls,cW,cF,cB,cQ,el,ed,e2,e3,e4,e5]<;>simp) (by have e2:=C2.out;have e3:=C3.out;have e4:=C4.out;have e5:=C5.out;have el:=CL.out;have ed:=CD.out;simp only [cls,cW,cF,cB,cQ,el,ed,e2,e3,e4,e5]<;>simp) (by have e2:=C2.out;have e3:=C3.out;have e4:=C4.out;have e5:=C5.out;have el:=CL.out;have ed:=CD.out;simp only [cls,cW,cF,cB,cQ,el,ed,e2,e3,e4,e5]<;>simp) (by have e2:=C2.out;have e3:=C3.out;have e4:=C4.out;have e5:=C5.out;have el:=CL.out;have ed:=CD.out;simp only [cls,cW,cF,cB,cQ,el,ed,e2,e3,e4,e5]<;>simp) (by have e2:=C2.out;have e3:=C3.out;have e4:=C4.out;have e5:=C5.out;have el:=CL.out;have ed:=CD.out;simp only [cls,cW,cF,cB,cQ,el,ed,e2,e3,e4,e5]<;>simp),Lib.hid (by repeat (first|(with_reducible exact HB4.out)|(with_reducible apply pw_below_drewN)|(with_reducible apply below_drew)|(with_reducible refine Below.setCell ?_ ?_ _;case refine_2=>simp)))⟩
      ·have hT0:=hT
       have hT0:Hid (T.size=1536):=Lib.hid hT
       go_wp2_with fail
       have c0:X0.cell? ⟨wr.heap.size,0,none⟩=some (.int .i64 c):=blk_cell BC0.out 0
       have g0:X0.frozen? ⟨wr.heap.size,0,none⟩=false:=blk_frozen BC0.out 0
       have l0_0: ∃u,X0.cell? ⟨w.heap.size,c,none⟩=some u:=⟨_,(blk_cell BT0.out (c)).trans (Array.getElem?_eq_getElem (by rw [hT0.out];omega))⟩
       have f0_0:X0.frozen? ⟨w.heap.size,c,none⟩=false:=blk_frozen BT0.out (c)
       have l0_1: ∃u,X0.cell? ⟨w.heap.size,256+c,none⟩=some u:=⟨_,(blk_cell BT0.out (256+c)).trans (Array.getElem?_eq_getElem (by rw [hT0.out];omega))⟩
       have f0_1:X0.frozen? ⟨w.heap.size,256+c,none⟩=false:=blk_frozen BT0.out (256+c)
       obtain ⟨u0_0,l0_0⟩:=l0_0
       obtain ⟨u0_1,l0_1⟩:=l0_1
       go_region
       go_wp2_with fail
       go_name_world X1 hX1
       have HB1:Hid (Below w.heap.size w X1):=Lib.hid (hX1▸(by repeat (first|(with_reducible exact HB0.out)|(with_reducible apply pw_below_drewN)|(with_reducible apply below_drew)|(with_reducible refine Below.setCell ?_ ?_ _;case refine_2=>simp))))
       have BT1:Hid (X1.heap[w.heap.size]? =some (Obj.cells (((T).setIfInBounds (c) (.bool false)).setIfInBounds (256+c) (.bool false)) 204 (0,0))):=Lib.hid (hX1▸(by repeat (first|exact BT0.out|apply blk_drewN|apply blk_drew|apply blk_set)))
       have BC1:Hid (X1.heap[wr.heap.size]? =some (Obj.cells #[.int .i64 c] 3 (0,0))):=Lib.hid (hX1▸(by repeat (first|exact BC0.out|apply blk_drewN|apply blk_drew|(refine blk_far ?_ (by simp;omega) _))))
       have hT1:Hid ((((T).setIfInBounds (c) (.bool false)).setIfInBounds (256+c) (.bool false)).size=1536):=Lib.hid (by simp only [Array.size_setIfInBounds];exact hT)
       clear hX1
       clear c0 g0 l0_0 f0_0 l0_1 f0_1
       have c1:X1.cell? ⟨wr.heap.size,0,none⟩=some (.int .i64 c):=blk_cell BC1.out 0
       have g1:X1.frozen? ⟨wr.heap.size,0,none⟩=false:=blk_frozen BC1.out 0
       have l1_2: ∃u,X1.cell? ⟨w.heap.size,512+c,none⟩=some u:=⟨_,(blk_cell BT1.out (512+c)).trans (Array.getElem?_eq_getElem (by rw [hT1.out];omega))⟩
       have f1_2:X1.frozen? ⟨w.heap.size,512+c,none⟩=false:=blk_frozen BT1.out (512+c)
       obtain ⟨u1_2,l1_2⟩:=l1_2
       refine wp_region_still_tail 13 (by kernel_rfl) (by kernel_rfl) ?_
       simp only [List.take_succ_cons,List.take_zero,List.drop_succ_cons,List.drop_zero]
       still_step
       still_step
       still_step
       still_step
       still_step
       still_step
       still_step
       still_step
       still_call (W2.out _ _ c1)
       repeat still_step
       try refine wpStill_nil ?_
       go_wp2_with fail
       go_name_world X2 hX2
       have HB2:Hid (Below w.heap.size w X2):=Lib.hid (hX2▸(by repeat (first|(with_reducible exact HB1.out)|(with_reducible apply pw_below_drewN)|(with_reducible apply below_drew)|(with_reducible refine Below.setCell ?_ ?_ _;case refine_2=>simp))))
       have BT2:Hid (X2.heap[w.heap.size]? =some (Obj.cells ((((T).setIfInBounds (c) (.bool false)).setIfInBounds (256+c) (.bool false)).setIfInBounds (512+c) (.bool true)) 204 (0,0))):=Lib.hid (hX2▸(by repeat (first|exact BT1.out|apply blk_drewN|apply blk_drew|apply blk_set)))
       have BC2:Hid (X2.heap[wr.heap.size]? =some (Obj.cells #[.int .i64 c] 3 (0,0))):=Lib.hid (hX2▸(by repeat (first|exact BC1.out|apply blk_drewN|apply blk_drew|(refine blk_far ?_ (by simp;omega) _))))
       have hT2:Hid (((((T).setIfInBounds (c) (.bool false)).setIfInBounds (256+c) (.bool false)).setIfInBounds (512+c) (.bool true)).size=1536):=Lib.hid (by simp only [Array.size_setIfInBounds];exact hT)
       clear hX2
       clear c1 g1 l1_2 f1_2
       have c2:X2.cell? ⟨wr.heap.size,0,none⟩=some (.int .i64 c):=blk_cell BC2.out 0
       have g2:X2.frozen? ⟨wr.heap.size,0,none⟩=false:=blk_frozen BC2.out 0
       have l2_2:X2.cell? ⟨w.heap.size,512+c,none⟩=some (.bool true):=(blk_cell BT2.out _).trans (by rw [Array.getElem?_setIfInBounds_self_of_lt];rw [Array.size_setIfInBounds,Array.size_setIfInBounds];omega)
       have f2_2:X2.frozen? ⟨w.heap.size,512+c,none⟩=false:=blk_frozen BT2.out (512+c)
       have l2_3: ∃u,X2.cell? ⟨w.heap.size,768+c,none⟩=some u:=⟨_,(blk_cell BT2.out (768+c)).trans (Array.getElem?_eq_getElem (by rw [hT2.out];omega))⟩
       have f2_3:X2.frozen? ⟨w.heap.size,768+c,none⟩=false:=blk_frozen BT2.out (768+c)
       obtain ⟨u2_3,l2_3⟩:=l2_3
       refine wp_region_still_tail 16 (by kernel_rfl) (by kernel_rfl) ?_
       simp only [List.take_succ_cons,List.take_zero,List.drop_succ_cons,List.drop_zero]
       still_step
       still_step
       still_step
       still_step
       still_step
       still_step
       still_step
       still_step
       still_step
       still_step
       still_call (W3.out _ _ c2)
       repeat still_step
       try refine wpStill_nil ?_
       go_wp2_with fail
       go_name_world X3 hX3
       have HB3:Hid (Below w.heap.size w X3):=Lib.hid (hX3▸(by repeat (first|(with_reducible exact HB2.out)|(with_reducible apply pw_below_drewN)|(with_reducible apply below_drew)|(with_reducible refine Below.setCell ?_ ?_ _;case refine_2=>simp))))
       have BT3:Hid (X3.heap[w.heap.size]? =some (Obj.cells (((((T).setIfInBounds (c) (.bool false)).setIfInBounds (256+c) (.bool false)).setIfInBounds (512+c) (.bool true)).setIfInBounds (768+c) (.bool (!v3))) 204 (0,0))):=Lib.hid (hX3▸(by repeat (first|exact BT2.out|apply blk_drewN|apply blk_drew|apply blk_set)))
       have BC3:Hid (X3.heap[wr.heap.size]? =some (Obj.cells #[.int .i64 c] 3 (0,0))):=Lib.hid (hX3▸(by repeat (first|exact BC2.out|apply blk_drewN|apply blk_drew|(refine blk_far ?_ (by simp;omega) _))))
       have hT3:Hid ((((((T).setIfInBounds (c) (.bool false)).setIfInBounds (256+c) (.bool false)).setIfInBounds (512+c) (.bool true)).setIfInBounds (768+c) (.bool (!v3))).size=1536):=Lib.hid (by simp only [Array.size_setIfInBounds];exact hT)
       clear hX3
       clear c2 g2 l2_2 f2_2 l2_3 f2_3
       have c3:X3.cell? ⟨wr.heap.size,0,none⟩=some (.int .i64 c):=blk_cell BC3.out 0
       have g3:X3.frozen? ⟨wr.heap.size,0,none⟩=false:=blk_frozen BC3.out 0
       have l3_4: ∃u,X3.cell? ⟨w.heap.size,1024+c,none⟩=some u:=⟨_,(blk_cell BT3.out (1024+c)).trans (Array.getElem?_eq_getElem (by rw [hT3.out];omega))⟩
       have f3_4:X3.frozen? ⟨w.heap.size,1024+c,none⟩=false:=blk_frozen BT3.out (1024+c)
       obtain ⟨u3_4,l3_4⟩:=l3_4
       refine wp_region_still_tail 7 (by kernel_rfl) (by kernel_rfl) ?_
       simp only [List.take_succ_cons,List.take_zero,List.drop_succ_cons,List.drop_zero]
       still_step
       still_step
       still_step
       still_call (W4.out _ _ c3)
       repeat still_step
       try refine wpStill_nil ?_
       go_wp2_with fail
       go_name_world X4 hX4
       have HB4:Hid (Below w.heap.size w X4):=Lib.hid (hX4▸(by repeat (first|(with_reducible exact HB3.out)|(with_reducible apply pw_below_drewN)|(with_reducible apply below_drew)|(with_reducible refine Below.setCell ?_ ?_ _;case refine_2=>simp))))
       have BT4:Hid (X4.heap[w.heap.size]? =some (Obj.cells ((((((T).setIfInBounds (c) (.bool false)).setIfInBounds (256+c) (.bool false)).setIfInBounds (512+c) (.bool true)).setIfInBounds (768+c) (.bool (!v3))).setIfInBounds (1024+c) (.bool v4)) 204 (0,0))):=Lib.hid (hX4▸(by repeat (first|exact BT3.out|apply blk_drewN|apply blk_drew|apply blk_set)))
       have BC4:Hid (X4.heap[wr.heap.size]? =some (Obj.cells #[.int .i64 c] 3 (0,0))):=Lib.hid (hX4▸(by repeat (first|exact BC3.out|apply blk_drewN|apply blk_drew|(refine blk_far ?_ (by simp;omega) _))))
       have hT4:Hid (((((((T).setIfInBounds (c) (.bool false)).setIfInBounds (256+c) (.bool false)).setIfInBounds (512+c) (.bool true)).setIfInBounds (768+c) (.bool (!v3))).setIfInBounds (1024+c) (.bool v4)).size=1536):=Lib.hid (by simp only [Array.size_setIfInBounds];exact hT)
       clear hX4
       clear c3 g3 l3_4 f3_4
       have c4:X4.cell? ⟨wr.heap.size,0,none⟩=some (.int .i64 c):=blk_cell BC4.out 0
       have g4:X4.frozen? ⟨wr.heap.size,0,none⟩=false:=blk_frozen BC4.out 0
       have l4_5: ∃u,X4.cell? ⟨w.heap.size,1280+c,none⟩=some u:=⟨_,(blk_cell BT4.out (1280+c)).trans (Array.getElem?_eq_getElem (by rw [hT4.out];omega))⟩
       have f4_5:X4.frozen? ⟨w.heap.size,1280+c,none⟩=false:=blk_frozen BT4.out (1280+c)
       obtain ⟨u4_5,l4_5⟩:=l4_5
       go_region
       go_wp2_with fail
       go_roundg (256-(c+1))
       case measure=>omega
       case rel=>exact ⟨c+1,((((((T).setIfInBounds (c) (.bool false)).setIfInBounds (256+c) (.bool false)).setIfInBounds (512+c) (.bool true)).setIfInBounds (768+c) (.bool (!v3))).setIfInBounds (1024+c) (.bool v4)).setIfInBounds (1280+c) (.bool v5),rfl,rfl,by omega,by simp only [Array.size_setIfInBounds];exact hT,Lib.hid (by repeat (first|exact BT4.out|apply blk_drewN|apply blk_drew|apply blk_set)),tab_step hT hc HT (by have e2:=C2.out;have e3:=C3.out;have e4:=C4.out;have e5:=C5.out;have el:=CL.out;have ed:=CD.out;simp only [cls,cW,cF,cB,cQ,el,ed,e2,e3,e4,e5]<;>simp) (by have e2:=C2.out;have e3:=C3.out;have e4:=C4.out;have e5:=C5.out;have el:=CL.out;have ed:=CD.out;simp only [cls,cW,cF,cB,cQ,el,ed,e2,e3,e4,e5]<;>simp) (by have e2:=C2.out;have e3:=C3.out;have e4:=C4.out;have e5:=C5.out;have el:=CL.out;have ed:=CD.out;simp only [cls,cW,cF,cB,cQ,el,ed,e2,e3,e4,e5]<;>simp) (by have e2:=C2.out;have e3:=C3.out;have e4:=C4.out;have e5:=C5.out;have el:=CL.out;have ed:=CD.out;simp only [cls,cW,cF,cB,cQ,el,ed,e2,e3,e4,e5]<;>simp) (by have e2:=C2.out;have e3:=C3.out;have e4:=C4.out;have e5:=C5.out;have el:=CL.out;have ed:=CD.out;simp only [cls,cW,cF,cB,cQ,el,ed,e2,e3,e4,e5]<;>simp) (by have e2:=C2.out;have e3:=C3.out;have e4:=C4.out;have e5:=C5.out;have el:=CL.out;have ed:=CD.out;simp only [cls,cW,cF,cB,cQ,el,ed,e2,e3,e4,e5]<;>simp),Lib.hid (by repeat (first|(with_reducible exact HB4.out)|(with_reducible apply pw_below_drewN)|(with_reducible apply below_drew)|(with_reducible refine Below.setCell ?_ ?_ _;case refine_2=>simp)))⟩
     ·have hT0:=hT
      have hT0:Hid (T.size=1536):=Lib.hid hT
      go_wp2_with fail
      have c0:X0.cell? ⟨wr.heap.size,0,none⟩=some (.int .i64 c):=blk_cell BC0.out 0
      have g0:X0.frozen? ⟨wr.heap.size,0,none⟩=false:=blk_frozen BC0.out 0
      have l0_0: ∃u,X0.cell? ⟨w.heap.size,c,none⟩=some u:=⟨_,(blk_cell BT0.out (c)).trans (Array.getElem?_eq_getElem (by rw [hT0.out];omega))⟩
      have f0_0:X0.frozen? ⟨w.heap.size,c,none⟩=false:=blk_frozen BT0.out (c)
      have l0_1: ∃u,X0.cell? ⟨w.heap.size,256+c,none⟩=some u:=⟨_,(blk_cell BT0.out (256+c)).trans (Array.getElem?_eq_getElem (by rw [hT0.out];omega))⟩
      have f0_1:X0.frozen? ⟨w.heap.size,256+c,none⟩=false:=blk_frozen BT0.out (256+c)
      obtain ⟨u0_0,l0_0⟩:=l0_0
      obtain ⟨u0_1,l0_1⟩:=l0_1
      go_region
      go_wp2_with fail
      go_name_world X1 hX1
      have HB1:Hid (Below w.heap.size w X1):=Lib.hid (hX1▸(by repeat (first|(with_reducible exact HB0.out)|(with_reducible apply pw_below_drewN)|(with_reducible apply below_drew)|(with_reducible refine Below.setCell ?_ ?_ _;case refine_2=>simp))))
      have BT1:Hid (X1.heap[w.heap.size]? =some (Obj.cells (((T).setIfInBounds (c) (.bool false)).setIfInBounds (256+c) (.bool true)) 204 (0,0))):=Lib.hid (hX1▸(by repeat (first|exact BT0.out|apply blk_drewN|apply blk_drew|apply blk_set)))
      have BC1:Hid (X1.heap[wr.heap.size]? =some (Obj.cells #[.int .i64 c] 3 (0,0))):=Lib.hid (hX1▸(by repeat (first|exact BC0.out|apply blk_drewN|apply blk_drew|(refine blk_far ?_ (by simp;omega) _))))
      have hT1:Hid ((((T).setIfInBounds (c) (.bool false)).setIfInBounds (256+c) (.bool true)).size=1536):=Lib.hid (by simp only [Array.size_setIfInBounds];exact hT)
      clear hX1
      clear c0 g0 l0_0 f0_0 l0_1 f0_1
      have c1:X1.cell? ⟨wr.heap.size,0,none⟩=some (.int .i64 c):=blk_cell BC1.out 0
      have g1:X1.frozen? ⟨wr.heap.size,0,none⟩=false:=blk_frozen BC1.out 0
      have l1_2: ∃u,X1.cell? ⟨w.heap.size,512+c,none⟩=some u:=⟨_,(blk_cell BT1.out (512+c)).trans (Array.getElem?_eq_getElem (by rw [hT1.out];omega))⟩
      have f1_2:X1.frozen? ⟨w.heap.size,512+c,none⟩=false:=blk_frozen BT1.out (512+c)
      obtain ⟨u1_2,l1_2⟩:=l1_2
      go_region
      go_wp2_with fail
      go_name_world X2 hX2
      have HB2:Hid (Below w.heap.size w X2):=Lib.hid (hX2▸(by repeat (first|(with_reducible exact HB1.out)|(with_reducible apply pw_below_drewN)|(with_reducible apply below_drew)|(with_reducible refine Below.setCell ?_ ?_ _;case refine_2=>simp))))
      have BT2:Hid (X2.heap[w.heap.size]? =some (Obj.cells ((((T).setIfInBounds (c) (.bool false)).setIfInBounds (256+c) (.bool true)).setIfInBounds (512+c) (.bool true)) 204 (0,0))):=Lib.hid (hX2▸(by repeat (first|exact BT1.out|apply blk_drewN|apply blk_drew|apply blk_set)))
      have BC2:Hid (X2.heap[wr.heap.size]? =some (Obj.cells #[.int .i64 c] 3 (0,0))):=Lib.hid (hX2▸(by repeat (first|exact BC1.out|apply blk_drewN|apply blk_drew|(refine blk_far ?_ (by simp;omega) _))))
      have hT2:Hid (((((T).setIfInBounds (c) (.bool false)).setIfInBounds (256+c) (.bool true)).setIfInBounds (512+c) (.bool true)).size=1536):=Lib.hid (by simp only [Array.size_setIfInBounds];exact hT)
      clear hX2
      clear c1 g1 l1_2 f1_2
      have c2:X2.cell? ⟨wr.heap.size,0,none⟩=some (.int .i64 c):=blk_cell BC2.out 0
      have g2:X2.frozen? ⟨wr.heap.size,0,none⟩=false:=blk_frozen BC2.out 0
      have l2_2:X2.cell? ⟨w.heap.size,512+c,none⟩=some (.bool true):=(blk_cell BT2.out _).trans (by rw [Array.getElem?_setIfInBounds_self_of_lt];rw [Array.size_setIfInBounds,Array.size_setIfInBounds];omega)
      have f2_2:X2.frozen? ⟨w.heap.size,512+c,none⟩=false:=blk_frozen BT2.out (512+c)
      have l2_3: ∃u,X2.cell? ⟨w.heap.size,768+c,none⟩=some u:=⟨_,(blk_cell BT2.out (768+c)).trans (Array.getElem?_eq_getElem (by rw [hT2.out];omega))⟩
      have f2_3:X2.frozen? ⟨w.heap.size,768+c,none⟩=false:=blk_frozen BT2.out (768+c)
      obtain ⟨u2_3,l2_3⟩:=l2_3
      refine wp_region_still_tail 16 (by kernel_rfl) (by kernel_rfl) ?_
      simp only [List.take_succ_cons,List.take_zero,List.drop_succ_cons,List.drop_zero]
      still_step
      still_step
      still_step
      still_step
      still_step
      still_step
      still_step
      still_step
      still_step
      still_step
      still_call (W3.out _ _ c2)
      repeat still_step
      try refine wpStill_nil ?_
      go_wp2_with fail
      go_name_world X3 hX3
      have HB3:Hid (Below w.heap.size w X3):=Lib.hid (hX3▸(by repeat (first|(with_reducible exact HB2.out)|(with_reducible apply pw_below_drewN)|(with_reducible apply below_drew)|(with_reducible refine Below.setCell ?_ ?_ _;case refine_2=>simp))))
      have BT3:Hid (X3.heap[w.heap.size]? =some (Obj.cells (((((T).setIfInBounds (c) (.bool false)).setIfInBounds (256+c) (.bool true)).setIfInBounds (512+c) (.bool true)).setIfInBounds (768+c) (.bool (!v3))) 204 (0,0))):=Lib.hid (hX3▸(by repeat (first|exact BT2.out|apply blk_drewN|apply blk_drew|apply blk_set)))
      have BC3:Hid (X3.heap[wr.heap.size]? =some (Obj.cells #[.int .i64 c] 3 (0,0))):=Lib.hid (hX3▸(by repeat (first|exact BC2.out|apply blk_drewN|apply blk_drew|(refine blk_far ?_ (by simp;omega) _))))
      have hT3:Hid ((((((T).setIfInBounds (c) (.bool false)).setIfInBounds (256+c) (.bool true)).setIfInBounds (512+c) (.bool true)).setIfInBounds (768+c) (.bool (!v3))).size=1536):=Lib.hid (by simp only [Array.size_setIfInBounds];exact hT)
      clear hX3
      clear c2 g2 l2_2 f2_2 l2_3 f2_3
      have c3:X3.cell? ⟨wr.heap.size,0,none⟩=some (.int .i64 c):=blk_cell BC3.out 0
      have g3:X3.frozen? ⟨wr.heap.size,0,none⟩=false:=blk_frozen BC3.out 0
      have l3_4: ∃u,X3.cell? ⟨w.heap.size,1024+c,none⟩=some u:=⟨_,(blk_cell BT3.out (1024+c)).trans (Array.getElem?_eq_getElem (by rw [hT3.out];omega))⟩
      have f3_4:X3.frozen? ⟨w.heap.size,1024+c,none⟩=false:=blk_frozen BT3.out (1024+c)
      obtain ⟨u3_4,l3_4⟩:=l3_4
      refine wp_region_still_tail 7 (by kernel_rfl) (by kernel_rfl) ?_
      simp only [List.take_succ_cons,List.take_zero,List.drop_succ_cons,List.drop_zero]
      still_step
      still_step
      still_step
      still_call (W4.out _ _ c3)
      repeat still_step
      try refine wpStill_nil ?_
      go_wp2_with fail
      go_name_world X4 hX4
      have HB4:Hid (Below w.heap.size w X4):=Lib.hid (hX4▸(by repeat (first|(with_reducible exact HB3.out)|(with_reducible apply pw_below_drewN)|(with_reducible apply below_drew)|(with_reducible refine Below.setCell ?_ ?_ _;case refine_2=>simp))))
      have BT4:Hid (X4.heap[w.heap.size]? =some (Obj.cells ((((((T).setIfInBounds (c) (.bool false)).setIfInBounds (256+c) (.bool true)).setIfInBounds (512+c) (.bool true)).setIfInBounds (768+c) (.bool (!v3))).setIfInBounds (1024+c) (.bool v4)) 204 (0,0))):=Lib.hid (hX4▸(by repeat (first|exact BT3.out|apply blk_drewN|apply blk_drew|apply blk_set)))
      have BC4:Hid (X4.heap[wr.heap.size]? =some (Obj.cells #[.int .i64 c] 3 (0,0))):=Lib.hid (hX4▸(by repeat (first|exact BC3.out|apply blk_drewN|apply blk_drew|(refine blk_far ?_ (by simp;omega) _))))
      have hT4:Hid (((((((T).setIfInBounds (c) (.bool false)).setIfInBounds (256+c) (.bool true)).setIfInBounds (512+c) (.bool true)).setIfInBounds (768+c) (.bool (!v3))).setIfInBounds (1024+c) (.bool v4)).size=1536):=Lib.hid (by simp only [Array.size_setIfInBounds];exact hT)
      clear hX4
      clear c3 g3 l3_4 f3_4
      have c4:X4.cell? ⟨wr.heap.size,0,none⟩=some (.int .i64 c):=blk_cell BC4.out 0
      have g4:X4.frozen? ⟨wr.heap.size,0,none⟩=false:=blk_frozen BC4.out 0
      have l4_5: ∃u,X4.cell? ⟨w.heap.size,1280+c,none⟩=some u:=⟨_,(blk_cell BT4.out (1280+c)).trans (Array.getElem?_eq_getElem (by rw [hT4.out];omega))⟩
      have f4_5:X4.frozen? ⟨w.heap.size,1280+c,none⟩=false:=blk_frozen BT4.out (1280+c)
      obtain ⟨u4_5,l4_5⟩:=l4_5
      go_region
      go_wp2_with fail
      go_roundg (256-(c+1))
      case measure=>omega
      case rel=>exact ⟨c+1,((((((T).setIfInBounds (c) (.bool false)).setIfInBounds (256+c) (.bool true)).setIfInBounds (512+c) (.bool true)).setIfInBounds (768+c) (.bool (!v3))).setIfInBounds (1024+c) (.bool v4)).setIfInBounds (1280+c) (.bool true),rfl,rfl,by omega,by simp only [Array.size_setIfInBounds];exact hT,Lib.hid (by repeat (first|exact BT4.out|apply blk_drewN|apply blk_drew|apply blk_set)),tab_step hT hc HT (by have e2:=C2.out;have e3:=C3.out;have e4:=C4.out;have e5:=C5.out;have el:=CL.out;have ed:=CD.out;simp only [cls,cW,cF,cB,cQ,el,ed,e2,e3,e4,e5]<;>simp) (by have e2:=C2.out;have e3:=C3.out;have e4:=C4.out;have e5:=C5.out;have el:=CL.out;have ed:=CD.out;simp only [cls,cW,cF,cB,cQ,el,ed,e2,e3,e4,e5]<;>simp) (by have e2:=C2.out;have e3:=C3.out;have e4:=C4.out;have e5:=C5.out;have el:=CL.out;have ed:=CD.out;simp only [cls,cW,cF,cB,cQ,el,ed,e2,e3,e4,e5]<;>simp) (by have e2:=C2.out;have e3:=C3.out;have e4:=C4.out;have e5:=C5.out;have el:=CL.out;have ed:=CD.out;simp only [cls,cW,cF,cB,cQ,el,ed,e2,e3,e4,e5]<;>simp) (by have e2:=C2.out;have e3:=C3.out;have e4:=C4.out;have e5:=C5.out;have el:=CL.out;have ed:=CD.out;simp only [cls,cW,cF,cB,cQ,el,ed,e2,e3,e4,e5]<;>simp) (by have e2:=C2.out;have e3:=C3.out;have e4:=C4.out;have e5:=C5.out;have el:=CL.out;have ed:=CD.out;simp only [cls,cW,cF,cB,cQ,el,ed,e2,e3,e4,e5]<;>simp),Lib.hid (by repeat (first|(with_reducible exact HB4.out)|(with_reducible apply pw_below_drewN)|(with_reducible apply below_drew)|(with_reducible refine Below.setCell ?_ ?_ _;case refine_2=>simp)))⟩
    ·have hT0:=hT
     have hT0:Hid (T.size=1536):=Lib.hid hT
     go_wp2_with fail
     have c0:X0.cell? ⟨wr.heap.size,0,none⟩=some (.int .i64 c):=blk_cell BC0.out 0
     have g0:X0.frozen? ⟨wr.heap.size,0,none⟩=false:=blk_frozen BC0.out 0
     have l0_0: ∃u,X0.cell? ⟨w.heap.size,c,none⟩=some u:=⟨_,(blk_cell BT0.out (c)).trans (Array.getElem?_eq_getElem (by rw [hT0.out];omega))⟩
     have f0_0:X0.frozen? ⟨w.heap.size,c,none⟩=false:=blk_frozen BT0.out (c)
     have l0_1: ∃u,X0.cell? ⟨w.heap.size,256+c,none⟩=some u:=⟨_,(blk_cell BT0.out (256+c)).trans (Array.getElem?_eq_getElem (by rw [hT0.out];omega))⟩
     have f0_1:X0.frozen? ⟨w.heap.size,256+c,none⟩=false:=blk_frozen BT0.out (256+c)
     obtain ⟨u0_0,l0_0⟩:=l0_0
     obtain ⟨u0_1,l0_1⟩:=l0_1
     go_region
     go_wp2_with fail
     go_name_world X1 hX1
     have HB1:Hid (Below w.heap.size w X1):=Lib.hid (hX1▸(by repeat (first|(with_reducible exact HB0.out)|(with_reducible apply pw_below_drewN)|(with_reducible apply below_drew)|(with_reducible refine Below.setCell ?_ ?_ _;case refine_2=>simp))))
     have BT1:Hid (X1.heap[w.heap.size]? =some (Obj.cells (((T).setIfInBounds (c) (.bool true)).setIfInBounds (256+c) (.bool d)) 204 (0,0))):=Lib.hid (hX1▸(by repeat (first|exact BT0.out|apply blk_drewN|apply blk_drew|apply blk_set)))
     have BC1:Hid (X1.heap[wr.heap.size]? =some (Obj.cells #[.int .i64 c] 3 (0,0))):=Lib.hid (hX1▸(by repeat (first|exact BC0.out|apply blk_drewN|apply blk_drew|(refine blk_far ?_ (by simp;omega) _))))
     have hT1:Hid ((((T).setIfInBounds (c) (.bool true)).setIfInBounds (256+c) (.bool d)).size=1536):=Lib.hid (by simp only [Array.size_setIfInBounds];exact hT)
     clear hX1
     clear c0 g0 l0_0 f0_0 l0_1 f0_1
     have c1:X1.cell? ⟨wr.heap.size,0,none⟩=some (.int .i64 c):=blk_cell BC1.out 0
     have g1:X1.frozen? ⟨wr.heap.size,0,none⟩=false:=blk_frozen BC1.out 0
     have l1_2: ∃u,X1.cell? ⟨w.heap.size,512+c,none⟩=some u:=⟨_,(blk_cell BT1.out (512+c)).trans (Array.getElem?_eq_getElem (by rw [hT1.out];omega))⟩
     have f1_2:X1.frozen? ⟨w.heap.size,512+c,none⟩=false:=blk_frozen BT1.out (512+c)
     obtain ⟨u1_2,l1_2⟩:=l1_2
     go_region
     go_wp2_with fail
     go_name_world X2 hX2
     have HB2:Hid (Below w.heap.size w X2):=Lib.hid (hX2▸(by repeat (first|(with_reducible exact HB1.out)|(with_reducible apply pw_below_drewN)|(with_reducible apply below_drew)|(with_reducible refine Below.setCell ?_ ?_ _;case refine_2=>simp))))
     have BT2:Hid (X2.heap[w.heap.size]? =some (Obj.cells ((((T).setIfInBounds (c) (.bool true)).setIfInBounds (256+c) (.bool d)).setIfInBounds (512+c) (.bool true)) 204 (0,0))):=Lib.hid (hX2▸(by repeat (first|exact BT1.out|apply blk_drewN|apply blk_drew|apply blk_set)))
     have BC2:Hid (X2.heap[wr.heap.size]? =some (Obj.cells #[.int .i64 c] 3 (0,0))):=Lib.hid (hX2▸(by repeat (first|exact BC1.out|apply blk_drewN|apply blk_drew|(refine blk_far ?_ (by simp;omega) _))))
     have hT2:Hid (((((T).setIfInBounds (c) (.bool true)).setIfInBounds (256+c) (.bool d)).setIfInBounds (512+c) (.bool true)).size=1536):=Lib.hid (by simp only [Array.size_setIfInBounds];exact hT)
     clear hX2
     clear c1 g1 l1_2 f1_2
     have c2:X2.cell? ⟨wr.heap.size,0,none⟩=some (.int .i64 c):=blk_cell BC2.out 0
     have g2:X2.frozen? ⟨wr.heap.size,0,none⟩=false:=blk_frozen BC2.out 0
     have l2_2:X2.cell? ⟨w.heap.size,512+c,none⟩=some (.bool true):=(blk_cell BT2.out _).trans (by rw [Array.getElem?_setIfInBounds_self_of_lt];rw [Array.size_setIfInBounds,Array.size_setIfInBounds];omega)
     have f2_2:X2.frozen? ⟨w.heap.size,512+c,none⟩=false:=blk_frozen BT2.out (512+c)
     have l2_3: ∃u,X2.cell? ⟨w.heap.size,768+c,none⟩=some u:=⟨_,(blk_cell BT2.out (768+c)).trans (Array.getElem?_eq_getElem (by rw [hT2.out];omega))⟩
     have f2_3:X2.frozen? ⟨w.heap.size,768+c,none⟩=false:=blk_frozen BT2.out (768+c)
     obtain ⟨u2_3,l2_3⟩:=l2_3
     refine wp_region_still_tail 16 (by kernel_rfl) (by kernel_rfl) ?_
     simp only [List.take_succ_cons,List.take_zero,List.drop_succ_cons,List.drop_zero]
     still_step
     still_step
     still_step
     still_step
     still_step
     still_step
     still_step
     still_step
     still_step
     still_step
     still_call (W3.out _ _ c2)
     repeat still_step
     try refine wpStill_nil ?_
     go_wp2_with fail
     go_name_world X3 hX3
     have HB3:Hid (Below w.heap.size w X3):=Lib.hid (hX3▸(by repeat (first|(with_reducible exact HB2.out)|(with_reducible apply pw_below_drewN)|(with_reducible apply below_drew)|(with_reducible refine Below.setCell ?_ ?_ _;case refine_2=>simp))))
     have BT3:Hid (X3.heap[w.heap.size]? =some (Obj.cells (((((T).setIfInBounds (c) (.bool true)).setIfInBounds (256+c) (.bool d)).setIfInBounds (512+c) (.bool true)).setIfInBounds (768+c) (.bool (!v3))) 204 (0,0))):=Lib.hid (hX3▸(by repeat (first|exact BT2.out|apply blk_drewN|apply blk_drew|apply blk_set)))
     have BC3:Hid (X3.heap[wr.heap.size]? =some (Obj.cells #[.int .i64 c] 3 (0,0))):=Lib.hid (hX3▸(by repeat (first|exact BC2.out|apply blk_drewN|apply blk_drew|(refine blk_far ?_ (by simp;omega) _))))
     have hT3:Hid ((((((T).setIfInBounds (c) (.bool true)).setIfInBounds (256+c) (.bool d)).setIfInBounds (512+c) (.bool true)).setIfInBounds (768+c) (.bool (!v3))).size=1536):=Lib.hid (by simp only [Array.size_setIfInBounds];exact hT)
     clear hX3
     clear c2 g2 l2_2 f2_2 l2_3 f2_3
     have c3:X3.cell? ⟨wr.heap.size,0,none⟩=some (.int .i64 c):=blk_cell BC3.out 0
     have g3:X3.frozen? ⟨wr.heap.size,0,none⟩=false:=blk_frozen BC3.out 0
     have l3_4: ∃u,X3.cell? ⟨w.heap.size,1024+c,none⟩=some u:=⟨_,(blk_cell BT3.out (1024+c)).trans (Array.getElem?_eq_getElem (by rw [hT3.out];omega))⟩
     have f3_4:X3.frozen? ⟨w.heap.size,1024+c,none⟩=false:=blk_frozen BT3.out (1024+c)
     obtain ⟨u3_4,l3_4⟩:=l3_4
     refine wp_region_still_tail 7 (by kernel_rfl) (by kernel_rfl) ?_
     simp only [List.take_succ_cons,List.take_zero,List.drop_succ_cons,List.drop_zero]
     still_step
     still_step
     still_step
     still_call (W4.out _ _ c3)
     repeat still_step
     try refine wpStill_nil ?_
     go_wp2_with fail
     go_name_world X4 hX4
     have HB4:Hid (Below w.heap.size w X4):=Lib.hid (hX4▸(by repeat (first|(with_reducible exact HB3.out)|(with_reducible apply pw_below_drewN)|(with_reducible apply below_drew)|(with_reducible refine Below.setCell ?_ ?_ _;case refine_2=>simp))))
     have BT4:Hid (X4.heap[w.heap.size]? =some (Obj.cells ((((((T).setIfInBounds (c) (.bool true)).setIfInBounds (256+c) (.bool d)).setIfInBounds (512+c) (.bool true)).setIfInBounds (768+c) (.bool (!v3))).setIfInBounds (1024+c) (.bool v4)) 204 (0,0))):=Lib.hid (hX4▸(by repeat (first|exact BT3.out|apply blk_drewN|apply blk_drew|apply blk_set)))
     have BC4:Hid (X4.heap[wr.heap.size]? =some (Obj.cells #[.int .i64 c] 3 (0,0))):=Lib.hid (hX4▸(by repeat (first|exact BC3.out|apply blk_drewN|apply blk_drew|(refine blk_far ?_ (by simp;omega) _))))
     have hT4:Hid (((((((T).setIfInBounds (c) (.bool true)).setIfInBounds (256+c) (.bool d)).setIfInBounds (512+c) (.bool true)).setIfInBounds (768+c) (.bool (!v3))).setIfInBounds (1024+c) (.bool v4)).size=1536):=Lib.hid (by simp only [Array.size_setIfInBounds];exact hT)
     clear hX4
     clear c3 g3 l3_4 f3_4
     have c4:X4.cell? ⟨wr.heap.size,0,none⟩=some (.int .i64 c):=blk_cell BC4.out 0
     have g4:X4.frozen? ⟨wr.heap.size,0,none⟩=false:=blk_frozen BC4.out 0
     have l4_5: ∃u,X4.cell? ⟨w.heap.size,1280+c,none⟩=some u:=⟨_,(blk_cell BT4.out (1280+c)).trans (Array.getElem?_eq_getElem (by rw [hT4.out];omega))⟩
     have f4_5:X4.frozen? ⟨w.heap.size,1280+c,none⟩=false:=blk_frozen BT4.out (1280+c)
     obtain ⟨u4_5,l4_5⟩:=l4_5
     go_region
     go_wp2_with fail
     go_roundg (256-(c+1))
     case measure=>omega
     case rel=>exact ⟨c+1,((((((T).setIfInBounds (c) (.bool true)).setIfInBounds (256+c) (.bool d)).setIfInBounds (512+c) (.bool true)).setIfInBounds (768+c) (.bool (!v3))).setIfInBounds (1024+c) (.bool v4)).setIfInBounds (1280+c) (.bool true),rfl,rfl,by omega,by simp only [Array.size_setIfInBounds];exact hT,Lib.hid (by repeat (first|exact BT4.out|apply blk_drewN|apply blk_drew|apply blk_set)),tab_step hT hc HT (by have e2:=C2.out;have e3:=C3.out;have e4:=C4.out;have e5:=C5.out;have el:=CL.out;have ed:=CD.out;simp only [cls,cW,cF,cB,cQ,el,ed,e2,e3,e4,e5]<;>simp) (by have e2:=C2.out;have e3:=C3.out;have e4:=C4.out;have e5:=C5.out;have el:=CL.out;have ed:=CD.out;simp only [cls,cW,cF,cB,cQ,el,ed,e2,e3,e4,e5]<;>simp) (by have e2:=C2.out;have e3:=C3.out;have e4:=C4.out;have e5:=C5.out;have el:=CL.out;have ed:=CD.out;simp only [cls,cW,cF,cB,cQ,el,ed,e2,e3,e4,e5]<;>simp) (by have e2:=C2.out;have e3:=C3.out;have e4:=C4.out;have e5:=C5.out;have el:=CL.out;have ed:=CD.out;simp only [cls,cW,cF,cB,cQ,el,ed,e2,e3,e4,e5]<;>simp) (by have e2:=C2.out;have e3:=C3.out;have e4:=C4.out;have e5:=C5.out;have el:=CL.out;have ed:=CD.out;simp only [cls,cW,cF,cB,cQ,el,ed,e2,e3,e4,e5]<;>simp) (by have e2:=C2.out;have e3:=C3.out;have e4:=C4.out;have e5:=C5.out;have el:=CL.out;have ed:=CD.out;simp only [cls,cW,cF,cB,cQ,el,ed,e2,e3,e4,e5]<;>simp),Lib.hid (by repeat (first|(with_reducible exact HB4.out)|(with_reducible apply pw_below_drewN)|(with_reducible apply below_drew)|(with_reducible refine Below.setCell ?_ ?_ _;case refine_2=>simp)))⟩
  ·obtain rfl:c=256:=by omega
   go_wp2_with fail
   go_ret
   exact ⟨rfl,fun k x hk hx=>(blk_cell BT.out _).trans (HT.out k x hk hx),HB.out⟩
end Go.Proofs.YtipnlgmeonepfaaGreatDoor.Lx
