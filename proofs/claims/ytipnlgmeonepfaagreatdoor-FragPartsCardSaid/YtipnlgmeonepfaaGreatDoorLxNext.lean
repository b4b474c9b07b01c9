/- The cutter's next piece: what it returns, or throws, is what the plain form says. The listed variables of strconv hold what they were laid as. -/
import Derived.Test.YtipnlgmeonepfaaGreatDoorLxBest
import Derived.Test.YtipnlgmeonepfaaGreatDoorLxCheck
import Derived.Test.YtipnlgmeonepfaaGreatDoorLxBounds
import Derived.Deep.LoopGhost
set_option linter.unusedVariables false
set_option linter.unusedSimpArgs false
namespace Go.Proofs.YtipnlgmeonepfaaGreatDoor.Lx
open Go.RowKit Go.Proofs.YtipnlgmeonepfaaGreatDoorW.PrintWords

/-- How the next piece ends. -/
def endPiece (at_:Nat):Except Int (Nat×Nat)→Ending
 | .ok (k,n)=> .returned (.agg #[.int .i64 k,.int .i64 at_,.int .i64 n])
 | .error er=> .panicked [{v:=wrongV at_ er,recovered:=false}]
def blankSet:List UInt8:=[32,9,13,10]
theorem cBlank_eq (x:UInt8):cBlank x.toNat=blankSet.contains x:=
 beq_iff_eq.1 (bytes_all (fun y=>cBlank y.toNat==blankSet.contains y) (by decide+kernel) x)

theorem quiet_sum {P:Program} {f:FuncId} {args:Array Value} {w:World} {m n:Nat} {v:Value}
  (h:Calls P f args (w.drewN (m+n)) fun e w'=>e=.returned v∧w'=w.drewN (m+n)):Calls P f args (w.drewN (m+n)) fun e w''=>e=.returned v∧ ∃k,w''=w.drewN (m+k):=
 h.mono fun _ _ ⟨he,hm⟩=>⟨he,n,hm⟩
set_option maxHeartbeats 12800000 in
set_option maxRecDepth 100000 in
theorem next_walk {b tb:Nat} {text:ByteArray} {at_ lk la ll:Nat} {op:Bool} (hv:Hid (operand lk ((text.data.toList.drop la).take ll)=op)) (hs:text.size≤20000) (hll:la+ll≤text.size) (hat:at_<text.size)
  {w:World} (hc:Cut w b tb text at_ lk la ll) (hE:Env w) {g:Nat} (hr:RL w g):
  Calls Tryz.prog 170 #[.pointer (some ⟨b,0,none⟩),.slice (some ⟨g,0,none⟩) 6 6] w
   fun e w'=>e=endPiece at_ (next op (text.data.toList.drop at_))∧Below w.heap.size w w':=by
 have HC:=Lib.hid hc
 have HE:=Lib.hid hE
 have HR:=Lib.hid hr
 clear hE hr
 obtain ⟨c0,c1,ct,c3,c4,c5⟩:=hc
 clear ct c3 c4 c5
 have hbl:b<w.heap.size:=World.block_lt_of_cell? w ⟨b,0,none⟩ c0
 have hu40:=Tryz.underlying129
 have hle:at_≤text.size:=by omega
 have hi0:(0:Int)≤at_:=by omega
 have hi1:(at_:Int)<text.size:=by omega
 obtain ⟨L,hL⟩: ∃L,text.data.toList.drop at_=L:=⟨_,rfl⟩
 rw [hL]
 obtain ⟨v1,hv1⟩: ∃v,pre ([47,47]:List UInt8) L=v:=⟨_,rfl⟩
 have HV1:Hid (pre (⟨#[47,47]⟩:ByteArray).data.toList (text.data.toList.drop at_)=v1):=Lib.hid (by rw [hL];exact hv1)
 obtain ⟨v2,hv2⟩: ∃v,pre ([47,42]:List UInt8) L=v:=⟨_,rfl⟩
 have HV2:Hid (pre (⟨#[47,42]⟩:ByteArray).data.toList (text.data.toList.drop at_)=v2):=Lib.hid (by rw [hL];exact hv2)
 have HCM:=Lib.hid (fun (W:World) (hc:Cut W b tb text at_ lk la ll)=>comment_walk hs hle hc)
 rw [hL] at HCM
 obtain ⟨cm,hcm⟩: ∃cm,comment L=cm:=⟨_,rfl⟩
 rw [hcm] at HCM
 have hres:Hid (next op L=if v1||v2 then tag8 cm else if cBlank (byteAt L 0) then .ok (7,allN cBlank L) else checked L (longest op (L.take 100))):=Lib.hid (by unfold next;rw [hv1,hv2,hcm])
 have HL:=Lib.hid hL
 clear hL hcm hv1 hv2
 cases v1
 ·cases v2
  ·have hne:L=text[at_]::L.tail:=by rw [←HL.out,drop_cons text at_ hat];rfl
   have hb0:byteAt L 0=text[at_].toNat:=by rw [hne];rfl
   obtain ⟨i,hi⟩: ∃i:Int,Lib.indexByte blankSet text[at_]=i:=⟨_,rfl⟩
   have hdec:decide (0≤i)=cBlank (byteAt L 0):=by rw [←hi,in_index,←cBlank_eq,hb0]
   have HI:=Lib.hid (fun (w:World)=>Tryz.strings_IndexByte ⟨#[32,9,13,10]⟩ (text[at_].toNat:Int) w)
   have hset:Hid ((⟨#[32,9,13,10]⟩:ByteArray).data.toList=blankSet):=Lib.hid rfl
   rw [hset.out,show ((text[at_].toNat:Int).toNat.toUInt8)=text[at_] from by simp,hi] at HI
   clear hne hb0 hi
   obtain ⟨vb,hvb⟩: ∃vb,cBlank (byteAt L 0)=vb:=⟨_,rfl⟩
   have hres2:Hid (next op L=if vb=true then .ok (7,allN cBlank L) else checked L (longest op (L.take 100))):=Lib.hid (by rw [hres.out,hvb];rfl)
   rw [hvb] at hdec
   clear hvb hres HCM
   cases vb
   ·have hii: ¬0≤i:=of_decide_eq_false hdec
    clear hdec
    obtain ⟨⟨k,n⟩,hkn⟩: ∃t,longest op (L.take 100)=t:=⟨_,rfl⟩
    have hinv:=longest_inv op (L.take 100)
    rw [hkn] at hinv
    have hk6:k≤6:=hinv.1
    have hn:at_+n≤text.size:=by
     have h2:n≤(L.take 100).length:=hinv.2
     rw [List.length_take] at h2
     have h3:L.length=text.size-at_:=by rw [←HL.out,List.length_drop,data_length]
     omega
    have HLG:=Lib.hid (fun (W:World) (hc:Cut W b tb text at_ lk la ll) (hr:RL W g)=>longest_walk hv hs hll hle hc hr)
    rw [HL.out,hkn] at HLG
    have HCK:=Lib.hid (fun (W:World) (hc:Cut W b tb text at_ lk la ll) (hE:Env W)=>check_walk hs k n hk6 hn hc hE)
    rw [HL.out] at HCK
    obtain ⟨er,her⟩: ∃er,check L k n=er:=⟨_,rfl⟩
    have hres3:Hid (next op L=if er=0 then .ok (k,n) else .error er):=Lib.hid (by rw [hres2.out,hkn];unfold checked;rw [her];rfl)
    rw [her] at HCK
    clear hkn hinv her hres2 hv
    by_cases h0:er=0
    ·have hE:Hid (next op L=.ok (k,n)):=Lib.hid (hres3.out.trans (if_pos h0))
     have HCE:Hid (∀(W:World),Cut W b tb text at_ lk la ll→Env W→Calls Tryz.prog 184 #[.pointer (some ⟨b,0,none⟩),.int .i64 (k:Int),.int .i64 (n:Int)] W fun e w'=>e=.returned (.tuple #[])∧Below W.heap.size W w'):=Lib.hid (fun W h1 h2=>(HCK.out W h1 h2).mono fun e w' h=>⟨h.1.trans (if_pos h0),h.2⟩)
     clear hres3 HCK h0
     go_enter Tryz.func170,Tryz.ntmps170
     go_wp2_with fail
     refine (starts_at HV1 hs hle (HC.out.below (by repeat (first|(with_reducible exact Below.refl _ _)|(with_reducible apply below_alloc)|(with_reducible apply pw_below_drewN)|(with_reducible refine Below.setCell ?_ ?_ _;case refine_2=>simp))))).mono ?_
     rintro e w' ⟨rfl,⟨m1,rfl⟩⟩
     go_wp2_with fail
     refine (starts_at HV2 hs hle (HC.out.below (by repeat (first|(with_reducible exact Below.refl _ _)|(with_reducible apply below_alloc)|(with_reducible apply pw_below_drewN)|(with_reducible refine Below.setCell ?_ ?_ _;case refine_2=>simp))))).mono ?_
     rintro e w' ⟨rfl,⟨m2,rfl⟩⟩
     go_wp2_with fail
     go_quiet ((go_at_call 167;exact quiet_sum (HI.out _)))
     go_wp2_with fail
     refine (HLG.out _ (HC.out.below (by repeat (first|(with_reducible exact Below.refl _ _)|(with_reducible apply below_alloc)|(with_reducible apply pw_below_drewN)|(with_reducible refine Below.setCell ?_ ?_ _;case refine_2=>simp)))) (HR.out.below (by repeat (first|(with_reducible exact Below.refl _ _)|(with_reducible apply below_alloc)|(with_reducible apply pw_below_drewN)|(with_reducible refine Below.setCell ?_ ?_ _;case refine_2=>simp))))).mono ?_
     rintro e w2 ⟨rfl,hb2⟩
     have bR:w2.heap[w.heap.size]? =some (Obj.cells #[.int .i64 0,.int .i64 0,.int .i64 0] 129 (0,0)):=blk_below (blk_drewN (blk_alloc (blk_new _ _) _) _) hb2
     have bP:w2.heap[w.heap.size+1]? =some (Obj.cells #[.int .i64 0,.int .i64 at_,.int .i64 0] 129 (0,0)):=blk_below (blk_drewN (by have h:=blk_new (w.alloc (Obj.cells #[.int .i64 0,.int .i64 0,.int .i64 0] 129 (0,0))) (Obj.cells #[.int .i64 0,.int .i64 at_,.int .i64 0] 129 (0,0));rwa [World.size_alloc] at h) _) hb2
     have HB2:Hid (Below w.heap.size w w2):=Lib.hid ((by repeat (first|(with_reducible exact Below.refl _ _)|(with_reducible apply below_alloc)|(with_reducible apply pw_below_drewN)|(with_reducible refine Below.setCell ?_ ?_ _;case refine_2=>simp)):Below w.heap.size w _).trans (hb2.mono (by simp<;>omega)))
     clear hb2
     have q0:w2.cell? ⟨w.heap.size+1,0,none⟩=some (.int .i64 0):=blk_cell bP 0
     have fq0:w2.frozen? ⟨w.heap.size+1,0,none⟩=false:=blk_frozen bP 0
     have q1:w2.cell? ⟨w.heap.size+1,1,none⟩=some (.int .i64 at_):=blk_cell bP 1
     have fq1:w2.frozen? ⟨w.heap.size+1,1,none⟩=false:=blk_frozen bP 1
     have q2:w2.cell? ⟨w.heap.size+1,2,none⟩=some (.int .i64 0):=blk_cell bP 2
     have fq2:w2.frozen? ⟨w.heap.size+1,2,none⟩=false:=blk_frozen bP 2
     have r0:w2.cell? ⟨w.heap.size,0,none⟩=some (.int .i64 0):=blk_cell bR 0
     have fr0:w2.frozen? ⟨w.heap.size,0,none⟩=false:=blk_frozen bR 0
     have r1:w2.cell? ⟨w.heap.size,1,none⟩=some (.int .i64 0):=blk_cell bR 1
     have fr1:w2.frozen? ⟨w.heap.size,1,none⟩=false:=blk_frozen bR 1
     have r2:w2.cell? ⟨w.heap.size,2,none⟩=some (.int .i64 0):=blk_cell bR 2
     have fr2:w2.frozen? ⟨w.heap.size,2,none⟩=false:=blk_frozen bR 2
     have bP3:((w2.setCell ⟨w.heap.size+1,0,none⟩ (.int .i64 (k:Int))).setCell ⟨w.heap.size+1,2,none⟩ (.int .i64 (n:Int))).heap[w.heap.size+1]? =some (Obj.cells #[.int .i64 k,.int .i64 at_,.int .i64 n] 129 (0,0)):=blk_set (blk_set bP 0 _) 2 _
     have bR3:((w2.setCell ⟨w.heap.size+1,0,none⟩ (.int .i64 (k:Int))).setCell ⟨w.heap.size+1,2,none⟩ (.int .i64 (n:Int))).heap[w.heap.size]? =some (Obj.cells #[.int .i64 0,.int .i64 0,.int .i64 0] 129 (0,0)):=blk_far (blk_far bR (by simp) _) (by simp) _
     have BP3:=Lib.hid bP3
     have BR3:=Lib.hid bR3
     clear bP bR bP3 bR3
     go_wp2_with fail
     refine (HCE.out _ (HC.out.below (by repeat (first|(with_reducible exact HB2.out)|(with_reducible apply pw_below_drewN)|(with_reducible refine Below.setCell ?_ ?_ _;case refine_2=>simp)))) (HE.out.below (by repeat (first|(with_reducible exact HB2.out)|(with_reducible apply pw_below_drewN)|(with_reducible refine Below.setCell ?_ ?_ _;case refine_2=>simp))))).mono ?_
     rintro e w4 ⟨rfl,hb4⟩
     have bP4:=blk_below BP3.out hb4
     have bR4:=blk_below BR3.out hb4
     have HB4:Hid (Below w.heap.size w w4):=Lib.hid ((by repeat (first|(with_reducible exact HB2.out)|(with_reducible apply pw_below_drewN)|(with_reducible refine Below.setCell ?_ ?_ _;case refine_2=>simp)):Below w.heap.size w ((w2.setCell ⟨w.heap.size+1,0,none⟩ (.int .i64 (k:Int))).setCell ⟨w.heap.size+1,2,none⟩ (.int .i64 (n:Int)))).trans (hb4.mono (by have:=HB2.out.size;simpa using this)))
     clear hb4
     clear q0 fq0 r0 fr0 q1 fq1 r1 fr1 q2 fq2 r2 fr2
     have q0:w4.cell? ⟨w.heap.size+1,0,none⟩=some (.int .i64 k):=blk_cell bP4 0
     have fq0:w4.frozen? ⟨w.heap.size+1,0,none⟩=false:=blk_frozen bP4 0
     have q1:w4.cell? ⟨w.heap.size+1,1,none⟩=some (.int .i64 at_):=blk_cell bP4 1
     have fq1:w4.frozen? ⟨w.heap.size+1,1,none⟩=false:=blk_frozen bP4 1
     have q2:w4.cell? ⟨w.heap.size+1,2,none⟩=some (.int .i64 n):=blk_cell bP4 2
     have fq2:w4.frozen? ⟨w.heap.size+1,2,none⟩=false:=blk_frozen bP4 2
     have r0:w4.cell? ⟨w.heap.size,0,none⟩=some (.int .i64 0):=blk_cell bR4 0
     have fr0:w4.frozen? ⟨w.heap.size,0,none⟩=false:=blk_frozen bR4 0
     have r1:w4.cell? ⟨w.heap.size,1,none⟩=some (.int .i64 0):=blk_cell bR4 1
     have fr1:w4.frozen? ⟨w.heap.size,1,none⟩=false:=blk_frozen bR4 1
     have r2:w4.cell? ⟨w.heap.size,2,none⟩=some (.int .i64 0):=blk_cell bR4 2
     have fr2:w4.frozen? ⟨w.heap.size,2,none⟩=false:=blk_frozen bR4 2
     clear bP4 bR4
     go_wp2_with fail
     refine bodyPost_ret (v:=.agg #[.int .i64 k,.int .i64 at_,.int .i64 n]) (by simp [results,Tryz.results170,go_sem, *]) rfl ⟨by rw [hE.out];rfl,by repeat (first|(with_reducible exact HB4.out)|(with_reducible apply pw_below_drewN)|(with_reducible refine Below.setCell ?_ ?_ _;case refine_2=>simp))⟩
    ·have hE:Hid (next op L=.error er):=Lib.hid (hres3.out.trans (if_neg h0))
     have HCE:Hid (∀(W:World),Cut W b tb text at_ lk la ll→Env W→Calls Tryz.prog 184 #[.pointer (some ⟨b,0,none⟩),.int .i64 (k:Int),.int .i64 (n:Int)] W fun e w'=>e=.panicked [{v:=wrongV at_ er,recovered:=false}]∧Below W.heap.size W w'):=Lib.hid (fun W h1 h2=>(HCK.out W h1 h2).mono fun e w' h=>⟨h.1.trans (if_neg h0),h.2⟩)
     clear hres3 HCK h0
     go_enter Tryz.func170,Tryz.ntmps170
     go_wp2_with fail
     refine (starts_at HV1 hs hle (HC.out.below (by repeat (first|(with_reducible exact Below.refl _ _)|(with_reducible apply below_alloc)|(with_reducible apply pw_below_drewN)|(with_reducible refine Below.setCell ?_ ?_ _;case refine_2=>simp))))).mono ?_
     rintro e w' ⟨rfl,⟨m1,rfl⟩⟩
     go_wp2_with fail
     refine (starts_at HV2 hs hle (HC.out.below (by repeat (first|(with_reducible exact Below.refl _ _)|(with_reducible apply below_alloc)|(with_reducible apply pw_below_drewN)|(with_reducible refine Below.setCell ?_ ?_ _;case refine_2=>simp))))).mono ?_
     rintro e w' ⟨rfl,⟨m2,rfl⟩⟩
     go_wp2_with fail
     go_quiet ((go_at_call 167;exact quiet_sum (HI.out _)))
     go_wp2_with fail
     refine (HLG.out _ (HC.out.below (by repeat (first|(with_reducible exact Below.refl _ _)|(with_reducible apply below_alloc)|(with_reducible apply pw_below_drewN)|(with_reducible refine Below.setCell ?_ ?_ _;case refine_2=>simp)))) (HR.out.below (by repeat (first|(with_reducible exact Below.refl _ _)|(with_reducible apply below_alloc)|(with_reducible apply pw_below_drewN)|(with_reducible refine Below.setCell ?_ ?_ _;case refine_2=>simp))))).mono ?_
     rintro e w2 ⟨rfl,hb2⟩
     have bR:w2.heap[w.heap.size]? =some (Obj.cells #[.int .i64 0,.int .i64 0,.int .i64 0] 129 (0,0)):=blk_below (blk_drewN (blk_alloc (blk_new _ _) _) _) hb2
     have bP:w2.heap[w.heap.size+1]? =some (Obj.cells #[.int .i64 0,.int .i64 at_,.int .i64 0] 129 (0,0)):=blk_below (blk_drewN (by have h:=blk_new (w.alloc (Obj.cells #[.int .i64 0,.int .i64 0,.int .i64 0] 129 (0,0))) (Obj.cells #[.int .i64 0,.int .i64 at_,.int .i64 0] 129 (0,0));rwa [World.size_alloc] at h) _) hb2
     have HB2:Hid (Below w.heap.size w w2):=Lib.hid ((by repeat (first|(with_reducible exact Below.refl _ _)|(with_reducible apply below_alloc)|(with_reducible apply pw_below_drewN)|(with_reducible refine Below.setCell ?_ ?_ _;case refine_2=>simp)):Below w.heap.size w _).trans (hb2.mono (by simp<;>omega)))
     clear hb2
     have q0:w2.cell? ⟨w.heap.size+1,0,none⟩=some (.int .i64 0):=blk_cell bP 0
     have fq0:w2.frozen? ⟨w.heap.size+1,0,none⟩=false:=blk_frozen bP 0
     have q1:w2.cell? ⟨w.heap.size+1,1,none⟩=some (.int .i64 at_):=blk_cell bP 1
     have fq1:w2.frozen? ⟨w.heap.size+1,1,none⟩=false:=blk_frozen bP 1
     have q2:w2.cell? ⟨w.heap.size+1,2,none⟩=some (.int .i64 0):=blk_cell bP 2
     have fq2:w2.frozen? ⟨w.heap.size+1,2,none⟩=false:=blk_frozen bP 2
     have r0:w2.cell? ⟨w.heap.size,0,none⟩=some (.int .i64 0):=blk_cell bR 0
     have fr0:w2.frozen? ⟨w.heap.size,0,none⟩=false:=blk_frozen bR 0
     have r1:w2.cell? ⟨w.heap.size,1,none⟩=some (.int .i64 0):=blk_cell bR 1
     have fr1:w2.frozen? ⟨w.heap.size,1,none⟩=false:=blk_frozen bR 1
     have r2:w2.cell? ⟨w.heap.size,2,none⟩=some (.int .i64 0):=blk_cell bR 2
     have fr2:w2.frozen? ⟨w.heap.size,2,none⟩=false:=blk_frozen bR 2
     have bP3:((w2.setCell ⟨w.heap.size+1,0,none⟩ (.int .i64 (k:Int))).setCell ⟨w.heap.size+1,2,none⟩ (.int .i64 (n:Int))).heap[w.heap.size+1]? =some (Obj.cells #[.int .i64 k,.int .i64 at_,.int .i64 n] 129 (0,0)):=blk_set (blk_set bP 0 _) 2 _
     have bR3:((w2.setCell ⟨w.heap.size+1,0,none⟩ (.int .i64 (k:Int))).setCell ⟨w.heap.size+1,2,none⟩ (.int .i64 (n:Int))).heap[w.heap.size]? =some (Obj.cells #[.int .i64 0,.int .i64 0,.int .i64 0] 129 (0,0)):=blk_far (blk_far bR (by simp) _) (by simp) _
     have BP3:=Lib.hid bP3
     have BR3:=Lib.hid bR3
     clear bP bR bP3 bR3
     go_wp2_with fail
     refine (HCE.out _ (HC.out.below (by repeat (first|(with_reducible exact HB2.out)|(with_reducible apply pw_below_drewN)|(with_reducible refine Below.setCell ?_ ?_ _;case refine_2=>simp)))) (HE.out.below (by repeat (first|(with_reducible exact HB2.out)|(with_reducible apply pw_below_drewN)|(with_reducible refine Below.setCell ?_ ?_ _;case refine_2=>simp))))).mono ?_
     rintro e w4 ⟨rfl,hb4⟩
     have HB4:Hid (Below w.heap.size w w4):=Lib.hid ((by repeat (first|(with_reducible exact HB2.out)|(with_reducible apply pw_below_drewN)|(with_reducible refine Below.setCell ?_ ?_ _;case refine_2=>simp)):Below w.heap.size w ((w2.setCell ⟨w.heap.size+1,0,none⟩ (.int .i64 (k:Int))).setCell ⟨w.heap.size+1,2,none⟩ (.int .i64 (n:Int)))).trans (hb4.mono (by have:=HB2.out.size;simpa using this)))
     clear hb4
     go_wp2_with fail
     exact ⟨rfl,by rw [hE.out];rfl,HB4.out⟩
   ·have hii:0≤i:=of_decide_eq_true hdec
    clear hdec
    obtain ⟨N,hN⟩: ∃N,allN cBlank (text.data.toList.drop at_)=N:=⟨_,rfl⟩
    have hE:Hid (next op L=.ok (7,N)):=Lib.hid (by rw [hres2.out,←hN,HL.out];rfl)
    have HN:Hid (allN cBlank (text.data.toList.drop at_)=N):=Lib.hid hN
    clear hres2 hN hv HR HE
    go_enter Tryz.func170,Tryz.ntmps170
    go_wp2_with fail
    refine (starts_at HV1 hs hle (HC.out.below (by repeat (first|(with_reducible exact Below.refl _ _)|(with_reducible apply below_alloc)|(with_reducible apply pw_below_drewN)|(with_reducible refine Below.setCell ?_ ?_ _;case refine_2=>simp))))).mono ?_
    rintro e w' ⟨rfl,⟨m1,rfl⟩⟩
    go_wp2_with fail
    refine (starts_at HV2 hs hle (HC.out.below (by repeat (first|(with_reducible exact Below.refl _ _)|(with_reducible apply below_alloc)|(with_reducible apply pw_below_drewN)|(with_reducible refine Below.setCell ?_ ?_ _;case refine_2=>simp))))).mono ?_
    rintro e w' ⟨rfl,⟨m2,rfl⟩⟩
    go_wp2_with fail
    go_quiet ((go_at_call 167;exact quiet_sum (HI.out _)))
    clear HI
    go_wp2_with fail
    go_loopg [] (text.size-at_) (fun gk wr=> ∃j:Nat,gk=text.size-at_-j∧at_+j≤text.size∧Hid (allN cBlank (text.data.toList.drop (at_+j))+j=N)∧Hid (wr.heap[w.heap.size]? =some (Obj.cells #[.int .i64 0,.int .i64 0,.int .i64 0] 129 (0,0)))∧Hid (wr.heap[w.heap.size+1]? =some (Obj.cells #[.int .i64 7,.int .i64 at_,.int .i64 j] 129 (0,0)))∧Hid (Below w.heap.size w wr))
    case atStart=>
     refine ⟨0,rfl,by omega,Lib.hid (by simpa using HN.out),Lib.hid ?_,Lib.hid ?_,Lib.hid (by repeat (first|(with_reducible exact HB.out)|(with_reducible exact Below.refl _ _)|(with_reducible apply below_alloc)|(with_reducible apply pw_below_drewN)|(with_reducible refine Below.setCell ?_ ?_ _;case refine_2=>simp)))⟩
     ·exact blk_far (blk_drewN (blk_alloc (blk_new _ _) _) _) (by simp) _
     ·have h:=blk_new (w.alloc (Obj.cells #[.int .i64 0,.int .i64 0,.int .i64 0] 129 (0,0))) (Obj.cells #[.int .i64 0,.int .i64 at_,.int .i64 0] 129 (0,0))
      rw [World.size_alloc] at h
      exact blk_set (blk_drewN h _) 0 _
    case round=>
     obtain ⟨j,rfl,hj,HJ,BR,BP,HB⟩:=hrel
     have q0:wr.cell? ⟨w.heap.size+1,0,none⟩=some (.int .i64 7):=blk_cell BP.out 0
     have fq0:wr.frozen? ⟨w.heap.size+1,0,none⟩=false:=blk_frozen BP.out 0
     have q1:wr.cell? ⟨w.heap.size+1,1,none⟩=some (.int .i64 at_):=blk_cell BP.out 1
     have fq1:wr.frozen? ⟨w.heap.size+1,1,none⟩=false:=blk_frozen BP.out 1
     have q2:wr.cell? ⟨w.heap.size+1,2,none⟩=some (.int .i64 j):=blk_cell BP.out 2
     have fq2:wr.frozen? ⟨w.heap.size+1,2,none⟩=false:=blk_frozen BP.out 2
     have r0:wr.cell? ⟨w.heap.size,0,none⟩=some (.int .i64 0):=blk_cell BR.out 0
     have fr0:wr.frozen? ⟨w.heap.size,0,none⟩=false:=blk_frozen BR.out 0
     have r1:wr.cell? ⟨w.heap.size,1,none⟩=some (.int .i64 0):=blk_cell BR.out 1
     have fr1:wr.frozen? ⟨w.heap.size,1,none⟩=false:=blk_frozen BR.out 1
     have r2:wr.cell? ⟨w.heap.size,2,none⟩=some (.int .i64 0):=blk_cell BR.out 2
     have fr2:wr.frozen? ⟨w.heap.size,2,none⟩=false:=blk_frozen BR.out 2
     obtain ⟨d0,d1,dt,d3,d4,d5⟩:=HC.out.below HB.out
     clear dt d3 d4 d5 c0 c1
     have hbr:b<wr.heap.size:=World.block_lt_of_cell? wr ⟨b,0,none⟩ d0
     have hsub:IntKind.i64.wrap ((text.size:Int)-at_)=(text.size:Int)-at_:=IntWalk.i64_in _ (by omega)
     by_cases hlt:at_+j<text.size
     ·have hdj:decide ((j:Int)<(text.size:Int)-at_)=true:=decide_eq_true (by omega)
      obtain ⟨q,hq⟩: ∃q,q=at_+j:=⟨_,rfl⟩
      have hqs:q<text.size:=by omega
      have hsum:IntKind.i64.wrap ((at_:Int)+(j:Int))=(q:Int):=(IntWalk.i64_in _ (by omega)).trans (by rw [hq];simp)
      have hq0:(0:Int)≤q:=by omega
      have hq1:(q:Int)<text.size:=by omega
      obtain ⟨i2,hi2⟩: ∃i2:Int,Lib.indexByte blankSet text[q]=i2:=⟨_,rfl⟩
      have hdec:decide (0≤i2)=cBlank text[q].toNat:=by rw [←hi2,in_index,←cBlank_eq]
      have HI:=Lib.hid (fun (w:World)=>Tryz.strings_IndexByte ⟨#[32,9,13,10]⟩ (text[q].toNat:Int) w)
      rw [hset.out,show ((text[q].toNat:Int).toNat.toUInt8)=text[q] from by simp,hi2] at HI
      have hj2:Hid ((if cBlank text[q].toNat=true then allN cBlank (text.data.toList.drop (q+1))+1 else 0)+j=N):=Lib.hid (by rw [←HJ.out,←hq,drop_cons text q hqs];rfl)
      clear hi2
      obtain ⟨vb,hvb⟩: ∃vb,cBlank text[q].toNat=vb:=⟨_,rfl⟩
      rw [hvb] at hdec hj2
      clear hvb HJ
      have HQ:=Lib.hid hq
      clear hq
      cases vb
      ·go_wp2_with fail
       go_quiet ((go_at_call 167;exact Calls.quiet_of_same (HI.out _)))
       go_wp2_with fail
       refine bodyPost_ret (v:=.agg #[.int .i64 7,.int .i64 at_,.int .i64 j]) (by simp [results,Tryz.results170,go_sem, *]) rfl ⟨by rw [hE.out,←hj2.out,if_neg (by simp),Nat.zero_add];rfl,by repeat (first|(with_reducible exact HB.out)|(with_reducible exact Below.refl _ _)|(with_reducible apply below_alloc)|(with_reducible apply pw_below_drewN)|(with_reducible refine Below.setCell ?_ ?_ _;case refine_2=>simp))⟩
      ·go_wp2_with fail
       go_quiet ((go_at_call 167;exact Calls.quiet_of_same (HI.out _)))
       go_wp2_with fail
       go_roundg (text.size-at_-(j+1))
       case measure=>have:=HQ.out;omega
       case rel=>exact ⟨j+1,rfl,by have:=HQ.out;omega,Lib.hid (by rw [←hj2.out,HQ.out,Nat.add_assoc at_ j 1];simp<;>omega),Lib.hid (blk_far (blk_drewN BR.out _) (by simp) _),Lib.hid (blk_set (blk_drewN BP.out _) 2 _),Lib.hid (by repeat (first|(with_reducible exact HB.out)|(with_reducible exact Below.refl _ _)|(with_reducible apply below_alloc)|(with_reducible apply pw_below_drewN)|(with_reducible refine Below.setCell ?_ ?_ _;case refine_2=>simp)))⟩
     ·have hdj:decide ((j:Int)<(text.size:Int)-at_)=false:=decide_eq_false (by omega)
      go_wp2_with fail
      go_quiet (fail)
      go_wp2_with fail
      refine bodyPost_ret (v:=.agg #[.int .i64 7,.int .i64 at_,.int .i64 j]) (by simp [results,Tryz.results170,go_sem, *]) rfl ⟨by rw [hE.out,←HJ.out,show at_+j=text.size from by omega,drop_end,show allN cBlank []=0 from rfl,Nat.zero_add];rfl,by repeat (first|(with_reducible exact HB.out)|(with_reducible exact Below.refl _ _)|(with_reducible apply below_alloc)|(with_reducible apply pw_below_drewN)|(with_reducible refine Below.setCell ?_ ?_ _;case refine_2=>simp))⟩
  ·cases cm with
   |ok n=>
    have hE:Hid (next op L=.ok (8,n)):=Lib.hid (by rw [hres.out];rfl)
    have HCN:Hid (∀(W:World),Cut W b tb text at_ lk la ll→Calls Tryz.prog 182 #[.pointer (some ⟨b,0,none⟩)] W fun e w'=>e=.returned (.int .i64 (n:Int))∧Drawn0 W w'):=Lib.hid HCM.out
    clear hres HCM
    go_enter Tryz.func170,Tryz.ntmps170
    go_wp2_with fail
    refine (starts_at HV1 hs hle (HC.out.below (by repeat (first|(with_reducible exact Below.refl _ _)|(with_reducible apply below_alloc)|apply pw_below_drewN)))).mono ?_
    rintro e w' ⟨rfl,⟨m1,rfl⟩⟩
    go_wp2_with fail
    refine (starts_at HV2 hs hle (HC.out.below (by repeat (first|(with_reducible exact Below.refl _ _)|(with_reducible apply below_alloc)|apply pw_below_drewN)))).mono ?_
    rintro e w' ⟨rfl,⟨m2,rfl⟩⟩
    go_wp2_with fail
    refine (HCN.out _ (HC.out.below (by repeat (first|(with_reducible exact Below.refl _ _)|(with_reducible apply below_alloc)|apply pw_below_drewN)))).mono ?_
    rintro e w' ⟨rfl,⟨m3,rfl⟩⟩
    go_wp2_with fail
    refine bodyPost_ret (v:=.agg #[.int .i64 8,.int .i64 at_,.int .i64 n]) (by simp [results,Tryz.results170,go_sem]) rfl ⟨by rw [hE.out];rfl,by repeat (first|(with_reducible exact Below.refl _ _)|(with_reducible apply below_alloc)|(with_reducible apply pw_below_drewN)|(with_reducible refine Below.setCell ?_ ?_ _;case refine_2=>simp))⟩
   |error er=>
    have hE:Hid (next op L=.error er):=Lib.hid (by rw [hres.out];rfl)
    have HCN:Hid (∀(W:World),Cut W b tb text at_ lk la ll→Calls Tryz.prog 182 #[.pointer (some ⟨b,0,none⟩)] W fun e w'=>e=.panicked [{v:=wrongV at_ er,recovered:=false}]∧Drawn0 W w'):=Lib.hid HCM.out
    clear hres HCM
    go_enter Tryz.func170,Tryz.ntmps170
    go_wp2_with fail
    refine (starts_at HV1 hs hle (HC.out.below (by repeat (first|(with_reducible exact Below.refl _ _)|(with_reducible apply below_alloc)|apply pw_below_drewN)))).mono ?_
    rintro e w' ⟨rfl,⟨m1,rfl⟩⟩
    go_wp2_with fail
    refine (starts_at HV2 hs hle (HC.out.below (by repeat (first|(with_reducible exact Below.refl _ _)|(with_reducible apply below_alloc)|apply pw_below_drewN)))).mono ?_
    rintro e w' ⟨rfl,⟨m2,rfl⟩⟩
    go_wp2_with fail
    refine (HCN.out _ (HC.out.below (by repeat (first|(with_reducible exact Below.refl _ _)|(with_reducible apply below_alloc)|apply pw_below_drewN)))).mono ?_
    rintro e w' ⟨rfl,⟨m3,rfl⟩⟩
    go_wp2_with fail
    exact ⟨rfl,by rw [hE.out];rfl,by repeat (first|(with_reducible exact Below.refl _ _)|(with_reducible apply below_alloc)|(with_reducible apply pw_below_drewN)|(with_reducible refine Below.setCell ?_ ?_ _;case refine_2=>simp))⟩
 ·cases cm with
  |ok n=>
   have hE:Hid (next op L=.ok (8,n)):=Lib.hid (by rw [hres.out];rfl)
   have HCN:Hid (∀(W:World),Cut W b tb text at_ lk la ll→Calls Tryz.prog 182 #[.pointer (some ⟨b,0,none⟩)] W fun e w'=>e=.returned (.int .i64 (n:Int))∧Drawn0 W w'):=Lib.hid HCM.out
   clear hres HCM
   go_enter Tryz.func170,Tryz.ntmps170
   go_wp2_with fail
   refine (starts_at HV1 hs hle (HC.out.below (by repeat (first|(with_reducible exact Below.refl _ _)|(with_reducible apply below_alloc)|apply pw_below_drewN)))).mono ?_
   rintro e w' ⟨rfl,⟨m1,rfl⟩⟩
   go_wp2_with fail
   refine (HCN.out _ (HC.out.below (by repeat (first|(with_reducible exact Below.refl _ _)|(with_reducible apply below_alloc)|apply pw_below_drewN)))).mono ?_
   rintro e w' ⟨rfl,⟨m3,rfl⟩⟩
   go_wp2_with fail
   refine bodyPost_ret (v:=.agg #[.int .i64 8,.int .i64 at_,.int .i64 n]) (by simp [results,Tryz.results170,go_sem]) rfl ⟨by rw [hE.out];rfl,by repeat (first|(with_reducible exact Below.refl _ _)|(with_reducible apply below_alloc)|(with_reducible apply pw_below_drewN)|(with_reducible refine Below.setCell ?_ ?_ _;case refine_2=>simp))⟩
  |error er=>
   have hE:Hid (next op L=.error er):=Lib.hid (by rw [hres.out];rfl)
   have HCN:Hid (∀(W:World),Cut W b tb text at_ lk la ll→Calls Tryz.prog 182 #[.pointer (some ⟨b,0,none⟩)] W fun e w'=>e=.panicked [{v:=wrongV at_ er,recovered:=false}]∧Drawn0 W w'):=Lib.hid HCM.out
   clear hres HCM
   go_enter Tryz.func170,Tryz.ntmps170
   go_wp2_with fail
   refine (starts_at HV1 hs hle (HC.out.below (by repeat (first|(with_reducible exact Below.refl _ _)|(with_reducible apply below_alloc)|apply pw_below_drewN)))).mono ?_
   rintro e w' ⟨rfl,⟨m1,rfl⟩⟩
   go_wp2_with fail
   refine (HCN.out _ (HC.out.below (by repeat (first|(with_reducible exact Below.refl _ _)|(with_reducible apply below_alloc)|apply pw_below_drewN)))).mono ?_
   rintro e w' ⟨rfl,⟨m3,rfl⟩⟩
   go_wp2_with fail
   exact ⟨rfl,by rw [hE.out];rfl,by repeat (first|(with_reducible exact Below.refl _ _)|(with_reducible apply below_alloc)|(with_reducible apply pw_below_drewN)|(with_reducible refine Below.setCell ?_ ?_ _;case refine_2=>simp))⟩
end Go.Proofs.YtipnlgmeonepfaaGreatDoor.Lx
