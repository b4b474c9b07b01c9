/- The iterator over the pieces: for every loop body that keeps its word. -/
import Derived.RangeFuncNested
import Derived.RangeFuncBound
import Derived.RangeFuncCalls
import Derived.RangeFuncLeaves
import Derived.RangeFuncRecord
import Derived.RangeFuncSeq
import Derived.Shelf.Abstract
import Derived.Shelf.RegionOpen
import Derived.WalkKit
import Derived.OwnWalkIn
import Derived.TacticsInMore
import Derived.LoopNIn
import Derived.LoopIn
import Derived.Test.YtipnlgmeonepfaaGreatDoorLxNext
import Derived.Test.YtipnlgmeonepfaaGreatDoorLxBounds
import Derived.BigQuiet
import Derived.BigRegion
import Derived.BigRegionIn
import Derived.Sort.LoopGhostIn
import Derived.Sort.QuietIn
set_option linter.unusedVariables false
set_option linter.unusedSimpArgs false
namespace Go.Proofs.YtipnlgmeonepfaaGreatDoor.Lx
open Go.RowKit Go.Proofs.YtipnlgmeonepfaaGreatDoorW.PrintWords
attribute [local go_sem] Oper.semAt_some

/-- All but the blocks of S, and what is new since, lies as it lay. -/
structure Kp (S:Nat→Prop) (w W:World):Prop where
 os:W.os=w.os
 tape:W.tape=w.tape
 output:W.output=w.output
 size:w.heap.size≤W.heap.size
 block: ∀k,k<w.heap.size→ ¬S k→W.heap[k]? =w.heap[k]?
namespace Kp
variable {S S':Nat→Prop} {w W W2:World} {B:Nat}
theorem refl (S:Nat→Prop) (w:World):Kp S w w:=⟨rfl,rfl,rfl,Nat.le_refl _,fun _ _ _=>rfl⟩
theorem of_below (h:Below w.heap.size w W) (S:Nat→Prop):Kp S w W:=⟨h.os,h.tape,h.output,h.size,fun k hk _=>h.block k hk⟩
theorem trans (h:Kp S w W) (k:Kp S W W2):Kp S w W2:=
 ⟨k.os.trans h.os,k.tape.trans h.tape,k.output.trans h.output,Nat.le_trans h.size k.size,fun i hi hs=>(k.block i (Nat.lt_of_lt_of_le hi h.size) hs).trans (h.block i hi hs)⟩
theorem mono (h:Kp S w W) (hs: ∀k,k<w.heap.size→S k→S' k):Kp S' w W:=⟨h.os,h.tape,h.output,h.size,fun k hk hn=>h.block k hk (fun h'=>hn (hs k hk h'))⟩
theorem below_ (h:Kp S w W) (hb:Below W.heap.size W W2):Kp S w W2:=h.trans (of_below hb S)
theorem alloc (h:Kp S w W) (o:Obj):Kp S w (W.alloc o):=h.below_ (below_alloc (Below.refl _ _) o)
theorem drewN (h:Kp S w W) (n:Nat):Kp S w (W.drewN n):=⟨h.os,h.tape,h.output,h.size,h.block⟩
theorem drew (h:Kp S w W):Kp S w W.drew:=⟨h.os,h.tape,h.output,h.size,h.block⟩
theorem setCell (h:Kp S w W) {p:Addr} (hp:S p.block∨w.heap.size≤p.block) (u:Value):Kp S w (W.setCell p u):=
 ⟨h.os,h.tape,h.output,by simpa using h.size,fun k hk hn=>(Below.heap_setCell W p u k (by rintro rfl;rcases hp with hp|hp;exact hn hp;omega)).trans (h.block k hk hn)⟩
theorem putObj (h:Kp S w W) {r:Nat} (hp:S r∨w.heap.size≤r) (o:Obj):Kp S w (W.putObj r o):=
 ⟨h.os,h.tape,h.output,by simpa using h.size,fun k hk hn=>(World.putObj_heap_other (by rintro rfl;rcases hp with hp|hp;exact hn hp;omega)).trans (h.block k hk hn)⟩
theorem below (hB:Below B w W) (h:Kp S W W2) (hs: ∀k,S k→B≤k) (hle:B≤W.heap.size):Below B w W2:=
 ⟨h.os.trans hB.os,h.tape.trans hB.tape,h.output.trans hB.output,Nat.le_trans hB.size h.size,fun k hk=>(h.block k (Nat.lt_of_lt_of_le hk hle) (fun h'=>by have:=hs k h';omega)).trans (hB.block k hk)⟩
theorem blk (h:Kp S w W) {k:Nat} {o:Obj} (hk:w.heap[k]? =some o) (hn: ¬S k):W.heap[k]? =some o:=(h.block k (blk_lt hk) hn).trans hk
theorem cell (h:Kp S w W) {a:Addr} {v:Value} (hc:w.cell? a=some v) (hn: ¬S a.block):W.cell? a=some v:=by
 have:=h.block a.block (World.block_lt_of_cell? w a hc) hn
 simpa [World.cell?,this] using hc
theorem one (w:World) (b i:Nat) (u:Value):Kp (fun k=>k=b) w (w.setCell ⟨b,i,none⟩ u):=Kp.setCell (S:=fun k=>k=b) (Kp.refl _ _) (.inl rfl) _
end Kp

def pieceV (x:Piece):Value:=.agg #[.int .i64 x.kind,.int .i64 x.at_,.int .i64 x.len]
/-- The cutter's block, and its table. -/
structure CutB (W:World) (b tb:Nat) (text:ByteArray) (at_ lk la ll:Nat):Prop where
 blk:W.heap[b]? =some (.cells #[.string text,.int .i64 at_,.pointer (some ⟨tb,0,none⟩),.int .i64 lk,.int .i64 la,.int .i64 ll] 194 (0,0))
 tab:Tab W tb
theorem CutB.cut {W:World} {b tb:Nat} {text:ByteArray} {at_ lk la ll:Nat} (h:CutB W b tb text at_ lk la ll):Cut W b tb text at_ lk la ll:=
 ⟨blk_cell h.blk 0,blk_cell h.blk 1,⟨blk_cell h.blk 2,h.tab⟩,blk_cell h.blk 3,blk_cell h.blk 4,blk_cell h.blk 5⟩
theorem CutB.below {W W':World} {b tb:Nat} {text:ByteArray} {at_ lk la ll:Nat} (h:CutB W b tb text at_ lk la ll) (hb:Below W.heap.size W W'):CutB W' b tb text at_ lk la ll:=
 ⟨blk_below h.blk hb,h.tab.below hb⟩
theorem Tab.kp {W W':World} {tb:Nat} {S:Nat→Prop} (h:Tab W tb) (hk:Kp S W W') (hn: ¬S tb):Tab W' tb:=fun c x hc hx=>hk.cell (h c x hc hx) hn
theorem RL.kp {W W':World} {g:Nat} {S:Nat→Prop} (h:RL W g) (hk:Kp S W W') (hn: ¬S g):RL W' g:=fun j v hj=>hk.cell (h j v hj) hn

theorem go_ok {f:Nat} {s:List UInt8} {at_ toks k n:Nat} {op:Bool} (hs:s≠[]) (h:next op s=.ok (k,n)) (hk: ¬(k≤6∧6000<toks+1)):
  piecesGo (f+1) s at_ toks op=(piecesGo f (s.drop n) (at_+n) (if k≤6 then toks+1 else toks) (if k≤6 then operand k (s.take n) else op)).map (⟨k,at_,n⟩:: ·):=by
 cases s with
 |nil=>exact absurd rfl hs
 |cons x s=>
  show (match next op (x::s) with| .error e=>_| .ok (k,n)=>_)=_
  rw [h]
  simp only
  rw [if_neg hk]
  cases piecesGo f ((x::s).drop n) (at_+n) (if k≤6 then toks+1 else toks) (if k≤6 then operand k ((x::s).take n) else op)<;>rfl
theorem go_err {f:Nat} {s:List UInt8} {at_ toks:Nat} {e:Int} {op:Bool} (hs:s≠[]) (h:next op s=.error e):piecesGo (f+1) s at_ toks op=.error (at_,e):=by
 cases s with
 |nil=>exact absurd rfl hs
 |cons x s=>
  show (match next op (x::s) with| .error e=>_| .ok (k,n)=>_)=_
  rw [h]
theorem go_many {f:Nat} {s:List UInt8} {at_ toks k n:Nat} {op:Bool} (hs:s≠[]) (h:next op s=.ok (k,n)) (hk:k≤6∧6000<toks+1):piecesGo (f+1) s at_ toks op=.error (at_,2):=by
 cases s with
 |nil=>exact absurd rfl hs
 |cons x s=>
  show (match next op (x::s) with| .error e=>_| .ok (k,n)=>_)=_
  rw [h]
  simp only
  rw [if_pos hk]
theorem map_map_pre (r:Except (Nat×Int) (List Piece)) (pre:List Piece) (x:Piece):(r.map (x:: ·)).map (pre++ ·)=r.map ((pre++[x])++ ·):=by
 cases r<;>simp [Except.map]

/-- How the iterator ends: it has handed over all pieces, or thrown what the plain form says. -/
def IterEnd (J:List Piece→World→Prop) (r:Except (Nat×Int) (List Piece)) (e:Ending) (W:World):Prop:=
 match r with
 | .ok xs=>e=.returned (.tuple #[])∧J xs W
 | .error er=>e=.panicked [{v:=wrongV er.1 er.2,recovered:=false}]∧ ∃pre,J pre W

set_option maxHeartbeats 12800000 in
set_option maxRecDepth 100000 in
theorem iter_walk {text:ByteArray} (hs:text.size≤20000) {w:World} (HEnv:Env w) {r g cb tb pb l m:Nat} (hr:w.heap.size<r) (hrl:r<l) (J:List Piece→World→Prop)
  (hJ: ∀pre W W',J pre W→Kp (fun k=>k=cb) W W'→J pre W')
  (hY: ∀pre x W W',J pre W→Kp (fun k=>k=cb) W W'→Below w.heap.size w W'→g<W.heap.size→pre.length<text.size→YieldAt Fence.wide m Tryz.prog l #[pieceV x] W' fun e W2=>e=.returned (.bool true)∧J (pre++[x]) W2∧Kp (fun k=>k=w.heap.size∨k=l∨(g<k∧k<W.heap.size)) W' W2)
  (hcb:w.heap.size<cb∧cb<r) (htb:w.heap.size<tb∧tb<cb) (hpb:w.heap.size<pb∧cb<pb∧pb<r)
  {W0:World} (hg:W0.heap.size=g) (hlg:l<g) (hB0:Below w.heap.size w W0) (h0:J [] W0) (hp:W0.cell? ⟨pb,0,none⟩=some (.pointer (some ⟨cb,0,none⟩))) (hc:CutB W0 cb tb text 0 0 0 0):
  CallsIn Fence.wide (m+1) Tryz.prog 168 #[.func (.yield l) #[] #[],.pointer (some ⟨pb,0,none⟩)] W0
   fun e W'=>IterEnd J (piecesGo text.size text.data.toList 0 0 false) e W'∧Below w.heap.size w W':=by
 obtain ⟨Res,hRes⟩: ∃R,piecesGo text.size text.data.toList 0 0 false=R:=⟨_,rfl⟩
 have HR0:=Lib.hid hRes
 rw [hRes]
 clear hRes
 refine callsIn_of_wp Tryz.func168 rfl trivial ?_ rfl
 simp only [Tryz.ntmps168,List.size_toArray,List.length_cons,List.length_nil,Nat.reduceAdd,Nat.reduceSub,Array.replicate_succ,Array.replicate_zero,List.push_toArray,List.append_toArray,List.nil_append,List.cons_append]
 gi_wp2_with fail
 refine ⟨trivial,(callsIn_wide.2 (rules_walk W0)).mono ?_⟩
 rintro e w1 ⟨rfl,hR1,hb1⟩
 rw [hg] at hR1 hb1⊢
 have HJ:=Lib.hid hJ
 have HY:=Lib.hid hY
 have HE:=Lib.hid HEnv
 clear hJ hY HEnv
 have hgw:w.heap.size≤g:=by omega
 have Hp1:=Lib.hid (pw_cell_below (hg.symm▸hb1) hp)
 have Hc1:=Lib.hid (hc.below (hg.symm▸hb1))
 have HJ1:=Lib.hid (HJ.out [] W0 w1 h0 (Kp.of_below (hg.symm▸hb1) _))
 have HB1:=Lib.hid (hB0.trans (hb1.mono hgw))
 have HRL:=Lib.hid hR1
 have Hg1:=Lib.hid (hb1.size)
 clear hp hc h0 hB0 hb1 hR1
 gi_wp2_with fail
 gi_loopg [4] (text.size+1) (fun f v4 wr=> ∃(at_ lk la ll toks:Nat) (op:Bool) (pre:List Piece),v4=.int .i64 toks∧toks≤6000∧pre.length≤at_∧at_≤text.size∧text.size-at_<f∧la+ll≤text.size∧
   Hid (operand lk ((text.data.toList.drop la).take ll)=op)∧Hid (Res=(piecesGo (f-1) (text.data.toList.drop at_) at_ toks op).map (pre++ ·))∧Hid (CutB wr cb tb text at_ lk la ll)∧Hid (RL wr g)∧Hid (wr.cell? ⟨pb,0,none⟩=some (.pointer (some ⟨cb,0,none⟩)))∧Hid (J pre wr)∧Hid (Below w.heap.size w wr))
 case atStart=>exact ⟨0,0,0,0,0,false,[],rfl,by omega,by simp,by omega,by omega,by omega,Lib.hid rfl,Lib.hid (by rw [List.drop_zero,Nat.add_sub_cancel,HR0.out];cases Res<;>rfl),Hc1,HRL,Hp1,HJ1,HB1⟩
 case round=>
  obtain ⟨at_,lk,la,ll,toks,op,pre,rfl,ht,hpl,hat,hf,hll,HO,HRES,HC,HRL,HP,HJw,HB⟩:=hrel
  have hp:=HP.out
  have c0:wr.cell? ⟨cb,0,none⟩=some (.string text):=blk_cell HC.out.blk 0
  have c1:wr.cell? ⟨cb,1,none⟩=some (.int .i64 at_):=blk_cell HC.out.blk 1
  have hgr:g<wr.heap.size:=World.block_lt_of_cell? wr ⟨g,0,none⟩ (HRL.out 0 _ rfl)
  by_cases hlt:at_<text.size
  ·have hd:decide ((at_:Int)<text.size)=true:=decide_eq_true (by omega)
   have hne:text.data.toList.drop at_≠[]:=by rw [drop_cons text at_ hlt];simp
   obtain ⟨L,hL⟩: ∃L,text.data.toList.drop at_=L:=⟨_,rfl⟩
   have hlen:L.length=text.size-at_:=by rw [←hL,List.length_drop,data_length]
   obtain ⟨f,hfk⟩: ∃f,gk=f+2:=⟨gk-2,by omega⟩
   have HNX:=Lib.hid (fun (W:World) (hc:Cut W cb tb text at_ lk la ll) (hE:Env W) (hr:RL W g)=>next_walk HO hs hll hlt hc hE hr)
   rw [hL] at HNX hne HRES
   rw [hfk,show f+2-1=f+1 from rfl] at HRES
   have HL:=Lib.hid hL
   have HFK:=Lib.hid hfk
   clear hL hfk
   cases hnx:next op L with
   |error er=>
    have HRE:Hid (Res=.error (at_,er)):=Lib.hid (by rw [HRES.out,go_err hne hnx];rfl)
    have HN:Hid (∀(W:World),Cut W cb tb text at_ lk la ll→Env W→RL W g→Calls Tryz.prog 170 #[.pointer (some ⟨cb,0,none⟩),.slice (some ⟨g,0,none⟩) 6 6] W fun e w'=>e=.panicked [{v:=wrongV at_ er,recovered:=false}]∧Below W.heap.size W w'):=Lib.hid (fun W h1 h2 h3=>by have h:=HNX.out W h1 h2 h3;rw [hnx] at h;exact h)
    clear HNX HRES hnx
    gi_wp2_with fail
    gi_quiet (fail)
    gi_wp2_with fail
    refine ⟨trivial,(callsIn_wide.2 (HN.out _ (HC.out.cut.drewN _) ((HE.out.below HB.out).drewN _) (HRL.out.below (pw_below_drewN (Below.refl _ _) _)))).mono ?_⟩
    rintro e w2 ⟨rfl,hb2⟩
    gi_wp2_with fail
    refine ⟨rfl, ?_⟩
    refine ⟨?_,(by repeat (first|(with_reducible exact HB.out)|(with_reducible apply pw_below_drewN)):Below w.heap.size w _).trans (hb2.mono (HB.out.size))⟩
    rw [HRE.out]
    exact ⟨rfl,pre,HJ.out _ _ _ HJw.out ((Kp.drewN (Kp.refl _ wr) nq).below_ hb2)⟩
   |ok t=>
    obtain ⟨k,n⟩:=t
    have HN:Hid (∀(W:World),Cut W cb tb text at_ lk la ll→Env W→RL W g→Calls Tryz.prog 170 #[.pointer (some ⟨cb,0,none⟩),.slice (some ⟨g,0,none⟩) 6 6] W fun e w'=>e=.returned (.agg #[.int .i64 k,.int .i64 at_,.int .i64 n])∧Below W.heap.size W w'):=Lib.hid (fun W h1 h2 h3=>by have h:=HNX.out W h1 h2 h3;rw [hnx] at h;exact h)
    obtain ⟨hn1,hn2⟩:=next_len hne hnx
    have hn3:at_+n≤text.size:=by omega
    have HNXT:=Lib.hid hnx
    clear HNX hnx
    by_cases hk:k≤6
    ·have hki:decide ((k:Int)≤6)=true:=decide_eq_true (by omega)
     have hw1:IntKind.i64.wrap ((toks:Int)+1)=(toks:Int)+1:=IntWalk.i64_in _ (by omega)
     by_cases htk:6000<toks+1
     ·have HRE:Hid (Res=.error (at_,2)):=Lib.hid (by rw [HRES.out,go_many hne HNXT.out ⟨hk,htk⟩];rfl)
      have htki:decide ((6000:Int)<(toks:Int)+1)=true:=decide_eq_true (by omega)
      gi_wp2_with fail
      gi_quiet (fail)
      gi_wp2_with fail
      refine ⟨trivial,(callsIn_wide.2 (HN.out _ (HC.out.cut.drewN _) ((HE.out.below HB.out).drewN _) (HRL.out.below (pw_below_drewN (Below.refl _ _) _)))).mono ?_⟩
      rintro e w2 ⟨rfl,hb2⟩
      have C2:=Lib.hid ((show CutB (wr.drewN nq) cb tb text at_ lk la ll from ⟨HC.out.blk,HC.out.tab.drewN _⟩).below hb2)
      have P2:=Lib.hid (pw_cell_below hb2 (show (wr.drewN nq).cell? ⟨pb,0,none⟩=some (.pointer (some ⟨cb,0,none⟩)) from hp))
      have R2:=Lib.hid ((HRL.out.below (pw_below_drewN (Below.refl _ _) nq)).below hb2)
      have HB2:=Lib.hid ((by repeat (first|(with_reducible exact HB.out)|(with_reducible apply pw_below_drewN)):Below w.heap.size w (wr.drewN nq)).trans (hb2.mono (HB.out.size)))
      have K2:=Lib.hid ((Kp.drewN (Kp.refl (fun k=>k=cb) wr) nq).below_ hb2)
      have hcbl:cb<w2.heap.size:=blk_lt C2.out.blk
      have hpbl:pb<w2.heap.size:=World.block_lt_of_cell? w2 ⟨pb,0,none⟩ P2.out
      clear hb2 hp c0 c1
      have p2:=P2.out
      have c0:w2.cell? ⟨cb,0,none⟩=some (.string text):=blk_cell C2.out.blk 0
      have c1:w2.cell? ⟨cb,1,none⟩=some (.int .i64 at_):=blk_cell C2.out.blk 1
      gi_wp2_with fail
      refine ⟨trivial,(callsIn_wide.2 (fail_walk 2 (C2.out.cut.below (below_alloc (Below.refl _ _) _)))).mono ?_⟩
      rintro e w3 ⟨rfl,⟨m3,rfl⟩⟩
      gi_wp2_with fail
      refine ⟨rfl, ?_⟩
      refine ⟨?_,by repeat (first|(with_reducible exact HB2.out)|(with_reducible apply below_alloc)|(with_reducible apply pw_below_drewN))⟩
      rw [HRE.out]
      exact ⟨rfl,pre,HJ.out _ _ _ HJw.out ((K2.out.alloc _).drewN _)⟩
     ·have htki:decide ((6000:Int)<(toks:Int)+1)=false:=decide_eq_false (by omega)
      gi_wp2_with fail
      gi_quiet (fail)
      gi_wp2_with fail
      refine ⟨trivial,(callsIn_wide.2 (HN.out _ (HC.out.cut.drewN _) ((HE.out.below HB.out).drewN _) (HRL.out.below (pw_below_drewN (Below.refl _ _) _)))).mono ?_⟩
      rintro e w2 ⟨rfl,hb2⟩
      have C2:=Lib.hid ((show CutB (wr.drewN nq) cb tb text at_ lk la ll from ⟨HC.out.blk,HC.out.tab.drewN _⟩).below hb2)
      have P2:=Lib.hid (pw_cell_below hb2 (show (wr.drewN nq).cell? ⟨pb,0,none⟩=some (.pointer (some ⟨cb,0,none⟩)) from hp))
      have R2:=Lib.hid ((HRL.out.below (pw_below_drewN (Below.refl _ _) nq)).below hb2)
      have HB2:=Lib.hid ((by repeat (first|(with_reducible exact HB.out)|(with_reducible apply pw_below_drewN)):Below w.heap.size w (wr.drewN nq)).trans (hb2.mono (HB.out.size)))
      have K2:=Lib.hid ((Kp.drewN (Kp.refl (fun k=>k=cb) wr) nq).below_ hb2)
      have hcbl:cb<w2.heap.size:=blk_lt C2.out.blk
      have hpbl:pb<w2.heap.size:=World.block_lt_of_cell? w2 ⟨pb,0,none⟩ P2.out
      clear hb2 hp c0 c1
      have p2:=P2.out
      have c0:w2.cell? ⟨cb,0,none⟩=some (.string text):=blk_cell C2.out.blk 0
      have c1:w2.cell? ⟨cb,1,none⟩=some (.int .i64 at_):=blk_cell C2.out.blk 1
      have c3:w2.cell? ⟨cb,3,none⟩=some (.int .i64 lk):=blk_cell C2.out.blk 3
      have c4:w2.cell? ⟨cb,4,none⟩=some (.int .i64 la):=blk_cell C2.out.blk 4
      have c5:w2.cell? ⟨cb,5,none⟩=some (.int .i64 ll):=blk_cell C2.out.blk 5
      have f3:w2.frozen? ⟨cb,3,none⟩=false:=blk_frozen C2.out.blk 3
      have f4:w2.frozen? ⟨cb,4,none⟩=false:=blk_frozen C2.out.blk 4
      have f5:w2.frozen? ⟨cb,5,none⟩=false:=blk_frozen C2.out.blk 5
      gi_wp2_with fail
      -- TOKEN BEGIN
      obtain ⟨X,hX⟩: ∃X:World,(((w2.setCell ⟨cb,3,none⟩ (.int .i64 (k:Int))).setCell ⟨cb,4,none⟩ (.int .i64 (at_:Int))).setCell ⟨cb,5,none⟩ (.int .i64 (n:Int)))=X:=⟨_,rfl⟩
      have hxs:X.heap.size=w2.heap.size:=by rw [←hX];simp
      have CX:CutB X cb tb text at_ k at_ n:=⟨by rw [←hX];exact blk_set (blk_set (blk_set C2.out.blk 3 _) 4 _) 5 _,Tab.kp C2.out.tab (S:=fun k=>k=cb) (by rw [←hX];exact Kp.setCell (S:=fun k=>k=cb) (Kp.setCell (S:=fun k=>k=cb) (Kp.setCell (S:=fun k=>k=cb) (Kp.refl _ _) (.inl rfl) _) (.inl rfl) _) (.inl rfl) _) (by omega)⟩
      have KX2:Kp (fun k=>k=cb) w2 X:=by rw [←hX];exact Kp.setCell (S:=fun k=>k=cb) (Kp.setCell (S:=fun k=>k=cb) (Kp.setCell (S:=fun k=>k=cb) (Kp.refl _ _) (.inl rfl) _) (.inl rfl) _) (.inl rfl) _
      have KX:=K2.out.trans KX2
      have PX:=KX2.cell P2.out (by show¬pb=cb;omega)
      have RX:=RL.kp R2.out KX2 (by show¬g=cb;omega)
      have BX:=Kp.below HB2.out KX2 (by rintro k rfl;omega) HB2.out.size
      rw [hX]
      obtain ⟨Y,hY⟩: ∃Y:World,X.alloc (Obj.cells #[.int .i64 (k:Int),.int .i64 (at_:Int),.int .i64 (n:Int)] 129 (0,0))=Y:=⟨_,rfl⟩
      have bY:Below X.heap.size X Y:=by rw [←hY];exact below_alloc (Below.refl _ _) _
      have CY:=Lib.hid (CX.below bY)
      have QY:=Lib.hid (show Y.heap[w2.heap.size]? =some (Obj.cells #[.int .i64 (k:Int),.int .i64 (at_:Int),.int .i64 (n:Int)] 129 (0,0)) from by rw [←hY,←hxs];exact blk_new X _)
      have KY:=Lib.hid (KX.below_ bY)
      have PY:=Lib.hid (pw_cell_below bY PX)
      have RY:=Lib.hid (RX.below bY)
      have BY:=Lib.hid (BX.trans (bY.mono BX.size))
      have hsY:=KX.size
      rw [hY]
      obtain ⟨fn,tmps,assign,body,hy,hR⟩:=HY.out pre ⟨k,at_,n⟩ wr Y HJw.out KY.out BY.out hgr (by omega)
      dsimp only [pieceV] at hy
      clear hY hX CX KX KX2 PX RX BX bY c0 c1 p2
      clear c3 c4 c5 f3 f4 f5
      rw [hy]
      go_simp
      refine hR.mono ?_
      rintro e W5 ⟨rfl,hJ5,hK5⟩
      have CB5:=hK5.blk CY.out.blk (by show¬(cb=w.heap.size∨cb=l∨(g<cb∧cb<wr.heap.size));omega)
      have T5:=CY.out.tab.kp hK5 (by show¬(tb=w.heap.size∨tb=l∨(g<tb∧tb<wr.heap.size));omega)
      have P5:=hK5.cell PY.out (by show¬(pb=w.heap.size∨pb=l∨(g<pb∧pb<wr.heap.size));omega)
      have R5:=RL.kp RY.out hK5 (by show¬(g=w.heap.size∨g=l∨(g<g∧g<wr.heap.size));omega)
      have Q5:=hK5.blk QY.out (by show¬(w2.heap.size=w.heap.size∨w2.heap.size=l∨(g<w2.heap.size∧w2.heap.size<wr.heap.size));omega)
      have B5:=Kp.below BY.out hK5 (by rintro k (rfl|rfl|h)<;>omega) BY.out.size
      have a0:W5.cell? ⟨cb,1,none⟩=some (.int .i64 at_):=blk_cell CB5 1
      have a1:W5.frozen? ⟨cb,1,none⟩=false:=blk_frozen CB5 1
      have a2:W5.cell? ⟨w2.heap.size,2,none⟩=some (.int .i64 n):=blk_cell Q5 2
      have hw2:IntKind.i64.wrap ((at_:Int)+(n:Int))=((at_+n:Nat):Int):=(IntWalk.i64_in _ (by omega)).trans (by simp)
      have CB6:=Lib.hid CB5
      have T6:=Lib.hid T5
      have P6:=Lib.hid P5
      have R6:=Lib.hid R5
      have B6:=Lib.hid B5
      have J6:=Lib.hid hJ5
      clear CB5 T5 R5 Q5 B5 hJ5 hK5 hR hy
      gi_wp2_with fail
      gi_region
      gi_wp2_with fail
      gi_roundg (f+1)
      case measure=>have:=HFK.out;omega
      case rel=>exact ⟨at_+n,k,at_,n,toks+1,operand k (L.take n),pre++[⟨k,at_,n⟩],rfl,by omega,by simp;omega,by omega,by have:=HFK.out;omega,by omega,Lib.hid (by rw [HL.out]),Lib.hid (by rw [HRES.out,go_ok hne HNXT.out (by omega),map_map_pre,if_pos hk,if_pos hk,←HL.out,List.drop_drop];rfl),Lib.hid ⟨by repeat (first|apply blk_drewN|apply blk_drew|exact blk_set CB6.out 1 _),Tab.kp T6.out (S:=fun k=>k=cb) (by repeat (first|exact Kp.one _ _ _ _|apply Kp.drewN|apply Kp.drew)) (by omega)⟩,Lib.hid (RL.kp R6.out (S:=fun k=>k=cb) (by repeat (first|exact Kp.one _ _ _ _|apply Kp.drewN|apply Kp.drew)) (by omega)),Lib.hid (Kp.cell (S:=fun k=>k=cb) (by repeat (first|exact Kp.one _ _ _ _|apply Kp.drewN|apply Kp.drew)) P6.out (by show¬pb=cb;omega)),Lib.hid (HJ.out _ _ _ J6.out (by repeat (first|exact Kp.one _ _ _ _|apply Kp.drewN|apply Kp.drew))),Lib.hid (by repeat (first|(with_reducible exact B6.out)|(with_reducible apply pw_below_drewN)|(with_reducible apply below_drew)|(with_reducible refine Below.setCell ?_ ?_ _;case refine_2=>simp;omega)))⟩
      -- TOKEN END
    ·have hki:decide ((k:Int)≤6)=false:=decide_eq_false (by omega)
     gi_wp2_with fail
     gi_quiet (fail)
     gi_wp2_with fail
     refine ⟨trivial,(callsIn_wide.2 (HN.out _ (HC.out.cut.drewN _) ((HE.out.below HB.out).drewN _) (HRL.out.below (pw_below_drewN (Below.refl _ _) _)))).mono ?_⟩
     rintro e w2 ⟨rfl,hb2⟩
     have C2:=Lib.hid ((show CutB (wr.drewN nq) cb tb text at_ lk la ll from ⟨HC.out.blk,HC.out.tab.drewN _⟩).below hb2)
     have P2:=Lib.hid (pw_cell_below hb2 (show (wr.drewN nq).cell? ⟨pb,0,none⟩=some (.pointer (some ⟨cb,0,none⟩)) from hp))
     have R2:=Lib.hid ((HRL.out.below (pw_below_drewN (Below.refl _ _) nq)).below hb2)
     have HB2:=Lib.hid ((by repeat (first|(with_reducible exact HB.out)|(with_reducible apply pw_below_drewN)):Below w.heap.size w (wr.drewN nq)).trans (hb2.mono (HB.out.size)))
     have K2:=Lib.hid ((Kp.drewN (Kp.refl (fun k=>k=cb) wr) nq).below_ hb2)
     have hcbl:cb<w2.heap.size:=blk_lt C2.out.blk
     have hpbl:pb<w2.heap.size:=World.block_lt_of_cell? w2 ⟨pb,0,none⟩ P2.out
     clear hb2 hp c0 c1
     have p2:=P2.out
     have c0:w2.cell? ⟨cb,0,none⟩=some (.string text):=blk_cell C2.out.blk 0
     have c1:w2.cell? ⟨cb,1,none⟩=some (.int .i64 at_):=blk_cell C2.out.blk 1
     gi_wp2_with fail
     -- OTHER BEGIN
     obtain ⟨X,hX⟩: ∃X:World,w2=X:=⟨_,rfl⟩
     have hxs:X.heap.size=w2.heap.size:=by rw [←hX]
     have CX:CutB X cb tb text at_ lk la ll:=⟨by rw [←hX];exact C2.out.blk,Tab.kp C2.out.tab (S:=fun k=>k=cb) (by rw [←hX];exact Kp.refl _ _) (by omega)⟩
     have KX2:Kp (fun k=>k=cb) w2 X:=by rw [←hX];exact Kp.refl _ _
     have KX:=K2.out.trans KX2
     have PX:=KX2.cell P2.out (by show¬pb=cb;omega)
     have RX:=RL.kp R2.out KX2 (by show¬g=cb;omega)
     have BX:=Kp.below HB2.out KX2 (by rintro k rfl;omega) HB2.out.size
     rw [hX]
     obtain ⟨Y,hY⟩: ∃Y:World,X.alloc (Obj.cells #[.int .i64 (k:Int),.int .i64 (at_:Int),.int .i64 (n:Int)] 129 (0,0))=Y:=⟨_,rfl⟩
     have bY:Below X.heap.size X Y:=by rw [←hY];exact below_alloc (Below.refl _ _) _
     have CY:=Lib.hid (CX.below bY)
     have QY:=Lib.hid (show Y.heap[w2.heap.size]? =some (Obj.cells #[.int .i64 (k:Int),.int .i64 (at_:Int),.int .i64 (n:Int)] 129 (0,0)) from by rw [←hY,←hxs];exact blk_new X _)
     have KY:=Lib.hid (KX.below_ bY)
     have PY:=Lib.hid (pw_cell_below bY PX)
     have RY:=Lib.hid (RX.below bY)
     have BY:=Lib.hid (BX.trans (bY.mono BX.size))
     have hsY:=KX.size
     rw [hY]
     obtain ⟨fn,tmps,assign,body,hy,hR⟩:=HY.out pre ⟨k,at_,n⟩ wr Y HJw.out KY.out BY.out hgr (by omega)
     dsimp only [pieceV] at hy
     clear hY hX CX KX KX2 PX RX BX bY c0 c1 p2
     rw [hy]
     go_simp
     refine hR.mono ?_
     rintro e W5 ⟨rfl,hJ5,hK5⟩
     have CB5:=hK5.blk CY.out.blk (by show¬(cb=w.heap.size∨cb=l∨(g<cb∧cb<wr.heap.size));omega)
     have T5:=CY.out.tab.kp hK5 (by show¬(tb=w.heap.size∨tb=l∨(g<tb∧tb<wr.heap.size));omega)
     have P5:=hK5.cell PY.out (by show¬(pb=w.heap.size∨pb=l∨(g<pb∧pb<wr.heap.size));omega)
     have R5:=RL.kp RY.out hK5 (by show¬(g=w.heap.size∨g=l∨(g<g∧g<wr.heap.size));omega)
     have Q5:=hK5.blk QY.out (by show¬(w2.heap.size=w.heap.size∨w2.heap.size=l∨(g<w2.heap.size∧w2.heap.size<wr.heap.size));omega)
     have B5:=Kp.below BY.out hK5 (by rintro k (rfl|rfl|h)<;>omega) BY.out.size
     have a0:W5.cell? ⟨cb,1,none⟩=some (.int .i64 at_):=blk_cell CB5 1
     have a1:W5.frozen? ⟨cb,1,none⟩=false:=blk_frozen CB5 1
     have a2:W5.cell? ⟨w2.heap.size,2,none⟩=some (.int .i64 n):=blk_cell Q5 2
     have hw2:IntKind.i64.wrap ((at_:Int)+(n:Int))=((at_+n:Nat):Int):=(IntWalk.i64_in _ (by omega)).trans (by simp)
     have CB6:=Lib.hid CB5
     have T6:=Lib.hid T5
     have P6:=Lib.hid P5
     have R6:=Lib.hid R5
     have B6:=Lib.hid B5
     have J6:=Lib.hid hJ5
     clear CB5 T5 R5 Q5 B5 hJ5 hK5 hR hy
     gi_wp2_with fail
     gi_region
     gi_wp2_with fail
     gi_roundg (f+1)
     case measure=>have:=HFK.out;omega
     case rel=>exact ⟨at_+n,lk,la,ll,toks,op,pre++[⟨k,at_,n⟩],rfl,by omega,by simp;omega,by omega,by have:=HFK.out;omega,by omega,HO,Lib.hid (by rw [HRES.out,go_ok hne HNXT.out (by omega),map_map_pre,if_neg hk,if_neg hk,←HL.out,List.drop_drop];rfl),Lib.hid ⟨by repeat (first|apply blk_drewN|apply blk_drew|exact blk_set CB6.out 1 _),Tab.kp T6.out (S:=fun k=>k=cb) (by repeat (first|exact Kp.one _ _ _ _|apply Kp.drewN|apply Kp.drew)) (by omega)⟩,Lib.hid (RL.kp R6.out (S:=fun k=>k=cb) (by repeat (first|exact Kp.one _ _ _ _|apply Kp.drewN|apply Kp.drew)) (by omega)),Lib.hid (Kp.cell (S:=fun k=>k=cb) (by repeat (first|exact Kp.one _ _ _ _|apply Kp.drewN|apply Kp.drew)) P6.out (by show¬pb=cb;omega)),Lib.hid (HJ.out _ _ _ J6.out (by repeat (first|exact Kp.one _ _ _ _|apply Kp.drewN|apply Kp.drew))),Lib.hid (by repeat (first|(with_reducible exact B6.out)|(with_reducible apply pw_below_drewN)|(with_reducible apply below_drew)|(with_reducible refine Below.setCell ?_ ?_ _;case refine_2=>simp;omega)))⟩
     -- OTHER END
  ·have hd:decide ((at_:Int)<text.size)=false:=decide_eq_false (by omega)
   have HRE:Hid (Res=.ok pre):=Lib.hid (by rw [HRES.out,show at_=text.size from by omega,drop_end];cases gk-1<;>simp [piecesGo,Except.map])
   gi_wp2_with fail
   gi_quiet (fail)
   gi_wp2_with fail
   go_end0
   refine ⟨?_, ?_⟩
   ·rw [HRE.out]
    exact ⟨rfl,HJ.out _ _ _ HJw.out (by repeat (first|exact Kp.refl _ _|apply Kp.drewN|apply Kp.drew))⟩
   ·repeat (first|(with_reducible exact HB.out)|(with_reducible apply pw_below_drewN))
end Go.Proofs.YtipnlgmeonepfaaGreatDoor.Lx
