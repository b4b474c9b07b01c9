/- The program's Scan, walked: its tokens are those of its pieces. -/
import Derived.Test.YtipnlgmeonepfaaGreatDoorRScan
import Derived.Test.YtipnlgmeonepfaaGreatDoorLxPieces
import Derived.BigRegion
set_option linter.unusedVariables false
set_option linter.unusedSimpArgs false
namespace Go.Proofs.YtipnlgmeonepfaaGreatDoor.Ref
open Go.RowKit Go.Proofs.YtipnlgmeonepfaaGreatDoorW.PrintWords Go.Proofs.YtipnlgmeonepfaaGreatDoorW.PrintMore
attribute [local go_sem] max2_int min2_int max_two min_two max_three min_three max_four min_four
/-- What lies in memory while the tokens are collected. -/
structure SG (w W:World) (vp v:Value) (l:List Lx.Piece) (n:Nat) (cs:List Value):Prop where
 below:Below w.heap.size w W
 rows:W.ownsRow w.heap.size 129 3 vp l.length (Lx.cellsOf l)
 own:W.ownsRow w.heap.size 39 5 v n cs
theorem SG.step {w W W':World} {vp v:Value} {l:List Lx.Piece} {n:Nat} {cs:List Value} (h:SG w W vp v l n cs) (hb:Below W.heap.size W W'):SG w W' vp v l n cs:=
 ⟨h.below.trans (hb.mono h.below.size),own_move h.rows (fun k hk=>hb.block k (own_lt h.rows k hk)),own_move h.own (fun k hk=>hb.block k (own_lt h.own k hk))⟩
def Got3 (text:ByteArray) (w:World) (e:Ending) (w':World):Prop:= ∃v,e=.returned (.tuple #[v,.int .i64 (Lx.outAt text),.int .i64 (Lx.outE text)])∧w'.ownsRow w.heap.size 39 5 v ((Lx.outL text).filter isTk).length (tokCells text (Lx.outL text))∧Below w.heap.size w w'
set_option maxHeartbeats 12800000 in
set_option maxRecDepth 100000 in
theorem lscan_walk (text:ByteArray) {w:World} (hE:Lx.Env w):Calls Tryz.prog 134 #[.string text] w (Got3 text w):=by
 obtain ⟨i0,hi0,hz0,hz1,hz2⟩:=info_parts info_tok
 have HI0:=Lib.hid hi0
 have HZ0:=Lib.hid hz0
 have HZ1:=Lib.hid hz1
 have HZ2:=Lib.hid hz2
 clear hi0 hz0 hz1 hz2
 obtain ⟨l,hl⟩: ∃l,Lx.outL text=l:=⟨_,rfl⟩
 obtain ⟨oa,hoa⟩: ∃l,Lx.outAt text=l:=⟨_,rfl⟩
 obtain ⟨oe,hoe⟩: ∃l,Lx.outE text=l:=⟨_,rfl⟩
 have HL:=Lib.hid hl
 have HOA:=Lib.hid hoa
 have HOE:=Lib.hid hoe
 have HW:=Lib.hid (Lx.pieces_out text hE)
 rw [hl,hoa,hoe] at HW
 have HE:=Lib.hid hE
 clear hl hoa hoe hE
 go_enter Tryz.func134,Tryz.ntmps134
 go_wp2_with fail
 refine HW.out.mono ?_
 rintro e wc ⟨vp,rfl,ho1,hb1⟩
 obtain ⟨A,cx,rfl⟩:=own_slice ho1
 have HRW:=Lib.hid ho1
 have HBW:=Lib.hid hb1
 clear ho1 hb1 HW
 by_cases he: ¬oe=0
 ·have x1:(oe !=0)=true:=by rw [bne_iff_ne];exact he
  have HLE:Hid (l=[]):=Lib.hid (by
   rw [←HL.out]
   have h:=HOE.out
   unfold Lx.outE at h
   unfold Lx.outL
   cases hp:Lx.pieces text.data.toList with
   |ok r=>rw [hp] at h;exact absurd h.symm he
   |error e=>rfl)
  clear he
  go_wp2
  refine bodyPost_ret (v:=.tuple #[.slice none 0 0,.int .i64 oa,.int .i64 oe]) (by simp [results,Tryz.results134,go_sem]) rfl ?_
  exact ⟨_,by rw [HOA.out,HOE.out],by rw [HL.out,HLE.out];exact own_nil _ _ _ _,HBW.out⟩
 have he:oe=0:=by omega
 have hoa0:oa=0:=by
  rw [←HOA.out]
  have h:=HOE.out
  unfold Lx.outE at h
  unfold Lx.outAt
  cases hp:Lx.pieces text.data.toList with
  |ok r=>rfl
  |error e=>
   rw [hp] at h
   exact absurd (show e.2=0 by rw [show e.2=oe from h,he]) (Lx.pieces_error hp)
 have hpieces:Hid (text.size≤20000∧Lx.Chain l 0 text.size∧Lx.pieces text.data.toList=.ok l):=Lib.hid (by
  have h:=HOE.out
  unfold Lx.outE at h
  have h2:=HL.out
  unfold Lx.outL at h2
  cases hp:Lx.pieces text.data.toList with
  |ok r=>
   rw [hp] at h2
   have h2:r=l:=h2
   subst h2
   obtain ⟨h3,h4⟩:=Lx.pieces_chain hp
   rw [data_length] at h3 h4
   exact ⟨h4,h3,rfl⟩
  |error e=>
   rw [hp] at h
   exact absurd (show e.2=0 by rw [show e.2=oe from h,he]) (Lx.pieces_error hp))
 subst he hoa0
 have HS0:Hid (SG w wc (.slice A l.length cx) (.slice none 0 0) l 0 []):=Lib.hid ⟨HBW.out,HRW.out,own_nil _ _ _ _⟩
 have hs:text.size≤20000:=hpieces.out.1
 have hll:l.length≤20000:=by
  have:=chain_length l 0 text.size hpieces.out.2.1
  omega
 clear HRW HBW
 go_wp2_with fail
 go_loopg [8,24] l.length (fun kq v8 v24 wr=> ∃i:Nat,v24=.int .i64 i∧i≤l.length∧kq=l.length-i∧Hid (SG w wr (.slice A l.length cx) v8 l ((l.take i).filter isTk).length (tokCells text (l.take i))))
 case atStart=>exact ⟨0,rfl,by omega,by omega,HS0⟩
 case round=>
  obtain ⟨i,rfl,hil,hkq,HS⟩:=hrel
  clear HS0
  have HKQ:=Lib.hid hkq
  clear hkq
  by_cases hlt:i<l.length
  ·have g1:decide (i<l.length)=true:=decide_eq_true hlt
   have g2:decide ((i:Int)<(l.length:Int))=true:=decide_eq_true (by omega)
   obtain ⟨p,hp⟩: ∃p,l[i]? =some p:=⟨_,List.getElem?_eq_getElem hlt⟩
   obtain ⟨P,cap,hvA,hPb,hPl⟩:=HS.out.rows.form (by omega)
   injection hvA with hvA1 hvA2 hvA3
   subst hvA1
   obtain rfl:cx=cap:=hvA3
   obtain ⟨q0,q1,q2⟩:=cells_of_at l i p hp
   have hcell: ∀j u,(Lx.cellsOf l)[j]? =some u→wr.cell? ⟨P,j,none⟩=some u:=fun j u hu=>by
    have:=HS.out.rows.cells (g:=P) rfl j u hu
    have hadd:(⟨P,0,none⟩:Addr).add j=⟨P,j,none⟩:=by unfold Addr.add;split<;>simp_all
    rw [hadd] at this
    exact this
   have p0:=hcell _ _ q0
   have p1:=hcell _ _ q1
   have p2:=hcell _ _ q2
   clear hcell q0 q1 q2
   have hi1:(0:Int)≤i:=by omega
   have hw5:IntKind.i64.wrap ((i:Int)+1)=(i:Int)+1:=IntWalk.i64_in _ (by omega)
   have HPI:=Lib.hid hp
   have hpt:p.at_+p.len≤text.size:=by
    have:=(Lx.chain_ge _ _ _ hpieces.out.2.1 p (List.mem_of_getElem? hp)).2.1
    omega
   clear hp
   go_upto_region 8 with (fail)
   obtain ⟨g6,hg6⟩: ∃g,g=wr.heap.size:=⟨_,rfl⟩
   rw [←hg6]
   obtain ⟨X,hX⟩: ∃X,wr.alloc (.cells #[.int .i64 p.kind,.int .i64 p.at_,.int .i64 p.len] 129)=X:=⟨_,rfl⟩
   rw [hX]
   have HG6:Hid (X.heap[g6]? =some (.cells #[.int .i64 p.kind,.int .i64 p.at_,.int .i64 p.len] 129 (0,0))):=Lib.hid (by rw [←hX,hg6];exact blk_new _ _)
   have HSX:Hid (SG w X (.slice (some ⟨P,0,none⟩) l.length cx) u8 l ((l.take i).filter isTk).length (tokCells text (l.take i))):=Lib.hid (by rw [←hX];exact HS.out.step (below_alloc (Below.refl _ _) _))
   clear hX hg6 HS p0 p1 p2 hPl
   have k0:X.cell? ⟨g6,0,none⟩=some (.int .i64 p.kind):=blk_cell HG6.out 0
   have k1:X.cell? ⟨g6,1,none⟩=some (.int .i64 p.at_):=blk_cell HG6.out 1
   have k2:X.cell? ⟨g6,2,none⟩=some (.int .i64 p.len):=blk_cell HG6.out 2
   by_cases hk6:6<p.kind
   ·have x6:decide ((6:Int)<p.kind)=true:=decide_eq_true (by omega)
    have HT:Hid ((l.take (i+1)).filter isTk=(l.take i).filter isTk):=Lib.hid (by
     rw [List.take_add_one,HPI.out,List.filter_append]
     have:isTk p=false:=by unfold isTk;exact decide_eq_false (by omega)
     simp [this])
    clear hk6
    go_wp2
    go_roundg (gk-1)
    case measure=>have:=HKQ.out;omega
    case rel=>exact ⟨i+1,by go_num,by omega,by have:=HKQ.out;omega,Lib.hid (by unfold tokCells;rw [HT.out];exact HSX.out)⟩
   ·have x6:decide ((6:Int)<p.kind)=false:=decide_eq_false (by omega)
    have hw1:IntKind.i64.wrap ((p.at_:Int)+p.len)=(p.at_:Int)+p.len:=IntWalk.i64_in _ (by omega)
    have hj1:(0:Int)≤p.at_:=by omega
    have hj2:(p.at_:Int)≤(p.at_:Int)+p.len:=by omega
    have hj3:(p.at_:Int)+p.len≤text.size:=by omega
    have ht1:((p.at_:Int)+p.len).toNat=p.at_+p.len:=by omega
    obtain ⟨T,hT⟩: ∃T,text.extract p.at_ (p.at_+p.len)=T:=⟨_,rfl⟩
    have HTX:Hid (txtOf text p=T):=Lib.hid hT
    have HTT:Hid ((l.take (i+1)).filter isTk=(l.take i).filter isTk++[p]):=Lib.hid (by
     rw [List.take_add_one,HPI.out,List.filter_append]
     have:isTk p=true:=by unfold isTk;exact decide_eq_true (by omega)
     simp [this])
    clear hk6
    go_upto_region 9 with (fail)
    go_cut [11] (fun v11 wd=> ∃g7,v11=.pointer (some ⟨g7,0,none⟩)∧w.heap.size≤g7∧u8.ownBlock≠some g7∧Hid (wd.heap[g7]? =some (.cells #[.int .i64 p.kind,.int .i64 0,.string T,.int .i64 p.at_,.int .i64 0] 39 (0,0)))∧Hid (wd.heap[g6]? =some (.cells #[.int .i64 p.kind,.int .i64 p.at_,.int .i64 p.len] 129 (0,0)))∧Hid (SG w wd (.slice (some ⟨P,0,none⟩) l.length cx) u8 l ((l.take i).filter isTk).length (tokCells text (l.take i))))
    case first=>
     have hlt6:g6<X.heap.size:=blk_lt HG6.out
     go_region
     all_goals
      go_wp2
      go_meet
      case rel=>
       refine ⟨_,rfl,HSX.out.below.size,fun e=> ?_,Lib.hid (blk_drew (blk_new _ _)),Lib.hid (blk_drew (blk_alloc HG6.out _)),Lib.hid ((HSX.out.step (below_alloc (Below.refl _ _) _)).step (below_drew1 (Below.refl _ _)))⟩
       have:=own_lt HSX.out.own _ e
       omega
    case rest=>
     obtain ⟨g7,rfl,hg7,hown7,HG7,HG6c,HSc⟩:=hcut
     rename World=>wd
     clear HG6 HSX k0 k1 k2
     have k0:wd.cell? ⟨g6,0,none⟩=some (.int .i64 p.kind):=blk_cell HG6c.out 0
     have t2:wd.cell? ⟨g7,2,none⟩=some (.string T):=blk_cell HG7.out 2
     have HTs:Hid (T.size≤20000):=Lib.hid (by
      have:T.size=(text.extract p.at_ (p.at_+p.len)).size:=by rw [hT]
      rw [this,ByteArray.size_extract]
      omega)
     go_upto_if 47 with (fail)
     go_cut [] (fun we=>Hid (we.heap[g7]? =some (.cells #[.int .i64 p.kind,.int .i64 (numOf text p),.string T,.int .i64 p.at_,.int .i64 0] 39 (0,0)))∧Hid (SG w we (.slice (some ⟨P,0,none⟩) l.length cx) u8 l ((l.take i).filter isTk).length (tokCells text (l.take i))))
     case first=>
      by_cases h2:p.kind=2
      ·have x2:((p.kind:Int)==2)=true:=by rw [beq_iff_eq];omega
       have HNUM:Hid (Lx.valN T.data.toList=numOf text p):=Lib.hid (by
        unfold numOf
        rw [if_pos h2,HTX.out])
       have HNW:=Lib.hid (Lx.value_walk T (by have:=HTs.out;omega) wd (HE.out.below HSc.out.below))
       rw [HNUM.out] at HNW
       clear h2
       go_wp2_with fail
       refine HNW.out.mono ?_
       rintro e wf ⟨rfl,hbf⟩
       have HG7f:=Lib.hid (blk_below HG7.out hbf)
       have HSf:=Lib.hid (HSc.out.step hbf)
       clear hbf HG7 HSc HG6c k0 t2 HNW
       have t1:wf.cell? ⟨g7,1,none⟩=some (.int .i64 0):=blk_cell HG7f.out 1
       have f1:=blk_frozen HG7f.out 1
       go_wp2
       go_meet
       case rel=>
        refine ⟨Lib.hid (blk_put HG7f.out 1 _ rfl),Lib.hid ⟨HSf.out.below.setCell hg7 _,own_move HSf.out.rows (fun k hk=>Below.heap_setCell _ _ _ k ?_),own_move HSf.out.own (fun k hk=>Below.heap_setCell _ _ _ k ?_)⟩⟩
        ·intro e
         exact own_ne HSf.out.rows HG7f.out (by decide) (by rw [hk,show k=g7 from e])
        ·intro e
         exact hown7 (by rw [hk,show k=g7 from e])
      ·have x2:((p.kind:Int)==2)=false:=by rw [beq_eq_false_iff_ne];omega
       have HNUM:Hid (numOf text p=0):=Lib.hid (by unfold numOf;rw [if_neg h2])
       clear h2
       go_wp2
       go_meet
       case rel=>exact ⟨Lib.hid (by rw [HNUM.out];exact HG7.out),HSc⟩
     case rest=>
      obtain ⟨HG7d,HSd⟩:=hcut
      rename World=>we
      clear HG7 HSc HG6c k0 t2
      obtain ⟨nm,hnm⟩: ∃x,numOf text p=x:=⟨_,rfl⟩
      rw [hnm] at HG7d
      have HNM:=Lib.hid hnm
      clear hnm
      have t0:we.cell? ⟨g7,0,none⟩=some (.int .i64 p.kind):=blk_cell HG7d.out 0
      have t1:we.cell? ⟨g7,1,none⟩=some (.int .i64 nm):=blk_cell HG7d.out 1
      have t2:we.cell? ⟨g7,2,none⟩=some (.string T):=blk_cell HG7d.out 2
      have t3:we.cell? ⟨g7,3,none⟩=some (.int .i64 p.at_):=blk_cell HG7d.out 3
      have t4:we.cell? ⟨g7,4,none⟩=some (.int .i64 0):=blk_cell HG7d.out 4
      have hlt2:w.heap.size≤we.heap.size:=HSd.out.below.size
      have hfl:((l.take i).filter isTk).length≤20000:=by
       have h1:=List.length_filter_le isTk (l.take i)
       have h2:(l.take i).length≤i:=List.length_take_le _ _
       omega
      obtain ⟨nf,hnf⟩: ∃x,((l.take i).filter isTk).length=x:=⟨_,rfl⟩
      rw [hnf] at HSd hfl
      have HNF:=Lib.hid hnf
      clear hnf
      go_wp2_with (at_builtin;refine wpList_append_lies _ rfl (.tmp 55) (.tmp 57) 22 rfl w.heap.size 39 i0 (.agg #[.int .i64 0,.int .i64 0,.string ByteArray.empty,.int .i64 0,.int .i64 0]) 5 48 Tryz.underlying22 HI0.out HZ0.out HZ1.out HZ2.out rfl (by decide) u8 nf (tokCells text (l.take i)) rfl (HSd.out.own.alloc _) ⟨we.heap.size,0,none⟩ 1 1 [.int .i64 p.kind,.int .i64 nm,.string T,.int .i64 p.at_,.int .i64 0] rfl rfl (World.news_of_block (blk_new _ _)) (by simp [Value.oneCell']) (by decide) (by simp only [maxLen];omega) (by omega) (alloc_room' hlt2) _ rfl ?_;intro g9 cap9 w9 hown hgrow hat9 hlt9;have HOWN:=Lib.hid hown;have HGROW:=Lib.hid hgrow;clear hown hgrow hat9 hlt9)
      go_roundg (gk-1)
      case measure=>have:=HKQ.out;omega
      case rel=>
       refine ⟨i+1,by go_num,by omega,by have:=HKQ.out;omega,Lib.hid ⟨?_, ?_, ?_⟩⟩
       ·exact ((HSd.out.below.alloc hlt2 _)).grown HGROW.out (alloc_room' hlt2) (own_base HSd.out.own)
       ·exact own_other (HSd.out.rows.alloc _) HGROW.out (.inr (fun e=>own_apart HSd.out.rows HSd.out.own (by decide) e))
       ·unfold tokCells
        rw [HTT.out,List.flatMap_append,List.length_append,HNF.out]
        have:=HOWN.out
        simp only [List.flatMap_cons,List.flatMap_nil,List.append_nil,List.length_singleton,tokOf,HNM.out,HTX.out]
        exact this
  ·have g1:decide (i<l.length)=false:=decide_eq_false hlt
   have g2:decide ((i:Int)<(l.length:Int))=false:=decide_eq_false (by omega)
   obtain ⟨A4,c4,rfl⟩:=own_slice HS.out.own
   have HLT:Hid (l.take i=l):=Lib.hid (List.take_of_length_le (by omega))
   clear hlt
   go_wp2
   refine bodyPost_ret (v:=.tuple #[.slice A4 ((l.take i).filter isTk).length c4,.int .i64 0,.int .i64 0]) (by simp [results,Tryz.results134,go_sem]) rfl ?_
   refine ⟨_,by rw [HOA.out,HOE.out], ?_,HS.out.below⟩
   rw [HL.out]
   have:=HS.out.own
   rw [HLT.out] at this⊢
   exact this
end Go.Proofs.YtipnlgmeonepfaaGreatDoor.Ref
