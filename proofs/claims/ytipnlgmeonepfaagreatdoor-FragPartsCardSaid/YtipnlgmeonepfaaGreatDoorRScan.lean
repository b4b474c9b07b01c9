/- The reference's Scan, walked: its tokens are those of the program's pieces. -/
import Derived.Test.YtipnlgmeonepfaaGreatDoorRPieces
import Derived.BigRegion
set_option linter.unusedVariables false
set_option linter.unusedSimpArgs false
namespace Go.Proofs.YtipnlgmeonepfaaGreatDoor.Ref
open Go.RowKit Go.Proofs.YtipnlgmeonepfaaGreatDoorW.PrintWords Go.Proofs.YtipnlgmeonepfaaGreatDoorW.PrintMore
attribute [local go_sem] max2_int min2_int max_two min_two max_three min_three max_four min_four

def txtOf (text:ByteArray) (p:Lx.Piece):ByteArray:=text.extract p.at_ (p.at_+p.len)
def isTk (p:Lx.Piece):Bool:=decide (p.kind≤6)
def numOf (text:ByteArray) (p:Lx.Piece):Int:=if p.kind=2 then Lx.valN (txtOf text p).data.toList else 0
def tokOf (text:ByteArray) (p:Lx.Piece):List Value:=[.int .i64 p.kind,.int .i64 (numOf text p),.string (txtOf text p),.int .i64 p.at_,.int .i64 0]
def tokCells (text:ByteArray) (l:List Lx.Piece):List Value:=(l.filter isTk).flatMap (tokOf text)
/-- What lies in memory while the tokens are collected. -/
structure SF (w W:World) (g3:Nat) (vp v:Value) (l:List Lx.Piece) (n:Nat) (cs:List Value):Prop where
 below:Below w.heap.size w W
 rows:W.ownsRow w.heap.size 129 3 vp l.length (Lx.cellsOf l)
 own:W.ownsRow w.heap.size 39 5 v n cs
 b2:W.heap[w.heap.size]? =some (.cells #[.slice none 0 0,.int .i64 0,.int .i64 0] 97 (0,0))
 b3:W.heap[g3]? =some (.cells #[vp,.int .i64 0,.int .i64 0] 126 (0,0))
theorem SF.step {w W W':World} {g3:Nat} {vp v:Value} {l:List Lx.Piece} {n:Nat} {cs:List Value} (h:SF w W g3 vp v l n cs) (hb:Below W.heap.size W W'):SF w W' g3 vp v l n cs:=
 ⟨h.below.trans (hb.mono h.below.size),own_move h.rows (fun k hk=>hb.block k (own_lt h.rows k hk)),own_move h.own (fun k hk=>hb.block k (own_lt h.own k hk)),blk_below h.b2 hb,blk_below h.b3 hb⟩
def Got2 (text:ByteArray) (w:World) (e:Ending) (w':World):Prop:= ∃v,e=.returned (.agg #[v,.int .i64 (Lx.outAt text),.int .i64 (Lx.outE text)])∧w'.ownsRow w.heap.size 39 5 v ((Lx.outL text).filter isTk).length (tokCells text (Lx.outL text))∧Below w.heap.size w w'
theorem info_tok:(Tryz.prog.info? 39).map (fun i=>(i.zero,i.size,i.bytes))=some (some (.agg #[.int .i64 0,.int .i64 0,.string ByteArray.empty,.int .i64 0,.int .i64 0]),5,48):=by kernel_rfl
theorem cells_of_at (l:List Lx.Piece) (i:Nat) (p:Lx.Piece) (h:l[i]? =some p):(Lx.cellsOf l)[i*3]? =some (.int .i64 p.kind)∧(Lx.cellsOf l)[i*3+1]? =some (.int .i64 p.at_)∧(Lx.cellsOf l)[i*3+2]? =some (.int .i64 p.len):=by
 have e:=Lx.cells_at l i p h
 have e0:=congrArg (fun z=>z[0]?) e
 have e1:=congrArg (fun z=>z[1]?) e
 have e2:=congrArg (fun z=>z[2]?) e
 simp only [List.getElem?_take,List.getElem?_drop] at e0 e1 e2
 exact ⟨by simpa using e0,by simpa using e1,by simpa using e2⟩
theorem chain_length: ∀(l:List Lx.Piece) (a e:Nat),Lx.Chain l a e→a+l.length≤e
 |[],a,e,h=>by
  have h:a=e:=h
  simp [h]
 |p::l,a,e,h=>by
  obtain ⟨_,h2,_,_,_,h6⟩:=h
  have:=chain_length l _ _ h6
  simp only [List.length_cons]
  omega
theorem tok_valid {text:ByteArray} {l:List Lx.Piece} (h:Lx.pieces text.data.toList=.ok l) (p:Lx.Piece) (hp:p∈l) (h2:p.kind=2):Lx.valB (txtOf text p).data.toList=true:=by
 obtain ⟨op,h1,h3,_⟩:=Lx.pieces_next h p hp
 obtain ⟨_,_,_,hc⟩:=Lx.next_token h3 (by omega)
 rw [h2] at hc
 unfold txtOf
 rw [Lib.extract_data,show p.at_+p.len-p.at_=p.len from by omega]
 unfold Lx.check at hc
 simp only at hc
 split at hc
 ·exact absurd hc (by decide)
 ·rename_i hh
  by_cases hv:Lx.valB ((text.data.toList.drop p.at_).take p.len)=true
  ·exact hv
  ·exact absurd (.inl (by simpa using hv)) hh
theorem own_apart {W:World} {base base':Nat} {e e':TypeId} {s s' n n':Nat} {A:Addr} {m c:Nat} {v:Value} {xs xs':List Value} (h:W.ownsRow base e s (.slice (some A) m c) n xs) (h':W.ownsRow base' e' s' v n' xs') (hne:e≠e') (he:(Value.slice (some A) m c).ownBlock=v.ownBlock):False:=by
 obtain ⟨cs,hc⟩:=own_typed h A.block rfl
 exact own_ne h' hc (fun e0=>hne e0.symm) (by rw [←he];rfl)
theorem own_slice {W:World} {base:Nat} {e:TypeId} {size n:Nat} {v:Value} {xs:List Value} (h:W.ownsRow base e size v n xs): ∃A c,v=.slice A n c:=by
 rcases h.2 with ⟨rfl,rfl⟩|⟨g,cap,cur,rfl,_⟩
 ·exact ⟨_,_,rfl⟩
 ·exact ⟨_,_,rfl⟩
set_option maxHeartbeats 12800000 in
set_option maxRecDepth 100000 in
theorem rscan_walk (text:ByteArray) (hbig:text.size≤9223372036854775807) (w:World):
  Calls Tryz.prog 71 #[.string text] w (Got2 text w):=by
 obtain ⟨i0,hi0,hz0,hz1,hz2⟩:=info_parts info_tok
 have HI0:=Lib.hid hi0
 have HZ0:=Lib.hid hz0
 have HZ1:=Lib.hid hz1
 have HZ2:=Lib.hid hz2
 clear hi0 hz0 hz1 hz2
 obtain ⟨l,hl⟩: ∃l,Lx.outL text=l:=⟨_,rfl⟩
 obtain ⟨oa,hoa⟩: ∃l,Lx.outAt text=l:=⟨_,rfl⟩
 obtain ⟨oe,hoe⟩: ∃l,Lx.outE text=l:=⟨_,rfl⟩
 have HL:=Lib.hid hl
 have HOA:=Lib.hid hoa
 have HOE:=Lib.hid hoe
 have HW:Hid (∀w:World,Calls Tryz.prog 99 #[.string text] w fun e w'=> ∃v,e=.returned (.agg #[v,.int .i64 oa,.int .i64 oe])∧w'.ownsRow w.heap.size 129 3 v l.length (Lx.cellsOf l)∧Below w.heap.size w w'):=Lib.hid fun w=>by
  have:=rpieces_walk text hbig w
  unfold Got at this
  rw [hl,hoa,hoe] at this
  exact this
 clear hl hoa hoe
 go_enter Tryz.func71,Tryz.ntmps71
 go_upto_region 1 with (fail)
 go_cut [3] (fun v3 wc=> ∃g3 A cx,v3=.pointer (some ⟨g3,0,none⟩)∧Hid (wc.heap[g3]? =some (.cells #[.slice A l.length cx,.int .i64 oa,.int .i64 oe] 126 (0,0)))∧Hid (wc.ownsRow w.heap.size 129 3 (.slice A l.length cx) l.length (Lx.cellsOf l))∧Hid (wc.heap[w.heap.size]? =some (.cells #[.slice none 0 0,.int .i64 0,.int .i64 0] 97 (0,0)))∧Hid (Below w.heap.size w wc))
 case first=>
  go_wp2_with (go_at_call 99;refine (HW.out _).mono ?_;rintro e w1 ⟨vp,rfl,ho1,hb1⟩;obtain ⟨A,cx,rfl⟩:=own_slice ho1;have HO1:=Lib.hid ho1;have HB1:=Lib.hid hb1;clear ho1 hb1)
  go_meet
  case rel=>exact ⟨_,A,cx,rfl,Lib.hid (blk_new _ _),Lib.hid (own_weaken (HO1.out.alloc _) (by simp)),Lib.hid (blk_alloc (blk_below (blk_new w _) HB1.out) _),Lib.hid (below_alloc ((below_alloc (Below.refl _ _) _).trans (HB1.out.mono (by simp))) _)⟩
 case rest=>
  obtain ⟨g3,A,cx,rfl,HG3,HRW,HB2,HBW⟩:=hcut
  clear HW
  have c0:wc.cell? ⟨g3,0,none⟩=some (.slice A l.length cx):=blk_cell HG3.out 0
  have c1:wc.cell? ⟨g3,1,none⟩=some (.int .i64 oa):=blk_cell HG3.out 1
  have c2:wc.cell? ⟨g3,2,none⟩=some (.int .i64 oe):=blk_cell HG3.out 2
  by_cases he: ¬oe=0
  ·have x1:(oe !=0)=true:=by rw [bne_iff_ne];exact he
   have HLE:Hid (l=[]):=Lib.hid (by
    rw [←HL.out]
    have h:=HOE.out
    unfold Lx.outE at h
    unfold Lx.outL
    cases hp:Lx.pieces text.data.toList with
    |ok r=>rw [hp] at h;exact absurd h.symm he
    |error e=>rfl)
   clear he
   have d0:wc.cell? ⟨w.heap.size,0,none⟩=some (.slice none 0 0):=blk_cell HB2.out 0
   have d1:wc.cell? ⟨w.heap.size,1,none⟩=some (.int .i64 0):=blk_cell HB2.out 1
   have d2:wc.cell? ⟨w.heap.size,2,none⟩=some (.int .i64 0):=blk_cell HB2.out 2
   have e0:=blk_frozen HB2.out 0
   have e1:=blk_frozen HB2.out 1
   have e2:=blk_frozen HB2.out 2
   go_wp2
   obtain ⟨WF,hWF⟩: ∃WF,((wc.setCell ⟨w.heap.size,0,none⟩ (.slice none 0 0)).setCell ⟨w.heap.size,1,none⟩ (.int .i64 oa)).setCell ⟨w.heap.size,2,none⟩ (.int .i64 oe)=WF:=⟨_,rfl⟩
   rw [hWF]
   have hb2:WF.heap[w.heap.size]? =some (.cells #[.slice none 0 0,.int .i64 oa,.int .i64 oe] 97 (0,0)):=hWF▸three_put HB2.out
   have hbw:Below w.heap.size w WF:=hWF▸((HBW.out.setCell (by simp) _).setCell (by simp) _).setCell (by simp) _
   have r0:WF.cell? ⟨w.heap.size,0,none⟩=_:=blk_cell hb2 0
   have r1:WF.cell? ⟨w.heap.size,1,none⟩=_:=blk_cell hb2 1
   have r2:WF.cell? ⟨w.heap.size,2,none⟩=_:=blk_cell hb2 2
   refine bodyPost_ret (v:=.agg #[.slice none 0 0,.int .i64 oa,.int .i64 oe]) (by simp [results,Tryz.results71,go_sem,r0,r1,r2]) rfl ?_
   exact ⟨_,by rw [HOA.out,HOE.out],by rw [HL.out,HLE.out];exact own_nil _ _ _ _,hbw⟩
  have he:oe=0:=by omega
  have hoa0:oa=0:=by
   rw [←HOA.out]
   have h:=HOE.out
   unfold Lx.outE at h
   unfold Lx.outAt
   cases hp:Lx.pieces text.data.toList with
   |ok r=>rfl
   |error e=>
    rw [hp] at h
    exact absurd (show e.2=0 by rw [show e.2=oe from h,he]) (Lx.pieces_error hp)
  have hpieces:Hid (text.size≤20000∧Lx.Chain l 0 text.size∧Lx.pieces text.data.toList=.ok l):=Lib.hid (by
   have h:=HOE.out
   unfold Lx.outE at h
   have h2:=HL.out
   unfold Lx.outL at h2
   cases hp:Lx.pieces text.data.toList with
   |ok r=>
    rw [hp] at h2
    have h2:r=l:=h2
    subst h2
    obtain ⟨h3,h4⟩:=Lx.pieces_chain hp
    rw [data_length] at h3 h4
    exact ⟨h4,h3,rfl⟩
   |error e=>
    rw [hp] at h
    exact absurd (show e.2=0 by rw [show e.2=oe from h,he]) (Lx.pieces_error hp))
  subst he hoa0
  have HS0:Hid (SF w wc g3 (.slice A l.length cx) (.slice none 0 0) l 0 []):=Lib.hid ⟨HBW.out,HRW.out,own_nil _ _ _ _,HB2.out,HG3.out⟩
  have hs:text.size≤20000:=hpieces.out.1
  have hll:l.length≤20000:=by
   have:=chain_length l 0 text.size hpieces.out.2.1
   omega
  clear HG3 HRW HB2 HBW c1
  go_wp2
  clear c0 c2
  go_loopg [4,5] l.length (fun kq v4 v5 wr=> ∃i:Nat,v5=.int .i64 i∧i≤l.length∧kq=l.length-i∧Hid (SF w wr g3 (.slice A l.length cx) v4 l ((l.take i).filter isTk).length (tokCells text (l.take i))))
  case atStart=>exact ⟨0,rfl,by omega,by omega,HS0⟩
  case round=>
   obtain ⟨i,rfl,hil,hkq,HS⟩:=hrel
   clear HS0
   have HKQ:=Lib.hid hkq
   clear hkq
   have c0:wr.cell? ⟨g3,0,none⟩=some (.slice A l.length cx):=blk_cell HS.out.b3 0
   by_cases hlt:i<l.length
   ·have g1:decide (i<l.length)=true:=decide_eq_true hlt
    obtain ⟨p,hp⟩: ∃p,l[i]? =some p:=⟨_,List.getElem?_eq_getElem hlt⟩
    obtain ⟨P,cap,hvA,hPb,hPl⟩:=HS.out.rows.form (by omega)
    injection hvA with hvA1 hvA2 hvA3
    subst hvA1
    obtain rfl:cx=cap:=hvA3
    obtain ⟨q0,q1,q2⟩:=cells_of_at l i p hp
    have hcell: ∀j u,(Lx.cellsOf l)[j]? =some u→wr.cell? ⟨P,j,none⟩=some u:=fun j u hu=>by
     have:=HS.out.rows.cells (g:=P) rfl j u hu
     have hadd:(⟨P,0,none⟩:Addr).add j=⟨P,j,none⟩:=by unfold Addr.add;split<;>simp_all
     rw [hadd] at this
     exact this
    have p0:=hcell _ _ q0
    have p1:=hcell _ _ q1
    have p2:=hcell _ _ q2
    clear hcell q0 q1 q2
    have hi1:(0:Int)≤i:=by omega
    have hw5:IntKind.i64.wrap ((i:Int)+1)=(i:Int)+1:=IntWalk.i64_in _ (by omega)
    have HPI:=Lib.hid hp
    have hpt:p.at_+p.len≤text.size:=by
     have:=(Lx.chain_ge _ _ _ hpieces.out.2.1 p (List.mem_of_getElem? hp)).2.1
     omega
    clear hp
    go_upto_region 9 with (fail)
    obtain ⟨g6,hg6⟩: ∃g,g=wr.heap.size:=⟨_,rfl⟩
    rw [←hg6]
    obtain ⟨X,hX⟩: ∃X,wr.alloc (.cells #[.int .i64 p.kind,.int .i64 p.at_,.int .i64 p.len] 129)=X:=⟨_,rfl⟩
    rw [hX]
    have HG6:Hid (X.heap[g6]? =some (.cells #[.int .i64 p.kind,.int .i64 p.at_,.int .i64 p.len] 129 (0,0))):=Lib.hid (by rw [←hX,hg6];exact blk_new _ _)
    have HSX:Hid (SF w X g3 (.slice (some ⟨P,0,none⟩) l.length cx) u4 l ((l.take i).filter isTk).length (tokCells text (l.take i))):=Lib.hid (by rw [←hX];exact HS.out.step (below_alloc (Below.refl _ _) _))
    clear hX hg6 HS c0 p0 p1 p2 hPl
    have k0:X.cell? ⟨g6,0,none⟩=some (.int .i64 p.kind):=blk_cell HG6.out 0
    have k1:X.cell? ⟨g6,1,none⟩=some (.int .i64 p.at_):=blk_cell HG6.out 1
    have k2:X.cell? ⟨g6,2,none⟩=some (.int .i64 p.len):=blk_cell HG6.out 2
    by_cases hk6:6<p.kind
    ·have x6:decide ((6:Int)<p.kind)=true:=decide_eq_true (by omega)
     have HT:Hid ((l.take (i+1)).filter isTk=(l.take i).filter isTk):=Lib.hid (by
      rw [List.take_add_one,HPI.out,List.filter_append]
      have:isTk p=false:=by unfold isTk;exact decide_eq_false (by omega)
      simp [this])
     clear hk6
     go_wp2
     go_roundg (gk-1)
     case measure=>have:=HKQ.out;omega
     case rel=>exact ⟨i+1,by go_num,by omega,by have:=HKQ.out;omega,Lib.hid (by unfold tokCells;rw [HT.out];exact HSX.out)⟩
    ·have x6:decide ((6:Int)<p.kind)=false:=decide_eq_false (by omega)
     have hw1:IntKind.i64.wrap ((p.at_:Int)+p.len)=(p.at_:Int)+p.len:=IntWalk.i64_in _ (by omega)
     have hj1:(0:Int)≤p.at_:=by omega
     have hj2:(p.at_:Int)≤(p.at_:Int)+p.len:=by omega
     have hj3:(p.at_:Int)+p.len≤text.size:=by omega
     have ht1:((p.at_:Int)+p.len).toNat=p.at_+p.len:=by omega
     obtain ⟨T,hT⟩: ∃T,text.extract p.at_ (p.at_+p.len)=T:=⟨_,rfl⟩
     have HTX:Hid (txtOf text p=T):=Lib.hid hT
     have HTT:Hid ((l.take (i+1)).filter isTk=(l.take i).filter isTk++[p]):=Lib.hid (by
      rw [List.take_add_one,HPI.out,List.filter_append]
      have:isTk p=true:=by unfold isTk;exact decide_eq_true (by omega)
      simp [this])
     clear hk6
     go_upto_region 10 with (fail)
     go_cut [7] (fun v7 wc=> ∃g7,v7=.pointer (some ⟨g7,0,none⟩)∧w.heap.size≤g7∧u4.ownBlock≠some g7∧Hid (wc.heap[g7]? =some (.cells #[.int .i64 p.kind,.int .i64 0,.string T,.int .i64 p.at_,.int .i64 0] 39 (0,0)))∧Hid (wc.heap[g6]? =some (.cells #[.int .i64 p.kind,.int .i64 p.at_,.int .i64 p.len] 129 (0,0)))∧Hid (SF w wc g3 (.slice (some ⟨P,0,none⟩) l.length cx) u4 l ((l.take i).filter isTk).length (tokCells text (l.take i))))
     case first=>
      have hlt6:g6<X.heap.size:=blk_lt HG6.out
      go_region
      all_goals
       go_wp2
       go_meet
       case rel=>
        refine ⟨_,rfl,HSX.out.below.size,fun e=> ?_,Lib.hid (blk_drew (blk_new _ _)),Lib.hid (blk_drew (blk_alloc HG6.out _)),Lib.hid ((HSX.out.step (below_alloc (Below.refl _ _) _)).step (below_drew1 (Below.refl _ _)))⟩
        have:=own_lt HSX.out.own _ e
        omega
     case rest=>
      obtain ⟨g7,rfl,hg7,hown7,HG7,HG6c,HSc⟩:=hcut
      clear HG6 HSX k0 k1 k2
      have k0:wc.cell? ⟨g6,0,none⟩=some (.int .i64 p.kind):=blk_cell HG6c.out 0
      have t0:wc.cell? ⟨g7,0,none⟩=some (.int .i64 p.kind):=blk_cell HG7.out 0
      have t1:wc.cell? ⟨g7,1,none⟩=some (.int .i64 0):=blk_cell HG7.out 1
      have t2:wc.cell? ⟨g7,2,none⟩=some (.string T):=blk_cell HG7.out 2
      have f1:=blk_frozen HG7.out 1
      have HTs:Hid (T.size≤20000):=Lib.hid (by
       have:T.size=(text.extract p.at_ (p.at_+p.len)).size:=by rw [hT]
       rw [this,ByteArray.size_extract]
       omega)
      go_upto_if 49 with (fail)
      go_cut [] (fun wd=>Hid (wd.heap[g7]? =some (.cells #[.int .i64 p.kind,.int .i64 (numOf text p),.string T,.int .i64 p.at_,.int .i64 0] 39 (0,0)))∧Hid (SF w wd g3 (.slice (some ⟨P,0,none⟩) l.length cx) u4 l ((l.take i).filter isTk).length (tokCells text (l.take i))))
      case first=>
       by_cases h2:p.kind=2
       ·have x2:((p.kind:Int)==2)=true:=by rw [beq_iff_eq];omega
        have HNUM:Hid (numV T.data.toList=numOf text p):=Lib.hid (by
         unfold numV numOf
         rw [if_pos h2,HTX.out,if_pos]
         rw [←HTX.out]
         exact tok_valid hpieces.out.2.2 p (List.mem_of_getElem? HPI.out) h2)
        have HNW:Hid (∀w:World,Calls Tryz.prog 100 #[.string T] w fun e w'=>e=.returned (.tuple #[.int .i64 (numOf text p),.int .i64 (numE T.data.toList)])∧w=w'):=Lib.hid fun w=>by
         have:=number_walk T (by have:=HTs.out;omega) w
         unfold Num at this
         rw [HNUM.out] at this
         exact this
        clear h2
        go_wp2_with (go_at_call 100;refine (HNW.out _).mono ?_;rintro e w' ⟨rfl,rfl⟩)
        go_meet
        case rel=>
         refine ⟨Lib.hid (blk_put HG7.out 1 _ rfl),Lib.hid ⟨HSc.out.below.setCell hg7 _,own_move HSc.out.rows (fun k hk=>Below.heap_setCell _ _ _ k ?_),own_move HSc.out.own (fun k hk=>Below.heap_setCell _ _ _ k ?_),blk_far HSc.out.b2 ?_ _,blk_far HSc.out.b3 ?_ _⟩⟩
         ·intro e
          exact own_ne HSc.out.rows HG7.out (by decide) (by rw [hk,show k=g7 from e])
         ·intro e
          exact hown7 (by rw [hk,show k=g7 from e])
         ·intro e
          have h1:=HSc.out.b2
          rw [show w.heap.size=g7 from e,HG7.out] at h1
          injection h1 with h1
          injection h1 with _ h2 _
          exact absurd h2 (by decide)
         ·intro e
          have h1:=HSc.out.b3
          rw [show g3=g7 from e,HG7.out] at h1
          injection h1 with h1
          injection h1 with _ h2 _
          exact absurd h2 (by decide)
       ·have x2:((p.kind:Int)==2)=false:=by rw [beq_eq_false_iff_ne];omega
        have HNUM:Hid (numOf text p=0):=Lib.hid (by unfold numOf;rw [if_neg h2])
        clear h2
        go_wp2
        go_meet
        case rel=>exact ⟨Lib.hid (by rw [HNUM.out];exact HG7.out),HSc⟩
      case rest=>
       obtain ⟨HG7d,HSd⟩:=hcut
       clear HG7 HSc k0 t0 t1 t2 f1
       obtain ⟨nm,hnm⟩: ∃x,numOf text p=x:=⟨_,rfl⟩
       rw [hnm] at HG7d
       have HNM:=Lib.hid hnm
       clear hnm
       have t0:wc.cell? ⟨g7,0,none⟩=some (.int .i64 p.kind):=blk_cell HG7d.out 0
       have t1:wc.cell? ⟨g7,1,none⟩=some (.int .i64 nm):=blk_cell HG7d.out 1
       have t2:wc.cell? ⟨g7,2,none⟩=some (.string T):=blk_cell HG7d.out 2
       have t3:wc.cell? ⟨g7,3,none⟩=some (.int .i64 p.at_):=blk_cell HG7d.out 3
       have t4:wc.cell? ⟨g7,4,none⟩=some (.int .i64 0):=blk_cell HG7d.out 4
       have hlt2:w.heap.size≤wc.heap.size:=HSd.out.below.size
       have hfl:((l.take i).filter isTk).length≤20000:=by
        have h1:=List.length_filter_le isTk (l.take i)
        have h2:(l.take i).length≤i:=List.length_take_le _ _
        omega
       obtain ⟨nf,hnf⟩: ∃x,((l.take i).filter isTk).length=x:=⟨_,rfl⟩
       rw [hnf] at HSd hfl
       have HNF:=Lib.hid hnf
       clear hnf
       go_wp2_with (at_builtin;refine wpList_append_lies _ rfl (.tmp 57) (.tmp 59) 22 rfl w.heap.size 39 i0 (.agg #[.int .i64 0,.int .i64 0,.string ByteArray.empty,.int .i64 0,.int .i64 0]) 5 48 Tryz.underlying22 HI0.out HZ0.out HZ1.out HZ2.out rfl (by decide) u4 nf (tokCells text (l.take i)) rfl (HSd.out.own.alloc _) ⟨wc.heap.size,0,none⟩ 1 1 [.int .i64 p.kind,.int .i64 nm,.string T,.int .i64 p.at_,.int .i64 0] rfl rfl (World.news_of_block (blk_new _ _)) (by simp [Value.oneCell']) (by decide) (by simp only [maxLen];omega) (by omega) (alloc_room' hlt2) _ rfl ?_;intro g9 cap9 w9 hown hgrow hat9 hlt9;have HOWN:=Lib.hid hown;have HGROW:=Lib.hid hgrow;clear hown hgrow hat9 hlt9)
       go_roundg (gk-1)
       case measure=>have:=HKQ.out;omega
       case rel=>
        refine ⟨i+1,by go_num,by omega,by have:=HKQ.out;omega,Lib.hid ⟨?_, ?_, ?_, ?_, ?_⟩⟩
        ·exact ((HSd.out.below.alloc hlt2 _)).grown HGROW.out (alloc_room' hlt2) (own_base HSd.out.own)
        ·exact own_other (HSd.out.rows.alloc _) HGROW.out (.inr (fun e=>own_apart HSd.out.rows HSd.out.own (by decide) e))
        ·unfold tokCells
         rw [HTT.out,List.flatMap_append,List.length_append,HNF.out]
         have:=HOWN.out
         simp only [List.flatMap_cons,List.flatMap_nil,List.append_nil,List.length_singleton,tokOf,HNM.out,HTX.out]
         exact this
        ·exact blk_grown (blk_alloc HSd.out.b2 _) HGROW.out (own_ne HSd.out.own HSd.out.b2 (by decide))
        ·exact blk_grown (blk_alloc HSd.out.b3 _) HGROW.out (own_ne HSd.out.own HSd.out.b3 (by decide))
   ·have g1:decide (i<l.length)=false:=decide_eq_false hlt
    obtain ⟨A4,c4,rfl⟩:=own_slice HS.out.own
    have HLT:Hid (l.take i=l):=Lib.hid (List.take_of_length_le (by omega))
    have d0:wr.cell? ⟨w.heap.size,0,none⟩=some (.slice none 0 0):=blk_cell HS.out.b2 0
    have d1:wr.cell? ⟨w.heap.size,1,none⟩=some (.int .i64 0):=blk_cell HS.out.b2 1
    have d2:wr.cell? ⟨w.heap.size,2,none⟩=some (.int .i64 0):=blk_cell HS.out.b2 2
    have e0:=blk_frozen HS.out.b2 0
    have e1:=blk_frozen HS.out.b2 1
    have e2:=blk_frozen HS.out.b2 2
    obtain ⟨nn,hnn⟩: ∃nn,((l.take i).filter isTk).length=nn:=⟨_,rfl⟩
    rw [hnn] at HS⊢
    have HNN:=Lib.hid hnn
    clear hnn hlt
    go_wp2
    obtain ⟨WF,hWF⟩: ∃WF,((wr.setCell ⟨w.heap.size,0,none⟩ (.slice A4 nn c4)).setCell ⟨w.heap.size,1,none⟩ (.int .i64 0)).setCell ⟨w.heap.size,2,none⟩ (.int .i64 0)=WF:=⟨_,rfl⟩
    rw [hWF]
    have hb2:WF.heap[w.heap.size]? =some (.cells #[.slice A4 nn c4,.int .i64 0,.int .i64 0] 97 (0,0)):=hWF▸three_put HS.out.b2
    have hbw:Below w.heap.size w WF:=hWF▸((HS.out.below.setCell (by simp) _).setCell (by simp) _).setCell (by simp) _
    have r0:WF.cell? ⟨w.heap.size,0,none⟩=_:=blk_cell hb2 0
    have r1:WF.cell? ⟨w.heap.size,1,none⟩=_:=blk_cell hb2 1
    have r2:WF.cell? ⟨w.heap.size,2,none⟩=_:=blk_cell hb2 2
    refine bodyPost_ret (v:=.agg #[.slice A4 nn c4,.int .i64 0,.int .i64 0]) (by simp [results,Tryz.results71,go_sem,r0,r1,r2]) rfl ?_
    refine ⟨_,by rw [HOA.out,HOE.out], ?_,hbw⟩
    have hne: ∀k,(Value.slice A4 nn c4).ownBlock=some k→k≠w.heap.size:=fun k hk e=>own_ne HS.out.own HS.out.b2 (by decide) (by rw [hk,e])
    have hmv:WF.ownsRow w.heap.size 39 5 (.slice A4 nn c4) nn (tokCells text (l.take i)):=own_move HS.out.own (fun k hk=>by
     rw [←hWF]
     exact (Below.heap_setCell _ _ _ k (hne k hk)).trans ((Below.heap_setCell _ _ _ k (hne k hk)).trans (Below.heap_setCell _ _ _ k (hne k hk))))
    rw [HLT.out] at hmv
    have hnl:(l.filter isTk).length=nn:=by rw [←HNN.out,HLT.out]
    rw [HL.out,hnl]
    exact hmv
end Go.Proofs.YtipnlgmeonepfaaGreatDoor.Ref
