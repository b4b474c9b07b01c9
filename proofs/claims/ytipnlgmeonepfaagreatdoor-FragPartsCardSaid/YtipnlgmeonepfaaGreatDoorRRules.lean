/- The reference's rules: the 36 patterns, as they lie in memory. -/
import Derived.Test.YtipnlgmeonepfaaGreatDoorRLongest
import Derived.Deep.RegionHeldLaw
import Derived.Deep.AppendLies
import Derived.Lib.AppendStr
set_option linter.unusedVariables false
set_option linter.unusedSimpArgs false
namespace Go.Proofs.YtipnlgmeonepfaaGreatDoor.Ref
open Go.RowKit Go.Proofs.YtipnlgmeonepfaaGreatDoorW.PrintWords Go.Proofs.YtipnlgmeonepfaaGreatDoorW.PrintMore
attribute [local go_sem] max2_int min2_int max_two min_two max_three min_three max_four min_four

def plainB:List ByteArray:=[⟨#[76]⟩,⟨#[76,87,42,70]⟩,⟨#[66,87,42,76]⟩,⟨#[66,87,42,76,87,42,70]⟩]
def pB (i:Nat):ByteArray:=plainB.getD i ByteArray.empty
def four (b:ByteArray):List Value:=[.int .i64 1,.string b,.int .i64 1,.string (b++⟨#[64,65,81,42]⟩),.int .i64 3,.string (b++⟨#[58]⟩),.int .i64 6,.string (⟨#[63]⟩++b)]
def more (b c:ByteArray):List Value:=[.int .i64 6,.string (⟨#[63]⟩++b++⟨#[58]⟩++c)]
def inners (i k:Nat):List Value:=(List.range k).flatMap fun j=>more (pB i) (pB j)
def acc (i:Nat):List Value:=(List.range i).flatMap fun j=>four (pB j)++inners j 4
theorem inners_snoc (i k:Nat):inners i (k+1)=inners i k++more (pB i) (pB k):=by
 unfold inners
 rw [List.range_succ,List.flatMap_append]
 simp
theorem acc_snoc (i:Nat):acc (i+1)=acc i++(four (pB i)++inners i 4):=by
 unfold acc
 rw [List.range_succ,List.flatMap_append]
 simp
theorem plain_at (i:Nat) (h:i<4):plainCells[i]? =some (.string (pB i)):=by
 rcases (by omega:i=0∨i=1∨i=2∨i=3) with rfl|rfl|rfl|rfl<;>rfl
theorem pB_size (i:Nat) (h:i<4):(pB i).size≤7:=by
 rcases (by omega:i=0∨i=1∨i=2∨i=3) with rfl|rfl|rfl|rfl<;>decide
theorem info_rule:(Tryz.prog.info? 180).map (fun i=>(i.zero,i.size,i.bytes))=some (some (.agg #[.int .i64 0,.string ByteArray.empty]),2,24):=by kernel_rfl
theorem own_drew {w:World} {base:Nat} {e:TypeId} {size n:Nat} {v:Value} {xs:List Value} (h:w.ownsRow base e size v n xs):w.drew.ownsRow base e size v n xs:=h
theorem S_of {W:World} {N i:Nat} (hi:i<4) (h:W.heap[N]? =some (.cells plainCells 9 (0,0))):W.heap[N]? =some (.cells plainCells 9 (0,0))∧W.cell? ⟨N,i,none⟩=some (.string (pB i)):=
 ⟨h,(blk_cell h i).trans (plain_at i hi)⟩
theorem S_of2 {W:World} {N i k:Nat} (hi:i<4) (hk:k<4) (h:W.heap[N]? =some (.cells plainCells 9 (0,0))):W.heap[N]? =some (.cells plainCells 9 (0,0))∧W.cell? ⟨N,i,none⟩=some (.string (pB i))∧W.cell? ⟨N,k,none⟩=some (.string (pB k)):=
 ⟨h,(blk_cell h i).trans (plain_at i hi),(blk_cell h k).trans (plain_at k hk)⟩
theorem max_room {n:Nat} (h:n≤1000):n≤maxLen:=by simp only [maxLen];omega
theorem alloc_room {w:World} {b:Nat} {o:Obj} (h:b≤w.heap.size):b≤(w.drew.alloc o).heap.size:=by
 have:(w.drew.alloc o).heap.size=w.heap.size+1:=by simp
 omega
theorem alloc_room' {w:World} {b:Nat} {o:Obj} (h:b≤w.heap.size):b≤(w.alloc o).heap.size:=by
 have:(w.alloc o).heap.size=w.heap.size+1:=by simp
 omega
theorem four_one (b:ByteArray): ∀u∈four b,u.oneCell'=true:=by simp [four,Value.oneCell']
theorem more_one (b c:ByteArray): ∀u∈more b c,u.oneCell'=true:=by simp [more,Value.oneCell']
set_option maxHeartbeats 6400000 in
set_option maxRecDepth 100000 in
theorem rules_walk (w:World):
  Calls Tryz.prog 148 #[] w fun e w'=> ∃v,e=.returned v∧w'.ownsRow w.heap.size 180 2 v 36 (acc 4++[.int .i64 2,.string ⟨#[68,68,42]⟩,.int .i64 2,.string ⟨#[45,68,68,42]⟩,.int .i64 4,.string ⟨#[35,116]⟩,.int .i64 4,.string ⟨#[35,102]⟩])∧Below w.heap.size w w':=by
 obtain ⟨i0,hi0,hz0,hz1,hz2⟩:=info_parts info_rule
 have HI0:=Lib.hid hi0
 have HZ0:=Lib.hid hz0
 have HZ1:=Lib.hid hz1
 have HZ2:=Lib.hid hz2
 clear hi0 hz0 hz1 hz2
 go_enter Tryz.func148,Tryz.ntmps148
 go_wp2_with (go_at_call 149;refine (plain_walk _).mono ?_;rintro e w' ⟨rfl,rfl⟩)
 obtain ⟨W0,hW0⟩: ∃W0,(w.alloc (.cells #[] 180)).alloc (.cells plainCells 9)=W0:=⟨_,rfl⟩
 rw [hW0]
 have HN:Hid (W0.heap[w.heap.size+1]? =some (.cells plainCells 9 (0,0))):=Lib.hid (by
  have:=blk_new (w.alloc (.cells #[] 180)) (.cells plainCells 9)
  rw [hW0] at this
  simpa using this)
 have HO:Hid (W0.ownsRow w.heap.size 180 2 (.slice (some ⟨w.heap.size,0,none⟩) 0 0) 0 (acc 0)):=Lib.hid (by
  refine ⟨rfl,.inr ⟨w.heap.size,0,#[],rfl,Nat.le_refl _, ?_,Nat.le_refl _,by decide,rfl,rfl⟩⟩
  rw [←hW0]
  exact blk_alloc (blk_new _ _) _)
 have HB:Hid (Below w.heap.size w W0):=Lib.hid (hW0▸below_alloc (below_alloc (Below.refl _ _) _) _)
 have HS0:Hid (w.heap.size+1<W0.heap.size):=Lib.hid (blk_lt HN.out)
 clear hW0
 obtain ⟨N,hN⟩: ∃N,N=w.heap.size+1:=⟨_,rfl⟩
 rw [←hN] at HN HS0
 rw [←hN]
 have HNN:=Lib.hid hN
 clear hN
 go_loopg [1,3] 4 (fun kq v1 v3 wr=> ∃i:Nat,v3=.int .i64 i∧kq+i=4∧Hid (wr.ownsRow w.heap.size 180 2 v1 (8*i) (acc i))∧Hid (wr.heap[N]? =some (.cells plainCells 9 (0,0)))∧Hid (Below w.heap.size w wr))
 case atStart=>exact ⟨0,rfl,rfl,HO,HN,HB⟩
 case round=>
  obtain ⟨i,rfl,hki,HOi,HNi,HBi⟩:=hrel
  clear HO HN HB
  have hile:i≤4:=by omega
  have HKI:=Lib.hid hki
  clear hki
  by_cases hi:i<4
  ·have hd1:decide ((i:Int)<4)=true:=decide_eq_true (by omega)
   have hi1:(0:Int)≤i:=by omega
   have hi2:(i:Int)<4:=by omega
   have hsz:=pB_size i hi
   have hlt0:w.heap.size≤wr.heap.size:=HBi.out.size
   obtain ⟨go1,rfl⟩: ∃g:Nat,g=gk:=⟨_,rfl⟩
   go_upto_region 6 with (fail)
   go_cut [1] (fun v1 wc=>Hid (wc.ownsRow w.heap.size 180 2 v1 (8*i+4) (acc i++four (pB i)))∧Hid (wc.heap[N]? =some (.cells plainCells 9 (0,0)))∧Hid (Below w.heap.size w wc))
   case first=>
    go_region_held_law (fun w'=>w'.heap[N]? =some (.cells plainCells 9 (0,0))∧w'.cell? ⟨N,i,none⟩=some (.string (pB i)))
     (first|exact S_of hi (blk_drew HNi.out)|exact S_of hi (blk_alloc (blk_drew HNi.out) _)|exact S_of hi (by assumption))
     (((refine step_append_lies _ rfl (.tmp 13) (.tmp 37) 176 rfl w.heap.size 180 i0 (.agg #[.int .i64 0,.string ByteArray.empty]) 2 24 Tryz.underlying176 HI0.out HZ0.out HZ1.out HZ2.out rfl (by decide) u1 (8*i) (acc i) rfl ((own_drew HOi.out).alloc _) ⟨wr.heap.size,0,none⟩ 4 4 (four (pB i)) rfl rfl (World.news_of_block (blk_new _ _)) (four_one _) (by decide) (max_room (by omega)) (by omega) (alloc_room hlt0) _ rfl ?_);intro g cap w1 hown hgrow hat hlt;have hN1:=blk_grown (blk_alloc (blk_drew HNi.out) _) hgrow (own_ne HOi.out HNi.out (by decide));(conv=>arg 1;arg 2;whnf)))
    all_goals
     go_wp2
     go_meet
     case rel=>exact ⟨Lib.hid hown,Lib.hid hN1,Lib.hid (((((Below.refl _ _).trans HBi.out).drew).alloc hlt0 _).grown hgrow (by simp;omega) (own_base HOi.out))⟩
   case rest=>
    obtain ⟨HOc,HNc,HBc⟩:=hcut
    clear HOi HNi HBi hlt0
    go_wp2
    go_loopg [1,4] 4 (fun kq v1 v4 wr=> ∃k:Nat,v4=.int .i64 k∧kq+k=4∧Hid (wr.ownsRow w.heap.size 180 2 v1 (8*i+4+k) (acc i++four (pB i)++inners i k))∧Hid (wr.heap[N]? =some (.cells plainCells 9 (0,0)))∧Hid (Below w.heap.size w wr))
    case atStart=>exact ⟨0,rfl,rfl,Lib.hid (by rw [show inners i 0=[] from rfl,List.append_nil];exact HOc.out),HNc,HBc⟩
    case round=>
     obtain ⟨k,rfl,hkk,HOk,HNk,HBk⟩:=hrel
     clear HOc HNc HBc
     have hkle:k≤4:=by omega
     have HKK:=Lib.hid hkk
     clear hkk
     by_cases hk:k<4
     ·have hd2:decide ((k:Int)<4)=true:=decide_eq_true (by omega)
      have hk1:(0:Int)≤k:=by omega
      have hk2:(k:Int)<4:=by omega
      have hsk:=pB_size k hk
      have hw5:IntKind.i64.wrap ((k:Int)+1)=(k:Int)+1:=IntWalk.i64_in _ (by omega)
      have hlt1:w.heap.size≤wr.heap.size:=HBk.out.size
      go_upto_region 10 with (fail)
      go_region_held_law (fun w'=>w'.heap[N]? =some (.cells plainCells 9 (0,0))∧w'.cell? ⟨N,i,none⟩=some (.string (pB i))∧w'.cell? ⟨N,k,none⟩=some (.string (pB k)))
       (first|exact S_of2 hi hk (blk_drew HNk.out)|exact S_of2 hi hk (blk_alloc (blk_drew HNk.out) _)|exact S_of2 hi hk (by assumption))
       (((refine step_append_lies _ rfl (.tmp 45) (.tmp 58) 176 rfl w.heap.size 180 i0 (.agg #[.int .i64 0,.string ByteArray.empty]) 2 24 Tryz.underlying176 HI0.out HZ0.out HZ1.out HZ2.out rfl (by decide) _ (8*i+4+k) (acc i++four (pB i)++inners i k) rfl ((own_drew HOk.out).alloc _) ⟨wr.heap.size,0,none⟩ 1 1 (more (pB i) (pB k)) rfl rfl (World.news_of_block (blk_new _ _)) (more_one _ _) (by decide) (max_room (by omega)) (by omega) (alloc_room hlt1) _ rfl ?_);intro g cap w1 hown hgrow hat hlt;have hN1:=blk_grown (blk_alloc (blk_drew HNk.out) _) hgrow (own_ne HOk.out HNk.out (by decide));(conv=>arg 1;arg 2;whnf)))
      all_goals
       go_wp2
       go_roundg (gk-1)
       case measure=>have:=HKK.out;omega
       case rel=>exact ⟨k+1,by go_num,by have:=HKK.out;omega,Lib.hid (by rw [inners_snoc,←List.append_assoc];exact hown),Lib.hid hN1,Lib.hid (((((Below.refl _ _).trans HBk.out).drew).alloc hlt1 _).grown hgrow (by simp;omega) (own_base HOk.out))⟩
     ·have hd2:decide ((k:Int)<4)=false:=decide_eq_false (by omega)
      have hw5:IntKind.i64.wrap ((i:Int)+1)=(i:Int)+1:=IntWalk.i64_in _ (by omega)
      have hk4:k=4:=by omega
      have HOz:Hid (wr.ownsRow w.heap.size 180 2 _ (8*(i+1)) (acc (i+1))):=Lib.hid (by
       have:=HOk.out
       rw [hk4] at this
       rw [acc_snoc,←List.append_assoc,show 8*(i+1)=8*i+4+4 from by omega]
       exact this)
      clear hk4 HOk
      go_wp2
      go_roundg (go1-1)
      case measure=>have:=HKI.out;omega
      case rel=>exact ⟨i+1,by go_num,by have:=HKI.out;omega,HOz,HNk,HBk⟩
  ·have hd1:decide ((i:Int)<4)=false:=decide_eq_false (by omega)
   have hi4:i=4:=by omega
   have HOz:Hid (wr.ownsRow w.heap.size 180 2 u1 32 (acc 4)):=Lib.hid (by have:=HOi.out;rw [hi4] at this;exact this)
   have hlt2:w.heap.size≤wr.heap.size:=HBi.out.size
   clear hi4 HOi
   go_wp2_with (at_builtin;refine wpList_append_lies _ rfl (.tmp 60) (.tmp 65) 176 rfl w.heap.size 180 i0 (.agg #[.int .i64 0,.string ByteArray.empty]) 2 24 Tryz.underlying176 HI0.out HZ0.out HZ1.out HZ2.out rfl (by decide) _ 32 (acc 4) rfl (HOz.out.alloc _) ⟨wr.heap.size,0,none⟩ 4 4 [.int .i64 2,.string ⟨#[68,68,42]⟩,.int .i64 2,.string ⟨#[45,68,68,42]⟩,.int .i64 4,.string ⟨#[35,116]⟩,.int .i64 4,.string ⟨#[35,102]⟩] rfl rfl (World.news_of_block (blk_new _ _)) (by simp [Value.oneCell']) (by decide) (max_room (by omega)) (by omega) (alloc_room' hlt2) _ rfl ?_;intro g cap w1 hown hgrow hat hlt)
   go_ret
   exact ⟨_,rfl,hown,((((Below.refl _ _).trans HBi.out)).alloc hlt2 _).grown hgrow (by simp;omega) (own_base HOz.out)⟩
end Go.Proofs.YtipnlgmeonepfaaGreatDoor.Ref
