/- The reference's comment. -/
import Derived.Test.YtipnlgmeonepfaaGreatDoorProg
import Derived.Test.YtipnlgmeonepfaaGreatDoorMoreWords
import Derived.Test.YtipnlgmeonepfaaGreatDoorLxLocal
import Derived.WalkKit
import Derived.Below
import Derived.Outline
import Derived.Lib.Hide
import Derived.IntWalk
import Derived.WalkLawsBesides
import Derived.WalkSmall
import Derived.Lib.Bytes
import Derived.Lib.Strings
import Derived.Deep.LoopGhost
import Derived.Deep.QuietTactic
import Derived.BigQuiet
set_option linter.unusedVariables false
set_option linter.unusedSimpArgs false
namespace Go.Proofs.YtipnlgmeonepfaaGreatDoor.Ref
open Go.RowKit Go.Proofs.YtipnlgmeonepfaaGreatDoorW.PrintWords Go.Proofs.YtipnlgmeonepfaaGreatDoorW.PrintMore
attribute [local go_sem] max2_int min2_int max_two min_two max_three min_three max_four min_four

def Cut4 (k a n e:Int) (base:World) (r:Ending) (w':World):Prop:=r=.returned (.agg #[.int .i64 k,.int .i64 a,.int .i64 n,.int .i64 e])∧Below base.heap.size base w'

set_option maxHeartbeats 1600000 in
set_option maxRecDepth 100000 in
theorem comment_short (text:ByteArray) (at_:Nat) (hs:text.size≤20000) (hl:at_≤text.size) (h:text.size<at_+2) (w:World):
  Calls Tryz.prog 138 #[.string text,.int .i64 at_] w (Cut4 0 0 0 0 w):=by
 have hd:decide ((text.size:Int)-at_<2)=true:=decide_eq_true (by omega)
 have hw:IntKind.i64.wrap ((text.size:Int)-at_)=(text.size:Int)-at_:=IntWalk.i64_in _ (by omega)
 go_enter Tryz.func138,Tryz.ntmps138
 go_wp2
 exact bodyPost_ret (v:=.agg #[.int .i64 0,.int .i64 0,.int .i64 0,.int .i64 0]) (by simp [results,Tryz.results138,go_sem]) rfl ⟨rfl,by repeat (first|(with_reducible exact Below.refl _ _)|(with_reducible apply below_alloc)|(with_reducible refine Below.setCell ?_ ?_ _;case refine_2=>simp))⟩

set_option maxHeartbeats 1600000 in
set_option maxRecDepth 100000 in
theorem comment_first (text:ByteArray) (at_:Nat) (hs:text.size≤20000) (hl:at_+2≤text.size) (h:(text[at_]'(by omega)).toNat≠47) (w:World):
  Calls Tryz.prog 138 #[.string text,.int .i64 at_] w (Cut4 0 0 0 0 w):=by
 have hd:decide ((text.size:Int)-at_<2)=false:=decide_eq_false (by omega)
 have hw:IntKind.i64.wrap ((text.size:Int)-at_)=(text.size:Int)-at_:=IntWalk.i64_in _ (by omega)
 have h1:at_<text.size:=by omega
 have hd2:decide ((at_:Int)<text.size)=true:=decide_eq_true (by omega)
 have hx:(((text[at_]'h1).toNat:Int)==47)=false:=by rw [beq_eq_false_iff_ne];omega
 have hx2:(((text[at_]'h1).toNat:Int) !=47)=true:=by rw [bne_iff_ne];omega
 go_enter Tryz.func138,Tryz.ntmps138
 go_wp2
 exact bodyPost_ret (v:=.agg #[.int .i64 0,.int .i64 0,.int .i64 0,.int .i64 0]) (by simp [results,Tryz.results138,go_sem]) rfl ⟨rfl,by repeat (first|(with_reducible exact Below.refl _ _)|(with_reducible apply below_alloc)|(with_reducible refine Below.setCell ?_ ?_ _;case refine_2=>simp))⟩

set_option maxHeartbeats 1600000 in
set_option maxRecDepth 100000 in
theorem comment_second (text:ByteArray) (at_:Nat) (hs:text.size≤20000) (hl:at_+2≤text.size) (h:(text[at_]'(by omega)).toNat=47) (h1:(text[at_+1]'(by omega)).toNat≠47) (h2:(text[at_+1]'(by omega)).toNat≠42) (w:World):
  Calls Tryz.prog 138 #[.string text,.int .i64 at_] w (Cut4 0 0 0 0 w):=by
 have hd:decide ((text.size:Int)-at_<2)=false:=decide_eq_false (by omega)
 have hw:IntKind.i64.wrap ((text.size:Int)-at_)=(text.size:Int)-at_:=IntWalk.i64_in _ (by omega)
 have hw2:IntKind.i64.wrap ((at_:Int)+1)=(at_:Int)+1:=IntWalk.i64_in _ (by omega)
 have g1:at_<text.size:=by omega
 have g2:at_+1<text.size:=by omega
 have hd2:decide ((at_:Int)<text.size)=true:=decide_eq_true (by omega)
 have hd3:decide ((at_:Int)+1<text.size)=true:=decide_eq_true (by omega)
 have hi3:(0:Int)≤(at_:Int)+1:=by omega
 have ht:((at_:Int)+1).toNat=at_+1:=by omega
 have hx:(((text[at_]'g1).toNat:Int)==47)=true:=by rw [beq_iff_eq];omega
 have hx2:(((text[at_]'g1).toNat:Int) !=47)=false:=by rw [bne_eq_false_iff_eq];omega
 have hy:(((text[at_+1]'g2).toNat:Int) !=47)=true:=by rw [bne_iff_ne];omega
 have hy2:(((text[at_+1]'g2).toNat:Int) !=42)=true:=by rw [bne_iff_ne];omega
 clear h h1 h2
 go_enter Tryz.func138,Tryz.ntmps138
 go_wp2
 exact bodyPost_ret (v:=.agg #[.int .i64 0,.int .i64 0,.int .i64 0,.int .i64 0]) (by simp [results,Tryz.results138,go_sem]) rfl ⟨rfl,by repeat (first|(with_reducible exact Below.refl _ _)|(with_reducible apply below_alloc)|(with_reducible refine Below.setCell ?_ ?_ _;case refine_2=>simp))⟩
theorem line_step (s:List UInt8) (n:Nat) (h:n<s.length):Lx.lineGo (s.drop n) n=if Lx.byteAt s n=10 then n else Lx.lineGo (s.drop (n+1)) (n+1):=by
 have e:Lx.byteAt s n=(s[n]).toNat:=by
  unfold Lx.byteAt
  rw [List.getD_eq_getElem?_getD,List.getElem?_eq_getElem h]
  rfl
 rw [List.drop_eq_getElem_cons h,e]
 rfl
set_option maxHeartbeats 1600000 in
set_option maxRecDepth 100000 in
theorem comment_line (text:ByteArray) (at_:Nat) (hs:text.size≤20000) (hl:at_+2≤text.size) (h:(text[at_]'(by omega)).toNat=47) (h1:(text[at_+1]'(by omega)).toNat=47) (w:World):
  Calls Tryz.prog 138 #[.string text,.int .i64 at_] w (Cut4 8 at_ (Lx.lineGo ((text.data.toList.drop at_).drop 2) 2:Nat) 0 w):=by
 have hd:decide ((text.size:Int)-at_<2)=false:=decide_eq_false (by omega)
 have hw:IntKind.i64.wrap ((text.size:Int)-at_)=(text.size:Int)-at_:=IntWalk.i64_in _ (by omega)
 have hw2:IntKind.i64.wrap ((at_:Int)+1)=(at_:Int)+1:=IntWalk.i64_in _ (by omega)
 have g1:at_<text.size:=by omega
 have g2:at_+1<text.size:=by omega
 have hd2:decide ((at_:Int)<text.size)=true:=decide_eq_true (by omega)
 have hd3:decide ((at_:Int)+1<text.size)=true:=decide_eq_true (by omega)
 have hi3:(0:Int)≤(at_:Int)+1:=by omega
 have ht:((at_:Int)+1).toNat=at_+1:=by omega
 have hx:(((text[at_]'g1).toNat:Int)==47)=true:=by rw [beq_iff_eq];omega
 have hx2:(((text[at_]'g1).toNat:Int) !=47)=false:=by rw [bne_eq_false_iff_eq];omega
 have hy:(((text[at_+1]'g2).toNat:Int) !=47)=false:=by rw [bne_eq_false_iff_eq];omega
 have hy2:(((text[at_+1]'g2).toNat:Int)==47)=true:=by rw [beq_iff_eq];omega
 obtain ⟨L,hL⟩: ∃L,Lx.lineGo ((text.data.toList.drop at_).drop 2) 2=L:=⟨_,rfl⟩
 have HL:=Lib.hid hL
 rw [hL]
 clear h h1 hL
 go_enter Tryz.func138,Tryz.ntmps138
 go_wp2
 go_loopg [5] (text.size-(at_+2)) (fun kq v wr=> ∃n:Nat,v=.int .i64 n∧kq+(at_+n)=text.size∧Hid (Lx.lineGo ((text.data.toList.drop at_).drop n) n=L)∧wr=w.alloc (.cells #[.int .i64 0,.int .i64 0,.int .i64 0,.int .i64 0] 153))
 case atStart=>exact ⟨2,rfl,by omega,HL,rfl⟩
 case round=>
  obtain ⟨n,rfl,hk,HN,rfl⟩:=hrel
  have hle:at_+n≤text.size:=by omega
  have HK:=Lib.hid hk
  clear hk
  have hw3:IntKind.i64.wrap ((at_:Int)+n)=(at_:Int)+n:=IntWalk.i64_in _ (by omega)
  have hi4:(0:Int)≤(at_:Int)+n:=by omega
  have ht4:((at_:Int)+n).toNat=at_+n:=by omega
  have hl0:(text.data.toList.drop at_).length=text.size-at_:=by rw [List.length_drop,data_length]
  by_cases hlt:at_+n<text.size
  ·have hd4:decide ((at_:Int)+n<text.size)=true:=decide_eq_true (by omega)
   have hw5:IntKind.i64.wrap ((n:Int)+1)=(n:Int)+1:=IntWalk.i64_in _ (by omega)
   have hstep:=Lib.hid (line_step (text.data.toList.drop at_) n (by omega))
   have hbyte:Hid (Lx.byteAt (text.data.toList.drop at_) n=(text[at_+n]'hlt).toNat):=Lib.hid (by
    rw [Lx.byteAt_drop]
    unfold Lx.byteAt
    rw [List.getD_eq_getElem?_getD,List.getElem?_eq_getElem (by rw [data_length];exact hlt)]
    rfl)
   clear hl0
   by_cases h10:(text[at_+n]'hlt).toNat=10
   ·have hx3:(((text[at_+n]'hlt).toNat:Int) !=10)=false:=by rw [bne_eq_false_iff_eq];omega
    have HF:Hid (L=n):=Lib.hid (by have:=HN.out;rw [hstep.out,hbyte.out,if_pos h10] at this;exact this.symm)
    clear h10 hstep hbyte HN
    go_wp2
    rw [HF.out]
    exact bodyPost_ret (v:=.agg #[.int .i64 8,.int .i64 at_,.int .i64 n,.int .i64 0]) (by simp [results,Tryz.results138,go_sem]) rfl ⟨rfl,by repeat (first|(with_reducible exact Below.refl _ _)|(with_reducible apply below_alloc)|(with_reducible refine Below.setCell ?_ ?_ _;case refine_2=>simp))⟩
   ·have hx3:(((text[at_+n]'hlt).toNat:Int) !=10)=true:=by rw [bne_iff_ne];omega
    have HF:Hid (Lx.lineGo ((text.data.toList.drop at_).drop (n+1)) (n+1)=L):=Lib.hid (by have:=HN.out;rw [hstep.out,hbyte.out,if_neg h10] at this;exact this)
    clear h10 hstep hbyte HN
    go_wp2
    go_roundg (gk-1)
    case measure=>have:=HK.out;omega
    case rel=>exact ⟨n+1,by go_num,by have:=HK.out;omega,HF,rfl⟩
  ·have hd4:decide ((at_:Int)+n<text.size)=false:=decide_eq_false (by omega)
   have HF:Hid (L=n):=Lib.hid (by
    have:=HN.out
    rw [List.drop_of_length_le (by rw [hl0];omega)] at this
    exact this.symm)
   clear hl0 HN
   go_wp2
   rw [HF.out]
   exact bodyPost_ret (v:=.agg #[.int .i64 8,.int .i64 at_,.int .i64 n,.int .i64 0]) (by simp [results,Tryz.results138,go_sem]) rfl ⟨rfl,by repeat (first|(with_reducible exact Below.refl _ _)|(with_reducible apply below_alloc)|(with_reducible refine Below.setCell ?_ ?_ _;case refine_2=>simp))⟩

theorem cons_at (text:ByteArray) (i:Nat) (h:i<text.size):text.data.toList.drop i=text[i]::text.data.toList.drop (i+1):=by
 rw [List.drop_eq_getElem_cons (by rw [data_length];exact h)]
 rfl
theorem one_byte (text:ByteArray) (i:Nat) (h:i+1=text.size):(text.extract i text.size).toList=[text[i]'(by omega)]:=by
 rw [Lib.toList_data,Lib.extract_data,cons_at text i (by omega),show text.size-i=1 from by omega]
 rfl
theorem two_bytes (text:ByteArray) (i j:Nat) (h:i+2≤text.size) (hj:j=i+2):(text.extract i j).toList=[text[i]'(by omega),text[i+1]'(by omega)]:=by
 rw [Lib.toList_data,Lib.extract_data,cons_at text i (by omega),cons_at text (i+1) (by omega),show j-i=2 from by omega]
 rfl
theorem two_is (x y a b:UInt8):(([x,y]:List UInt8)==[a,b])=decide (x.toNat=a.toNat∧y.toNat=b.toNat):=by
 rw [Bool.eq_iff_iff,decide_eq_true_eq,beq_iff_eq]
 simp only [List.cons.injEq,and_true]
 rw [←UInt8.toNat_inj,←UInt8.toNat_inj]
/-- What is told of a block comment while the reference goes through it. -/
def Deep (v:List UInt8) (res:Except Int Nat) (n d:Nat):Prop:=(0<d∧Lx.blockGo (v.drop n) n (d:Int)=res)∨(d=0∧res=.ok n)
def Told (res:Except Int Nat) (at_:Nat) (w:World) (r:Ending) (w':World):Prop:=match res with
 | .ok n=>Cut4 8 at_ n 0 w r w'
 | .error e=>Cut4 0 0 0 e w r w'
set_option maxHeartbeats 3200000 in
set_option maxRecDepth 100000 in
theorem comment_block (text:ByteArray) (at_:Nat) (hs:text.size≤20000) (hl:at_+2≤text.size) (h:(text[at_]'(by omega)).toNat=47) (h1:(text[at_+1]'(by omega)).toNat=42) (w:World):
  Calls Tryz.prog 138 #[.string text,.int .i64 at_] w (Told (Lx.blockGo ((text.data.toList.drop at_).drop 2) 2 1) at_ w):=by
 have hd:decide ((text.size:Int)-at_<2)=false:=decide_eq_false (by omega)
 have hw:IntKind.i64.wrap ((text.size:Int)-at_)=(text.size:Int)-at_:=IntWalk.i64_in _ (by omega)
 have hw2:IntKind.i64.wrap ((at_:Int)+1)=(at_:Int)+1:=IntWalk.i64_in _ (by omega)
 have g1:at_<text.size:=by omega
 have g2:at_+1<text.size:=by omega
 have hd2:decide ((at_:Int)<text.size)=true:=decide_eq_true (by omega)
 have hd3:decide ((at_:Int)+1<text.size)=true:=decide_eq_true (by omega)
 have hi3:(0:Int)≤(at_:Int)+1:=by omega
 have ht:((at_:Int)+1).toNat=at_+1:=by omega
 have hx:(((text[at_]'g1).toNat:Int)==47)=true:=by rw [beq_iff_eq];omega
 have hx2:(((text[at_]'g1).toNat:Int) !=47)=false:=by rw [bne_eq_false_iff_eq];omega
 have hy:(((text[at_+1]'g2).toNat:Int) !=47)=true:=by rw [bne_iff_ne];omega
 have hy2:(((text[at_+1]'g2).toNat:Int)==47)=false:=by rw [beq_eq_false_iff_ne];omega
 have hy3:(((text[at_+1]'g2).toNat:Int) !=42)=false:=by rw [bne_eq_false_iff_eq];omega
 obtain ⟨v,hv⟩: ∃v,text.data.toList.drop at_=v:=⟨_,rfl⟩
 have HVV:=Lib.hid hv
 rw [hv]
 obtain ⟨res,hres⟩: ∃r,Lx.blockGo (v.drop 2) 2 1=r:=⟨_,rfl⟩
 have HR:=Lib.hid hres
 rw [hres]
 clear h h1 hv hres
 go_enter Tryz.func138,Tryz.ntmps138
 go_wp2
 go_loopg [5,6,7] (text.size-(at_+2)) (fun kq v5 v6 v7 wr=> ∃n d:Nat,v5=.int .i64 n∧v6=.int .i64 d∧kq+(at_+n)=text.size∧d≤100∧Hid (Deep v res n d)∧wr=w.alloc (.cells #[.int .i64 0,.int .i64 0,.int .i64 0,.int .i64 0] 153))
 case atStart=>exact ⟨2,1,rfl,rfl,by omega,by omega,Lib.hid (.inl ⟨by omega,HR.out⟩),rfl⟩
 case round=>
  obtain ⟨n,d,rfl,rfl,hk,hd100,HD,rfl⟩:=hrel
  have hle:at_+n≤text.size:=by omega
  have HK:=Lib.hid hk
  clear hk
  have hw3:IntKind.i64.wrap ((at_:Int)+n)=(at_:Int)+n:=IntWalk.i64_in _ (by omega)
  have hi4:(0:Int)≤(at_:Int)+n:=by omega
  by_cases hd0:d=0
  ·subst hd0
   have HF:Hid (res=.ok n):=Lib.hid (by
    rcases HD.out with h|h
    ·omega
    ·exact h.2)
   clear HD
   go_wp2
   refine bodyPost_ret (v:=.agg #[.int .i64 8,.int .i64 at_,.int .i64 n,.int .i64 0]) (by simp [results,Tryz.results138,go_sem]) rfl ?_
   rw [HF.out]
   exact ⟨rfl,by repeat (first|(with_reducible exact Below.refl _ _)|(with_reducible apply below_alloc)|(with_reducible refine Below.setCell ?_ ?_ _;case refine_2=>simp))⟩
  ·have hdp:decide ((0:Int)<d)=true:=decide_eq_true (by omega)
   by_cases hlt:at_+n<text.size
   ·have hd4:decide ((at_:Int)+n<text.size)=true:=decide_eq_true (by omega)
    have hw4:IntKind.i64.wrap ((at_:Int)+n+2)=(at_:Int)+n+2:=IntWalk.i64_in _ (by omega)
    have hw5:IntKind.i64.wrap ((n:Int)+1)=(n:Int)+1:=IntWalk.i64_in _ (by omega)
    have hw6:IntKind.i64.wrap ((n:Int)+1+1)=(n:Int)+1+1:=IntWalk.i64_in _ (by omega)
    have hw7:IntKind.i64.wrap ((d:Int)+1)=(d:Int)+1:=IntWalk.i64_in _ (by omega)
    have hw8:IntKind.i64.wrap ((d:Int)-1)=(d:Int)-1:=IntWalk.i64_in _ (by omega)
    by_cases hone:at_+n+1=text.size
    ·have hm:decide ((at_:Int)+n+2<text.size)=false:=decide_eq_false (by omega)
     have hm2: ¬(at_:Int)+n+2<text.size:=by omega
     have hb1:(at_:Int)+n≤text.size:=by omega
     have ht4:((at_:Int)+n).toNat=at_+n:=by omega
     obtain ⟨T,hT⟩: ∃T,text.extract (at_+n) text.size=T:=⟨_,rfl⟩
     have HT:T.toList=[text[at_+n]'hlt]:=by
      rw [←hT]
      exact one_byte text (at_+n) hone
     have HD':Hid (Deep v res (n+1) d):=Lib.hid (by
      rcases HD.out with h|h
      ·left
       refine ⟨h.1, ?_⟩
       have h2:=h.2
       rw [←HVV.out,List.drop_drop] at h2⊢
       rw [cons_at text (at_+n) hlt,List.drop_of_length_le (by rw [data_length];omega)] at h2
       rw [List.drop_of_length_le (by rw [data_length];omega),←h2]
       rfl
      ·omega)
     clear hone HD
     go_wp2
     go_roundg (gk-1)
     case measure=>have:=HK.out;omega
     case rel=>exact ⟨n+1,d,by go_num,rfl,by have:=HK.out;omega,hd100,HD',rfl⟩
    ·have htwo:at_+n+2≤text.size:=by omega
     have hlt2:at_+n+1<text.size:=by omega
     have hb1:(at_:Int)+n≤text.size:=by omega
     have hb2:(at_:Int)+n+2≤text.size:=by omega
     have hb3:(at_:Int)+n≤(at_:Int)+n+2:=by omega
     have ht4:((at_:Int)+n).toNat=at_+n:=by omega
     have ht5:((at_:Int)+n+2).toNat=at_+n+2:=by omega
     have hcons:Hid (v.drop n=text[at_+n]'hlt::text[at_+n+1]'hlt2::v.drop (n+2)):=Lib.hid (by
      rw [←HVV.out,List.drop_drop,List.drop_drop,cons_at text (at_+n) hlt,cons_at text (at_+n+1) hlt2]
      rfl)
     have hcons1:Hid (v.drop (n+1)=text[at_+n+1]'hlt2::v.drop (n+2)):=Lib.hid (by
      rw [←HVV.out,List.drop_drop,List.drop_drop,show at_+(n+1)=at_+n+1 from by omega,cons_at text (at_+n+1) hlt2]
      rfl)
     have HD2:Hid (Lx.blockGo (text[at_+n]'hlt::text[at_+n+1]'hlt2::v.drop (n+2)) n (d:Int)=res):=Lib.hid (by
      rcases HD.out with h|h
      ·rw [←hcons.out];exact h.2
      ·omega)
     obtain ⟨T,hT1,hT2,HT⟩: ∃T,text.extract (at_+n) (at_+n+2)=T∧(at_+n+2=text.size→text.extract (at_+n) text.size=T)∧Hid (T.toList=[text[at_+n]'hlt,text[at_+n+1]'hlt2]):=
      ⟨_,rfl,fun e=>by rw [e],Lib.hid (two_bytes text (at_+n) _ htwo rfl)⟩
     obtain ⟨x,hx'⟩: ∃x,text[at_+n]'hlt=x:=⟨_,rfl⟩
     obtain ⟨y,hy'⟩: ∃y,text[at_+n+1]'hlt2=y:=⟨_,rfl⟩
     rw [hx',hy'] at HT HD2
     rw [hy'] at hcons1
     clear hx' hy' hcons HD hlt2
     by_cases c1:x.toNat=47∧y.toNat=42
     ·have q1:(T.toList==[47,42])=true:=by rw [HT.out,two_is];exact decide_eq_true c1
      by_cases c2:100<d+1
      ·have q2:decide ((100:Int)<(d:Int)+1)=true:=decide_eq_true (by omega)
       have HF:Hid (res=.error 6):=Lib.hid (by
        have h2:=HD2.out
        unfold Lx.blockGo at h2
        rw [if_pos c1,if_pos (by omega)] at h2
        exact h2.symm)
       clear HD2 c1 c2 hcons1
       by_cases hm:at_+n+2<text.size
       ·have hm1:decide ((at_:Int)+n+2<text.size)=true:=decide_eq_true (by omega)
        go_wp2
        refine bodyPost_ret (v:=.agg #[.int .i64 0,.int .i64 0,.int .i64 0,.int .i64 6]) (by simp [results,Tryz.results138,go_sem]) rfl ?_
        rw [HF.out]
        exact ⟨rfl,by repeat (first|(with_reducible exact Below.refl _ _)|(with_reducible apply below_alloc)|(with_reducible refine Below.setCell ?_ ?_ _;case refine_2=>simp))⟩
       ·have hm1:decide ((at_:Int)+n+2<text.size)=false:=decide_eq_false (by omega)
        have hT3:=hT2 (by omega)
        go_wp2
        refine bodyPost_ret (v:=.agg #[.int .i64 0,.int .i64 0,.int .i64 0,.int .i64 6]) (by simp [results,Tryz.results138,go_sem]) rfl ?_
        rw [HF.out]
        exact ⟨rfl,by repeat (first|(with_reducible exact Below.refl _ _)|(with_reducible apply below_alloc)|(with_reducible refine Below.setCell ?_ ?_ _;case refine_2=>simp))⟩
      ·have q2:decide ((100:Int)<(d:Int)+1)=false:=decide_eq_false (by omega)
       have HF:Hid (Deep v res (n+1+1) (d+1)):=Lib.hid (by
        have h2:=HD2.out
        unfold Lx.blockGo at h2
        rw [if_pos c1,if_neg (by omega)] at h2
        exact .inl ⟨by omega,h2⟩)
       clear HD2 c1 hcons1
       by_cases hm:at_+n+2<text.size
       ·have hm1:decide ((at_:Int)+n+2<text.size)=true:=decide_eq_true (by omega)
        go_wp2
        go_roundg (gk-2)
        case measure=>have:=HK.out;omega
        case rel=>exact ⟨n+1+1,d+1,by go_num,by go_num,by have:=HK.out;omega,by omega,HF,rfl⟩
       ·have hm1:decide ((at_:Int)+n+2<text.size)=false:=decide_eq_false (by omega)
        have hT3:=hT2 (by omega)
        go_wp2
        go_roundg (gk-2)
        case measure=>have:=HK.out;omega
        case rel=>exact ⟨n+1+1,d+1,by go_num,by go_num,by have:=HK.out;omega,by omega,HF,rfl⟩
     ·have q1:(T.toList==[47,42])=false:=by rw [HT.out,two_is];exact decide_eq_false c1
      by_cases c3:x.toNat=42∧y.toNat=47
      ·have q3:(T.toList==[42,47])=true:=by rw [HT.out,two_is];exact decide_eq_true c3
       have HF:Hid (Deep v res (n+1+1) (d-1)):=Lib.hid (by
        have h2:=HD2.out
        unfold Lx.blockGo at h2
        rw [if_neg c1,if_pos c3] at h2
        by_cases hone1:d=1
        ·rw [if_pos (by omega)] at h2
         exact .inr ⟨by omega,h2.symm⟩
        ·rw [if_neg (by omega)] at h2
         refine .inl ⟨by omega, ?_⟩
         rw [show ((d-1:Nat):Int)=(d:Int)-1 from by omega]
         exact h2)
       have hdm:(d:Int)-1=((d-1:Nat):Int):=by omega
       have HDM:=Lib.hid hdm
       clear HD2 c1 c3 hcons1 hdm
       by_cases hm:at_+n+2<text.size
       ·have hm1:decide ((at_:Int)+n+2<text.size)=true:=decide_eq_true (by omega)
        go_wp2
        go_roundg (gk-2)
        case measure=>have:=HK.out;omega
        case rel=>exact ⟨n+1+1,d-1,by go_num,by rw [HDM.out],by have:=HK.out;omega,by omega,HF,rfl⟩
       ·have hm1:decide ((at_:Int)+n+2<text.size)=false:=decide_eq_false (by omega)
        have hT3:=hT2 (by omega)
        go_wp2
        go_roundg (gk-2)
        case measure=>have:=HK.out;omega
        case rel=>exact ⟨n+1+1,d-1,by go_num,by rw [HDM.out],by have:=HK.out;omega,by omega,HF,rfl⟩
      ·have q3:(T.toList==[42,47])=false:=by rw [HT.out,two_is];exact decide_eq_false c3
       have HF:Hid (Deep v res (n+1) d):=Lib.hid (by
        have h2:=HD2.out
        unfold Lx.blockGo at h2
        rw [if_neg c1,if_neg c3] at h2
        refine .inl ⟨by omega, ?_⟩
        rw [hcons1.out]
        exact h2)
       clear HD2 c1 c3 hcons1
       by_cases hm:at_+n+2<text.size
       ·have hm1:decide ((at_:Int)+n+2<text.size)=true:=decide_eq_true (by omega)
        go_wp2
        go_roundg (gk-1)
        case measure=>have:=HK.out;omega
        case rel=>exact ⟨n+1,d,by go_num,rfl,by have:=HK.out;omega,hd100,HF,rfl⟩
       ·have hm1:decide ((at_:Int)+n+2<text.size)=false:=decide_eq_false (by omega)
        have hT3:=hT2 (by omega)
        go_wp2
        go_roundg (gk-1)
        case measure=>have:=HK.out;omega
        case rel=>exact ⟨n+1,d,by go_num,rfl,by have:=HK.out;omega,hd100,HF,rfl⟩
   ·have hd4:decide ((at_:Int)+n<text.size)=false:=decide_eq_false (by omega)
    have HF:Hid (res=.error 13):=Lib.hid (by
     rcases HD.out with h|h
     ·have h2:=h.2
      rw [←HVV.out,List.drop_drop,List.drop_of_length_le (by rw [data_length];omega)] at h2
      exact h2.symm
     ·omega)
    clear HD
    go_wp2
    refine bodyPost_ret (v:=.agg #[.int .i64 0,.int .i64 0,.int .i64 0,.int .i64 13]) (by simp [results,Tryz.results138,go_sem]) rfl ?_
    rw [HF.out]
    exact ⟨rfl,by repeat (first|(with_reducible exact Below.refl _ _)|(with_reducible apply below_alloc)|(with_reducible refine Below.setCell ?_ ?_ _;case refine_2=>simp))⟩
end Go.Proofs.YtipnlgmeonepfaaGreatDoor.Ref
