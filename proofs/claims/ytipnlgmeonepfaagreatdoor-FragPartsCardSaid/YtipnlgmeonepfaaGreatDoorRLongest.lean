/- The reference's matcher: longest is the most that a pattern takes. -/
import Derived.Test.YtipnlgmeonepfaaGreatDoorRMem
import Derived.Test.YtipnlgmeonepfaaGreatDoorRComment
import Derived.Deep.OwnRows
import Derived.KernelRfl
import Derived.Tactics
import Derived.RowKit3
import Derived.Laws.MakeOwn
import Derived.Laws.OwnMore
set_option linter.unusedVariables false
set_option linter.unusedSimpArgs false
namespace Go.Proofs.YtipnlgmeonepfaaGreatDoor.Ref
open Go.RowKit Go.Proofs.YtipnlgmeonepfaaGreatDoorW.PrintWords Go.Proofs.YtipnlgmeonepfaaGreatDoorW.PrintMore
attribute [local go_sem] max2_int min2_int max_two min_two max_three min_three max_four min_four

/-- A pattern's text. -/
def text:List (Nat×Bool)→List UInt8
 |[]=>[]
 |(c,true)::p=>UInt8.ofNat c::42::text p
 |(c,false)::p=>UInt8.ofNat c::text p
/-- The table after a part of the pattern; what was reckoned so far of the next one. -/
def tab (s:List UInt8) (p:List (Nat×Bool)):List Bool:=(List.range (s.length+1)).map (Lx.R s p)
def part (s:List UInt8) (p:List (Nat×Bool)) (i:Nat):List Bool:=(List.range (s.length+1)).map (fun j=>decide (j<i)&&Lx.R s p j)
theorem tab_len (s:List UInt8) (p:List (Nat×Bool)):(tab s p).length=s.length+1:=by simp [tab]
theorem part_len (s:List UInt8) (p:List (Nat×Bool)) (i:Nat):(part s p i).length=s.length+1:=by simp [part]
theorem part_zero (s:List UInt8) (p:List (Nat×Bool)):part s p 0=List.replicate (s.length+1) false:=by
 refine List.ext_getElem (by simp [part]) fun j h1 h2=> ?_
 simp [part]
theorem part_all (s:List UInt8) (p:List (Nat×Bool)):part s p (s.length+1)=tab s p:=by
 refine List.ext_getElem (by simp [part,tab]) fun j h1 h2=> ?_
 have hj:j<s.length+1:=by simpa [part] using h1
 simp [part,tab,hj]
theorem part_set (s:List UInt8) (p:List (Nat×Bool)) (i:Nat) (h:Lx.R s p i=true):(part s p i).set i true=part s p (i+1):=by
 refine List.ext_getElem (by simp [part]) fun j h1 h2=> ?_
 rw [List.getElem_set]
 by_cases e:i=j
 ·subst e
  simp [part,h]
 ·have:decide (j<i)=decide (j<i+1):=by
   by_cases hlt:j<i
   ·simp [hlt,show j<i+1 by omega]
   ·simp [hlt,show¬j<i+1 by omega]
  simp [part,e,this]
theorem part_skip (s:List UInt8) (p:List (Nat×Bool)) (i:Nat) (h:Lx.R s p i=false):part s p i=part s p (i+1):=by
 refine List.ext_getElem (by simp [part]) fun j h1 h2=> ?_
 by_cases e:i=j
 ·subst e
  simp [part,h]
 ·have:decide (j<i)=decide (j<i+1):=by
   by_cases hlt:j<i
   ·simp [hlt,show j<i+1 by omega]
   ·simp [hlt,show¬j<i+1 by omega]
  simp [part,this]

def arr (l:List Bool):Array Value:=(l.map Value.bool).toArray
theorem arr_get (l:List Bool) (i:Nat) (b:Bool) (h:l[i]? =some b):(arr l)[i]? =some (.bool b):=by
 unfold arr
 rw [List.getElem?_toArray,List.getElem?_map,h]
 rfl
theorem arr_set (l:List Bool) (i:Nat) (b:Bool):(arr l).setIfInBounds i (.bool b)=arr (l.set i b):=by
 unfold arr
 rw [List.setIfInBounds_toArray,List.map_set]
theorem tab_get (s:List UInt8) (p:List (Nat×Bool)) (i:Nat) (h:i≤s.length):(tab s p)[i]? =some (Lx.R s p i):=by
 unfold tab
 rw [List.getElem?_map,List.getElem?_range (by omega)]
 rfl
theorem part_get (s:List UInt8) (p:List (Nat×Bool)) (i j:Nat) (h:j≤s.length) (hj:j<i):(part s p i)[j]? =some (Lx.R s p j):=by
 unfold part
 rw [List.getElem?_map,List.getElem?_range (by omega),Option.map_some,decide_eq_true hj,Bool.true_and]
theorem made_arr (n:Nat):madeCells #[Value.bool false] n=arr (List.replicate n false):=by
 apply Array.ext'
 rw [toList_madeCells_one]
 unfold arr
 simp
theorem tab_nil (s:List UInt8):(List.replicate (s.length+1) false).set 0 true=tab s []:=by
 refine List.ext_getElem? fun j=> ?_
 rw [List.getElem?_set]
 by_cases hj:j<s.length+1
 ·rw [tab_get s [] j (by omega),Lx.R_nil]
  by_cases e:0=j
  ·subst e;simp
  ·rw [if_neg e,List.getElem?_replicate,if_pos hj]
   have:j≠0:=fun h=>e h.symm
   simp [this]
 ·have:(tab s []).length=s.length+1:=tab_len s []
  rw [List.getElem?_eq_none (l:=tab s []) (by omega),if_neg (by omega),List.getElem?_replicate,if_neg hj]
def Holds (w:World) (B:Nat) (l:List Bool):Prop:=w.heap[B]? =some (.cells (arr l) 4 (0,0))
theorem Holds.tab {w:World} {B:Nat} {s:List UInt8} {p:List (Nat×Bool)} (h:Holds w B (tab s p)) (i:Nat) (hi:i≤s.length):w.cell? ⟨B,i,none⟩=some (.bool (Lx.R s p i)):=
 (blk_cell h i).trans (arr_get _ _ _ (tab_get s p i hi))
theorem Holds.part {w:World} {B:Nat} {s:List UInt8} {p:List (Nat×Bool)} {j:Nat} (h:Holds w B (part s p j)) (i:Nat) (hi:i≤s.length) (hj:i<j):w.cell? ⟨B,i,none⟩=some (.bool (Lx.R s p i)):=
 (blk_cell h i).trans (arr_get _ _ _ (part_get s p j i hi hj))
theorem Holds.some {w:World} {B:Nat} {l:List Bool} (h:Holds w B l) (i:Nat) (hi:i<l.length):w.cell? ⟨B,i,none⟩=some (.bool l[i]):=
 (blk_cell h i).trans (arr_get _ _ _ (List.getElem?_eq_getElem hi))
theorem Holds.free {w:World} {B:Nat} {l:List Bool} (h:Holds w B l) (i:Nat):w.frozen? ⟨B,i,none⟩=false:=blk_frozen h i
theorem Holds.put {w:World} {B:Nat} {l l':List Bool} (h:Holds w B l) (i:Nat) (b:Bool) (e:l.set i b=l'):Holds (w.setCell ⟨B,i,none⟩ (.bool b)) B l':=by
 have:=blk_set h i (.bool b)
 rw [arr_set,e] at this
 exact this
theorem Holds.far {w:World} {B:Nat} {l:List Bool} (h:Holds w B l) {p:Addr} (hp:B≠p.block) (u:Value):Holds (w.setCell p u) B l:=blk_far h hp u
theorem Holds.drewN {w:World} {B:Nat} {l:List Bool} (h:Holds w B l) (n:Nat):Holds (w.drewN n) B l:=h
theorem Holds.alloc {w:World} {B:Nat} {l:List Bool} (h:Holds w B l) (o:Obj):Holds (w.alloc o) B l:=blk_alloc h o
theorem quiet_eq {P:Program} {f:FuncId} {args:Array Value} {w:World} {n:Nat} {v:Value}
  (h:Calls P f args (w.drewN n) fun e w'=>e=.returned v∧w.drewN n=w'):Calls P f args (w.drewN n) fun e w''=>e=.returned v∧ ∃m,w''=w.drewN m:=
 h.mono fun _ _ ⟨he,hm⟩=>⟨he,n,hm.symm⟩
theorem quiet_eqs {P:Program} {f:FuncId} {args:Array Value} {w:World} {m n:Nat} {v:Value}
  (h:Calls P f args (w.drewN (m+n)) fun e w'=>e=.returned v∧w.drewN (m+n)=w'):Calls P f args (w.drewN (m+n)) fun e w''=>e=.returned v∧ ∃k,w''=w.drewN (m+k):=
 h.mono fun _ _ ⟨he,hm⟩=>⟨he,n,hm.symm⟩
theorem info_bool:(Tryz.prog.info? 4).map (fun i=>(i.zero,i.size,i.bytes))=some (some (.bool false),1,1):=by kernel_rfl
theorem lng_zero {s:List UInt8} {p:List (Nat×Bool)} (h: ∀i,1≤i→i≤s.length→Lx.R s p i=false):Lx.lng p s=0:=by
 rcases Nat.eq_zero_or_pos (Lx.lng p s) with e|e
 ·exact e
 ·have:=Lx.lng_R e
  rw [h _ e (Lx.lng_le p s)] at this
  cases this
/-- A pattern whose first sign takes just one byte wants that byte. -/
theorem R_begins {s:List UInt8} {c:Nat} (hc:Lx.mem c (Lx.byteAt s 0)=false): ∀(r:List (Nat×Bool)) (i:Nat),Lx.R s (r++[(c,false)]) i=false
 |[],0=>Lx.R_one0 _ _ _
 |[],i+1=>by
  rw [List.nil_append,Lx.R_one,Lx.R_nil]
  cases i with
  |zero=>rw [hc,Bool.and_false]
  |succ i=>rfl
 |(d,false)::r,0=>Lx.R_one0 _ _ _
 |(d,false)::r,i+1=>by rw [List.cons_append,Lx.R_one,R_begins hc r i,Bool.false_and]
 |(d,true)::r,0=>by rw [List.cons_append,Lx.R_star0,R_begins hc r 0]
 |(d,true)::r,i+1=>by
  rw [List.cons_append,Lx.R_star1,R_begins hc r (i+1),Bool.false_or]
  have:=R_begins hc ((d,true)::r) i
  rw [List.cons_append] at this
  rw [this,Bool.false_and]
termination_by r i=>(r.length,i)

set_option maxHeartbeats 3200000 in
set_option maxRecDepth 100000 in
theorem longest_none (pat s:ByteArray) (c:Nat) (hc:c<256) (h1:0<pat.size) (h2:pat.size≤1000) (hs:s.size≤1000) (hp:(pat[0]'h1).toNat=c) (h:s.size=0∨ ∃h3:0<s.size,Lx.mem c (s[0]'h3).toNat=false) (w:World):
  Calls Tryz.prog 150 #[.string pat,.string s] w fun e w'=>e=.returned (.int .i64 0)∧ ∃n,w'=w.drewN n:=by
 rcases h with h|⟨h3,h⟩
 ·have hd:((s.size:Int)==0)=true:=by rw [beq_iff_eq];omega
  clear h
  go_enter Tryz.func150,Tryz.ntmps150
  go_wp2
  go_quiet (fail)
  go_wp2
  go_ret
  exact ⟨rfl,_,rfl⟩
 ·have hd:((s.size:Int)==0)=false:=by rw [beq_eq_false_iff_ne];omega
  have hm:Hid (∀w:World,Calls Tryz.prog 125 #[.int .u8 (pat[0]'h1).toNat,.int .u8 (s[0]'h3).toNat] w fun e w'=>e=.returned (.bool false)∧w=w'):=Lib.hid fun w=>by
   have:=member_walk (pat[0]'h1).toNat (s[0]'h3).toNat (s[0]'h3).toNat_lt w
   rw [hp,h] at this
   rw [hp]
   exact this
  have hi1:(0:Int)<pat.size:=by omega
  have hi2:(0:Int)<s.size:=by omega
  clear h hp
  go_enter Tryz.func150,Tryz.ntmps150
  go_wp2
  go_quiet ((go_at_call 125;exact quiet_eq (hm.out _)))
  go_wp2
  go_ret
  exact ⟨rfl,_,rfl⟩

set_option maxHeartbeats 6400000 in
set_option maxRecDepth 100000 in
theorem longest_some (pat s:ByteArray) (c:Nat) (p q0:List (Nat×Bool)) (hrev:p.reverse=(c,false)::q0) (ht:pat.data.toList=text p.reverse) (hwf: ∀x∈p,x.1<256∧x.1≠42) (h1:0<pat.size) (h2:pat.size≤1000) (hs:s.size≤1000)
  (h3:0<s.size) (h:Lx.mem c (s[0]'h3).toNat=true) (w:World):
  Calls Tryz.prog 150 #[.string pat,.string s] w fun e w'=>e=.returned (.int .i64 (Lx.lng p s.data.toList))∧Below w.heap.size w w':=by
 have hp:(pat[0]'h1).toNat=c:=by
  have:pat.data.toList[0]? =some (UInt8.ofNat c):=by rw [ht,hrev];rfl
  rw [List.getElem?_eq_getElem (by rw [data_length];exact h1)] at this
  have:=Option.some.inj this
  rw [get_list pat 0 h1] at this
  rw [this]
  have hcc:=(hwf (c,false) (by rw [←List.mem_reverse,hrev];exact List.mem_cons_self)).1
  simp only [UInt8.toNat_ofNat']
  omega
 have hd:((s.size:Int)==0)=false:=by rw [beq_eq_false_iff_ne];omega
 have hm:Hid (∀w:World,Calls Tryz.prog 125 #[.int .u8 (pat[0]'h1).toNat,.int .u8 (s[0]'h3).toNat] w fun e w'=>e=.returned (.bool true)∧w=w'):=Lib.hid fun w=>by
  have:=member_walk (pat[0]'h1).toNat (s[0]'h3).toNat (s[0]'h3).toNat_lt w
  rw [hp,h] at this
  rw [hp]
  exact this
 obtain ⟨L,hL⟩: ∃L,Lx.lng p s.data.toList=L:=⟨_,rfl⟩
 have HL:=Lib.hid hL
 have HT:=Lib.hid ht
 have HW:=Lib.hid hwf
 obtain ⟨sl,hsl⟩: ∃l,s.data.toList=l:=⟨_,rfl⟩
 have hlen:sl.length=s.size:=by rw [←hsl];exact data_length s
 have HSL:=Lib.hid hsl
 have HLEN:=Lib.hid hlen
 rw [hL]
 have hmk: ∀w:World,(Instr.makeSlice 197 (.int .i64 ((s.size:Int)+1)) (.int .i64 ((s.size:Int)+1))).run Tryz.prog w=.ok (.slice (some ⟨w.heap.size,0,none⟩) (s.size+1) (s.size+1)) (w.alloc (.cells (madeCells #[.bool false] (s.size+1)) 4)):=fun w=>by
  have:=run_make_row' (P:=Tryz.prog) 197 4 (.bool false) 1 Tryz.underlying197 info_bool rfl .i64 .i64 (s.size+1) (by omega) (by omega) w
  rw [show ((s.size+1:Nat):Int)=(s.size:Int)+1 from by omega] at this
  exact this
 have hi1:(0:Int)<pat.size:=by omega
 have hi2:(0:Int)<s.size:=by omega
 have hw1:IntKind.i64.wrap ((s.size:Int)+1)=(s.size:Int)+1:=IntWalk.i64_in _ (by omega)
 clear h hp hL ht hwf hsl hlen
 go_enter Tryz.func150,Tryz.ntmps150
 go_wp2
 go_quiet ((go_at_call 125;exact quiet_eq (hm.out _)))
 go_upto_region 3 with (fail)
 go_cut [5] (fun v5 wc=> ∃B:Nat,v5=.slice (some ⟨B,0,none⟩) (s.size+1) (s.size+1)∧w.heap.size≤B∧Hid (Holds wc B (List.replicate (s.size+1) false))∧Hid (Below w.heap.size w wc))
 case first=>
  go_wp2
  go_meet
  case rel=>
   refine ⟨_,rfl, ?_,Lib.hid ?_,Lib.hid ?_⟩
   ·exact Nat.le_refl _
   ·unfold Holds;rw [←made_arr];exact blk_new _ _
   ·exact below_alloc (pw_below_drewN (Below.refl _ _) _) _
 case rest=>
  obtain ⟨B,rfl,hB,HB,HW1⟩:=hcut
  have c0:=HB.out.some 0 (by simp)
  have f0:=HB.out.free 0
  go_wp2
  clear c0 f0
  go_loopg [5,6] (pat.size) (fun kq v5 v6 wr=> ∃(B:Nat) (r q:List (Nat×Bool)) (k:Nat),v5=.slice (some ⟨B,0,none⟩) (s.size+1) (s.size+1)∧v6=.int .i64 k∧kq+k=pat.size∧w.heap.size≤B∧Hid (p=q.reverse++r)∧Hid (pat.data.toList.drop k=text q)∧Hid (Holds wr B (tab sl r))∧Hid (Below w.heap.size w wr))
  case atStart=>
   refine ⟨B,[],p.reverse,0,rfl,rfl,by omega,hB,Lib.hid (by simp),Lib.hid (by rw [List.drop_zero];exact HT.out),Lib.hid ?_,Lib.hid (HW1.out.setCell hB _)⟩
   exact HB.out.put 0 true (by rw [←HLEN.out];exact tab_nil sl)
  case round=>
   obtain ⟨B1,r,q,k,rfl,rfl,hk,hB1,HQ,HK,HB1,HWr⟩:=hrel
   clear HB HW1 hB
   have hkle:k≤pat.size:=by omega
   have HKQ:=Lib.hid hk
   clear hk
   obtain ⟨wo,rfl⟩: ∃wo:World,wo=wr:=⟨_,rfl⟩
   obtain ⟨go1,rfl⟩: ∃g:Nat,g=gk:=⟨_,rfl⟩
   cases q with
   |nil=>
    have hkk:k=pat.size:=by
     have:=HK.out
     have hl:=congrArg List.length this
     rw [List.length_drop,data_length] at hl
     simp [text] at hl
     omega
    have hd2:decide (k<pat.size)=false:=decide_eq_false (by omega)
    have HP:Hid (p=r):=Lib.hid (by have:=HQ.out;simpa using this)
    clear hkk HQ HK
    go_wp2
    go_loopg [10] s.size (fun kq v wr=> ∃i:Nat,v=.int .i64 i∧kq=i∧i≤s.size∧Hid (Lx.lngGo sl r i=L)∧wr=wo)
    case atStart=>
     refine ⟨s.size,rfl,rfl,Nat.le_refl _,Lib.hid ?_,rfl⟩
     rw [←HL.out,HSL.out,HP.out,←HLEN.out]
     rfl
    case round=>
     obtain ⟨i,rfl,hki,hi,HLi,rfl⟩:=hrel
     have HKI:=Lib.hid hki
     clear hki
     cases i with
     |zero=>
      have hd3:decide ((0:Int)<(0:Nat))=false:=rfl
      have HF:Hid (L=0):=Lib.hid HLi.out.symm
      clear HLi
      go_wp2
      go_ret
      exact ⟨by rw [HF.out];rfl,HWr.out⟩
     |succ i=>
      have hd3:decide ((0:Int)<(i+1:Nat))=true:=decide_eq_true (by omega)
      have hc1:((i+1:Nat):Int)=(i:Int)+1:=by omega
      rw [hc1] at hd3⊢
      clear hc1
      have hii:(0:Int)≤(i:Int)+1:=by omega
      have hi3:(i:Int)+1<((s.size+1:Nat):Int):=by omega
      have htn:((i:Int)+1).toNat=i+1:=by omega
      have hw5:IntKind.i64.wrap ((i:Int)+1-1)=(i:Int):=by rw [IntWalk.i64_in _ (by omega)];omega
      have hcell:=HB1.out.tab (i+1) (by have:=HLEN.out;omega)
      have hfr:=HB1.out.free (i+1)
      by_cases hR:Lx.R sl r (i+1)=true
      ·have HF:Hid (L=(i+1:Nat)):=Lib.hid (by have:=HLi.out;unfold Lx.lngGo at this;rw [if_pos hR] at this;exact this.symm)
       rw [hR] at hcell
       clear HLi hR
       go_wp2
       go_ret
       exact ⟨by rw [HF.out];rfl,HWr.out⟩
      ·have HF:Hid (Lx.lngGo sl r i=L):=Lib.hid (by have:=HLi.out;unfold Lx.lngGo at this;rw [if_neg hR] at this;exact this)
       have hR':Lx.R sl r (i+1)=false:=by simpa using hR
       rw [hR'] at hcell
       clear HLi hR hR'
       go_wp2
       go_roundg (gk-1)
       case measure=>have:=HKI.out;omega
       case rel=>exact ⟨i,by first|rfl|go_num,by have:=HKI.out;omega,by omega,HF,rfl⟩
   |cons x q=>
    obtain ⟨d,star⟩:=x
    have hwd:d<256∧d≠42:=HW.out (d,star) (by rw [HQ.out];simp)
    have hklt:k<pat.size:=by
     rcases Nat.lt_or_ge k pat.size with h|h
     ·exact h
     ·have:=HK.out
      rw [List.drop_of_length_le (by rw [data_length];exact h)] at this
      cases star<;>simp [text] at this
    have hdrop:pat.data.toList.drop k=pat[k]::pat.data.toList.drop (k+1):=cons_at pat k hklt
    have hpk:(pat[k]'hklt).toNat=d:=by
     have:=HK.out
     rw [hdrop] at this
     have e:pat[k]=UInt8.ofNat d:=by cases star<;>(injection this)
     rw [e]
     simp only [UInt8.toNat_ofNat']
     omega
    have hd2:decide (k<pat.size)=true:=decide_eq_true (by omega)
    have hw5:IntKind.i64.wrap ((k:Int)+1)=(k:Int)+1:=IntWalk.i64_in _ (by omega)
    have hcase:Hid ((star=true∧ ∃h4:k+1<pat.size,(pat[k+1]'h4).toNat=42∧pat.data.toList.drop (k+1+1)=text q)∨(star=false∧pat.data.toList.drop (k+1)=text q∧(pat.size=k+1∨ ∃h4:k+1<pat.size,(pat[k+1]'h4).toNat≠42))):=Lib.hid (by
     have h0:=HK.out
     rw [hdrop] at h0
     cases star with
     |true=>
      left
      refine ⟨rfl, ?_⟩
      injection h0 with _ h5
      have h4:k+1<pat.size:=by
       rcases Nat.lt_or_ge (k+1) pat.size with h|h
       ·exact h
       ·rw [List.drop_of_length_le (by rw [data_length];exact h)] at h5
        cases h5
      rw [cons_at pat (k+1) h4] at h5
      injection h5 with h6 h7
      exact ⟨h4,by rw [h6];rfl,h7⟩
     |false=>
      right
      injection h0 with _ h5
      refine ⟨rfl,h5, ?_⟩
      rcases Nat.lt_or_ge (k+1) pat.size with h|h
      ·right
       refine ⟨h, ?_⟩
       rw [cons_at pat (k+1) h] at h5
       cases q with
       |nil=>simp [text] at h5
       |cons y q=>
        obtain ⟨d2,b2⟩:=y
        have hw2:d2<256∧d2≠42:=HW.out (d2,b2) (by rw [HQ.out];simp)
        have e:pat[k+1]=UInt8.ofNat d2:=by cases b2<;>(injection h5)
        rw [e]
        simp only [UInt8.toNat_ofNat']
        omega
      ·left;omega)
    have HPK:=Lib.hid hpk
    have HD:=Lib.hid hwd.1
    clear hdrop hpk hwd HK
    go_upto_region 8 with (fail)
    go_cut [7] (fun v7 wc=>v7=.bool star∧wo=wc)
    case first=>
     have hk5:(0:Int)≤(k:Int)+1:=by omega
     rcases hcase.out with ⟨hst,h4,h5,_⟩|⟨hst,_,h4|⟨h4,h5⟩⟩
     ·subst hst
      have hd6:decide ((k:Int)+1<pat.size)=true:=decide_eq_true (by omega)
      have ht6:((k:Int)+1).toNat=k+1:=by omega
      have hx6:(((pat[k+1]'h4).toNat:Int)==42)=true:=by rw [beq_iff_eq];omega
      clear h5
      go_wp2
      go_meet
      case rel=>exact ⟨rfl,rfl⟩
     ·subst hst
      have hd6:decide ((k:Int)+1<pat.size)=false:=decide_eq_false (by omega)
      have H4:=Lib.hid h4
      clear h4
      go_wp2
      go_meet
      case rel=>exact ⟨rfl,rfl⟩
     ·subst hst
      have hd6:decide ((k:Int)+1<pat.size)=true:=decide_eq_true (by omega)
      have ht6:((k:Int)+1).toNat=k+1:=by omega
      have hx6:(((pat[k+1]'h4).toNat:Int)==42)=false:=by rw [beq_eq_false_iff_ne];omega
      clear h5
      go_wp2
      go_meet
      case rel=>exact ⟨rfl,rfl⟩
    case rest=>
     obtain ⟨rfl,rfl⟩:=hcut
     go_wp2
     obtain ⟨W2,hW2⟩: ∃W2,wo.alloc (.cells (madeCells #[.bool false] (s.size+1)) 4)=W2:=⟨_,rfl⟩
     rw [hW2]
     obtain ⟨B2,hB2e⟩: ∃B2,B2=wo.heap.size:=⟨_,rfl⟩
     rw [←hB2e]
     have hlt12:B1<B2:=hB2e▸blk_lt HB1.out
     have hB2:w.heap.size≤B2:=by omega
     have hne:Hid (B1≠B2):=Lib.hid (by omega)
     have K2:Hid (Holds W2 B2 (part sl ((d,star)::r) 0)):=Lib.hid (by
      rw [part_zero,HLEN.out,hB2e,←hW2]
      unfold Holds
      rw [←made_arr]
      exact blk_new _ _)
     have K1:Hid (Holds W2 B1 (tab sl r)):=Lib.hid (hW2▸HB1.out.alloc _)
     have KW:Hid (Below w.heap.size w W2):=Lib.hid (hW2▸below_alloc HWr.out _)
     clear hW2 hB2e HB1 HWr hlt12
     go_loopg [9] (s.size+1) (fun kq v9 wr=> ∃i:Nat,v9=.int .i64 i∧kq+i=s.size+1∧Hid (Holds wr B2 (part sl ((d,star)::r) i))∧Hid (Holds wr B1 (tab sl r))∧Hid (Below w.heap.size w wr))
     case atStart=>exact ⟨0,rfl,by omega,K2,K1,KW⟩
     case round=>
      obtain ⟨i,rfl,hki,H2,H1,HWi⟩:=hrel
      clear K2 K1 KW
      have hile:i≤s.size+1:=by omega
      have HKI:=Lib.hid hki
      clear hki
      by_cases hin:i≤s.size
      ·have hd7:decide (i≤s.size)=true:=decide_eq_true (by omega)
       have hw8:IntKind.i64.wrap ((i:Int)+1)=(i:Int)+1:=IntWalk.i64_in _ (by omega)
       have hi0:(0:Int)≤i:=by omega
       have hi9:(i:Int)<((s.size+1:Nat):Int):=by omega
       have hil:i≤sl.length:=by have:=HLEN.out;omega
       have f2:=H2.out.free i
       have f1:=H1.out.free i
       obtain ⟨z,w2⟩: ∃z,wr.cell? ⟨B2,i,none⟩=some (.bool z):=⟨_,H2.out.some i (by rw [part_len];omega)⟩
       by_cases h0:i=0
       ·have hd8:decide (0<i)=false:=decide_eq_false (by omega)
        cases star with
        |true=>
         by_cases hR:Lx.R sl r i=true
         ·have r1:=H1.out.tab i hil
          have HV:Hid (Lx.R sl ((d,true)::r) i=true):=Lib.hid (by rw [h0] at hR⊢;rw [Lx.R_star0];exact hR)
          rw [hR] at r1
          clear hR h0
          go_wp2
          go_quiet (fail)
          go_wp2
          go_quiet (fail)
          go_wp2
          go_roundg (gk-1)
          case measure=>have:=HKI.out;omega
          case rel=>exact ⟨i+1,by go_num,by have:=HKI.out;omega,Lib.hid (H2.out.put i true (part_set _ _ _ HV.out)),Lib.hid (H1.out.far (p:=⟨B2,i,none⟩) hne.out (.bool true)),Lib.hid (by repeat (first|(with_reducible exact HWi.out)|(with_reducible apply pw_below_drewN)|(with_reducible refine Below.setCell ?_ hB2 _)))⟩
         ·have r1:=H1.out.tab i hil
          have hR':Lx.R sl r i=false:=by simpa using hR
          have HV:Hid (Lx.R sl ((d,true)::r) i=false):=Lib.hid (by rw [h0] at hR'⊢;rw [Lx.R_star0];exact hR')
          rw [hR'] at r1
          clear hR hR' h0
          go_wp2
          go_quiet (fail)
          go_wp2
          go_quiet (fail)
          go_wp2
          go_roundg (gk-1)
          case measure=>have:=HKI.out;omega
          case rel=>exact ⟨i+1,by go_num,by have:=HKI.out;omega,Lib.hid (by rw [←part_skip _ _ _ HV.out];exact H2.out),Lib.hid H1.out,Lib.hid (by repeat (first|(with_reducible exact HWi.out)|(with_reducible apply pw_below_drewN)|(with_reducible refine Below.setCell ?_ hB2 _)))⟩
        |false=>
         have HV:Hid (Lx.R sl ((d,false)::r) i=false):=Lib.hid (by rw [h0,Lx.R_one0])
         clear h0
         go_wp2
         go_quiet (fail)
         go_wp2
         go_quiet (fail)
         go_wp2
         go_roundg (gk-1)
         case measure=>have:=HKI.out;omega
         case rel=>exact ⟨i+1,by go_num,by have:=HKI.out;omega,Lib.hid (by rw [←part_skip _ _ _ HV.out];exact H2.out),Lib.hid H1.out,Lib.hid (by repeat (first|(with_reducible exact HWi.out)|(with_reducible apply pw_below_drewN)|(with_reducible refine Below.setCell ?_ hB2 _)))⟩
       ·obtain ⟨j,hj⟩: ∃j,i=j+1:=⟨i-1,by omega⟩
        have hd8:decide (0<i)=true:=decide_eq_true (by omega)
        have hwj:IntKind.i64.wrap ((i:Int)-1)=(j:Int):=by rw [IntWalk.i64_in _ (by omega)];omega
        have hj1:(j:Int)<((s.size+1:Nat):Int):=by omega
        have hj2:(0:Int)≤j:=by omega
        have hj3:j<s.size:=by omega
        have hj4:(j:Int)<(s.size:Int):=by omega
        have hjl:j≤sl.length:=by have:=HLEN.out;omega
        have g1:=H1.out.free j
        have g2:=H2.out.free j
        have HBY:Hid (Lx.byteAt sl j=(s[j]'hj3).toNat):=Lib.hid (by rw [←HSL.out];exact byte_list s j hj3)
        have HJ:=Lib.hid hj
        clear hj h0
        cases star with
        |true=>
         by_cases hR:Lx.R sl r i=true
         ·have r1:=H1.out.tab i hil
          have HV:Hid (Lx.R sl ((d,true)::r) i=true):=Lib.hid (by rw [HJ.out] at hR⊢;rw [Lx.R_star1,hR,Bool.true_or])
          rw [hR] at r1
          clear hR
          go_wp2
          go_quiet (fail)
          go_wp2
          go_quiet (fail)
          go_wp2
          go_roundg (gk-1)
          case measure=>have:=HKI.out;omega
          case rel=>exact ⟨i+1,by go_num,by have:=HKI.out;omega,Lib.hid (H2.out.put i true (part_set _ _ _ HV.out)),Lib.hid (H1.out.far (p:=⟨B2,i,none⟩) hne.out (.bool true)),Lib.hid (by repeat (first|(with_reducible exact HWi.out)|(with_reducible apply pw_below_drewN)|(with_reducible refine Below.setCell ?_ hB2 _)))⟩
         ·have r1:=H1.out.tab i hil
          have hR':Lx.R sl r i=false:=by simpa using hR
          have HRi:=Lib.hid hR'
          rw [hR'] at r1
          clear hR hR'
          by_cases hT:Lx.R sl ((d,true)::r) j=true
          ·have r2:=H2.out.part j hjl (by have:=HJ.out;omega)
           rw [hT] at r2
           have HTj:=Lib.hid hT
           clear hT
           have hmem:=fun w=>member_walk d (s[j]'hj3).toNat (s[j]'hj3).toNat_lt w
           rw [←HPK.out] at hmem
           by_cases hM:Lx.mem d (s[j]'hj3).toNat=true
           ·have hmj:Hid (∀w:World,Calls Tryz.prog 125 #[.int .u8 (pat[k]'hklt).toNat,.int .u8 (s[j]'hj3).toNat] w fun e w'=>e=.returned (.bool true)∧w=w'):=Lib.hid fun w=>by
             have:=hmem w
             rw [HPK.out,hM] at this
             rw [HPK.out]
             exact this
            have HV:Hid (Lx.R sl ((d,true)::r) i=true):=Lib.hid (by
             have h1:=HRi.out
             rw [HJ.out] at h1⊢
             rw [Lx.R_star1,h1,HTj.out,HBY.out,hM]
             rfl)
            clear hM hmem
            go_wp2
            go_quiet ((go_at_call 125;exact quiet_eq (hmj.out _)))
            go_wp2
            go_quiet (fail)
            go_wp2
            go_roundg (gk-1)
            case measure=>have:=HKI.out;omega
            case rel=>exact ⟨i+1,by go_num,by have:=HKI.out;omega,Lib.hid (H2.out.put i true (part_set _ _ _ HV.out)),Lib.hid (H1.out.far (p:=⟨B2,i,none⟩) hne.out (.bool true)),Lib.hid (by repeat (first|(with_reducible exact HWi.out)|(with_reducible apply pw_below_drewN)|(with_reducible refine Below.setCell ?_ hB2 _)))⟩
           ·have hM':Lx.mem d (s[j]'hj3).toNat=false:=by simpa using hM
            have hmj:Hid (∀w:World,Calls Tryz.prog 125 #[.int .u8 (pat[k]'hklt).toNat,.int .u8 (s[j]'hj3).toNat] w fun e w'=>e=.returned (.bool false)∧w=w'):=Lib.hid fun w=>by
             have:=hmem w
             rw [HPK.out,hM'] at this
             rw [HPK.out]
             exact this
            have HV:Hid (Lx.R sl ((d,true)::r) i=false):=Lib.hid (by
             have h1:=HRi.out
             rw [HJ.out] at h1⊢
             rw [Lx.R_star1,h1,HBY.out,hM',Bool.and_false]
             rfl)
            clear hM hM' hmem
            go_wp2
            go_quiet ((go_at_call 125;exact quiet_eq (hmj.out _)))
            go_wp2
            go_quiet (fail)
            go_wp2
            go_roundg (gk-1)
            case measure=>have:=HKI.out;omega
            case rel=>exact ⟨i+1,by go_num,by have:=HKI.out;omega,Lib.hid (by rw [←part_skip _ _ _ HV.out];exact H2.out),Lib.hid H1.out,Lib.hid (by repeat (first|(with_reducible exact HWi.out)|(with_reducible apply pw_below_drewN)|(with_reducible refine Below.setCell ?_ hB2 _)))⟩
          ·have r2:=H2.out.part j hjl (by have:=HJ.out;omega)
           have hT':Lx.R sl ((d,true)::r) j=false:=by simpa using hT
           rw [hT'] at r2
           have HV:Hid (Lx.R sl ((d,true)::r) i=false):=Lib.hid (by
            have h1:=HRi.out
            rw [HJ.out] at h1⊢
            rw [Lx.R_star1,h1,hT',Bool.false_and]
            rfl)
           clear hT hT'
           go_wp2
           go_quiet (fail)
           go_wp2
           go_quiet (fail)
           go_wp2
           go_roundg (gk-1)
           case measure=>have:=HKI.out;omega
           case rel=>exact ⟨i+1,by go_num,by have:=HKI.out;omega,Lib.hid (by rw [←part_skip _ _ _ HV.out];exact H2.out),Lib.hid H1.out,Lib.hid (by repeat (first|(with_reducible exact HWi.out)|(with_reducible apply pw_below_drewN)|(with_reducible refine Below.setCell ?_ hB2 _)))⟩
        |false=>
         by_cases hT:Lx.R sl r j=true
         ·have r2:=H1.out.tab j hjl
          rw [hT] at r2
          have HTj:=Lib.hid hT
          clear hT
          have hmem:=fun w=>member_walk d (s[j]'hj3).toNat (s[j]'hj3).toNat_lt w
          by_cases hM:Lx.mem d (s[j]'hj3).toNat=true
          ·have hmj:Hid (∀w:World,Calls Tryz.prog 125 #[.int .u8 (pat[k]'hklt).toNat,.int .u8 (s[j]'hj3).toNat] w fun e w'=>e=.returned (.bool true)∧w=w'):=Lib.hid fun w=>by
            have:=hmem w
            rw [hM] at this
            rw [HPK.out]
            exact this
           have HV:Hid (Lx.R sl ((d,false)::r) i=true):=Lib.hid (by rw [HJ.out,Lx.R_one,HTj.out,HBY.out,hM];rfl)
           clear hM hmem
           go_wp2
           go_quiet (fail)
           go_wp2
           go_quiet ((go_at_call 125;exact quiet_eqs (hmj.out _)))
           go_wp2
           go_roundg (gk-1)
           case measure=>have:=HKI.out;omega
           case rel=>exact ⟨i+1,by go_num,by have:=HKI.out;omega,Lib.hid (H2.out.put i true (part_set _ _ _ HV.out)),Lib.hid (H1.out.far (p:=⟨B2,i,none⟩) hne.out (.bool true)),Lib.hid (by repeat (first|(with_reducible exact HWi.out)|(with_reducible apply pw_below_drewN)|(with_reducible refine Below.setCell ?_ hB2 _)))⟩
          ·have hM':Lx.mem d (s[j]'hj3).toNat=false:=by simpa using hM
           have hmj:Hid (∀w:World,Calls Tryz.prog 125 #[.int .u8 (pat[k]'hklt).toNat,.int .u8 (s[j]'hj3).toNat] w fun e w'=>e=.returned (.bool false)∧w=w'):=Lib.hid fun w=>by
            have:=hmem w
            rw [hM'] at this
            rw [HPK.out]
            exact this
           have HV:Hid (Lx.R sl ((d,false)::r) i=false):=Lib.hid (by rw [HJ.out,Lx.R_one,HBY.out,hM',Bool.and_false])
           clear hM hM' hmem
           go_wp2
           go_quiet (fail)
           go_wp2
           go_quiet ((go_at_call 125;exact quiet_eqs (hmj.out _)))
           go_wp2
           go_roundg (gk-1)
           case measure=>have:=HKI.out;omega
           case rel=>exact ⟨i+1,by go_num,by have:=HKI.out;omega,Lib.hid (by rw [←part_skip _ _ _ HV.out];exact H2.out),Lib.hid H1.out,Lib.hid (by repeat (first|(with_reducible exact HWi.out)|(with_reducible apply pw_below_drewN)|(with_reducible refine Below.setCell ?_ hB2 _)))⟩
         ·have r2:=H1.out.tab j hjl
          have hT':Lx.R sl r j=false:=by simpa using hT
          rw [hT'] at r2
          have HV:Hid (Lx.R sl ((d,false)::r) i=false):=Lib.hid (by rw [HJ.out,Lx.R_one,hT',Bool.false_and])
          clear hT hT'
          go_wp2
          go_quiet (fail)
          go_wp2
          go_quiet (fail)
          go_wp2
          go_roundg (gk-1)
          case measure=>have:=HKI.out;omega
          case rel=>exact ⟨i+1,by go_num,by have:=HKI.out;omega,Lib.hid (by rw [←part_skip _ _ _ HV.out];exact H2.out),Lib.hid H1.out,Lib.hid (by repeat (first|(with_reducible exact HWi.out)|(with_reducible apply pw_below_drewN)|(with_reducible refine Below.setCell ?_ hB2 _)))⟩
      ·have hd7:decide (i≤s.size)=false:=decide_eq_false (by omega)
       have HT2:Hid (Holds wr B2 (tab sl ((d,star)::r))):=Lib.hid (by
        have:=H2.out
        rw [show i=sl.length+1 from by have:=HLEN.out;omega,part_all] at this
        exact this)
       clear hin H2
       cases star with
       |true=>
        obtain ⟨h4,h5,h6⟩: ∃h4:k+1<pat.size,(pat[k+1]'h4).toNat=42∧pat.data.toList.drop (k+1+1)=text q:=by
         rcases hcase.out with h|h
         ·exact h.2
         ·cases h.1
        have H6:=Lib.hid h6
        have hw9:IntKind.i64.wrap ((k:Int)+1+1)=(k:Int)+1+1:=IntWalk.i64_in _ (by omega)
        clear h5 h6
        go_wp2
        go_roundg (go1-2)
        case measure=>have:=HKQ.out;omega
        case rel=>exact ⟨B2,(d,true)::r,q,k+1+1,rfl,by go_num,by have:=HKQ.out;omega,hB2,Lib.hid (by rw [HQ.out];simp),H6,HT2,HWi⟩
       |false=>
        have H6:Hid (pat.data.toList.drop (k+1)=text q):=Lib.hid (by
         rcases hcase.out with h|h
         ·cases h.1
         ·exact h.2.1)
        go_wp2
        go_roundg (go1-1)
        case measure=>have:=HKQ.out;omega
        case rel=>exact ⟨B2,(d,false)::r,q,k+1,rfl,by go_num,by have:=HKQ.out;omega,hB2,Lib.hid (by rw [HQ.out];simp),H6,HT2,HWi⟩

theorem longest_walk (pat s:ByteArray) (c:Nat) (p q0:List (Nat×Bool)) (hrev:p.reverse=(c,false)::q0) (ht:pat.data.toList=text p.reverse) (hwf: ∀x∈p,x.1<256∧x.1≠42) (h2:pat.size≤1000) (hs:s.size≤1000) (w:World):
  Calls Tryz.prog 150 #[.string pat,.string s] w fun e w'=>e=.returned (.int .i64 (Lx.lng p s.data.toList))∧Below w.heap.size w w':=by
 have h1:0<pat.size:=by
  have:=congrArg List.length ht
  rw [data_length,hrev] at this
  simp [text] at this
  omega
 have hcc:=(hwf (c,false) (by rw [←List.mem_reverse,hrev];exact List.mem_cons_self)).1
 have hp:(pat[0]'h1).toNat=c:=by
  have:pat.data.toList[0]? =some (UInt8.ofNat c):=by rw [ht,hrev];rfl
  rw [List.getElem?_eq_getElem (by rw [data_length];exact h1)] at this
  have:=Option.some.inj this
  rw [get_list pat 0 h1] at this
  rw [this]
  simp only [UInt8.toNat_ofNat']
  omega
 by_cases h3:0<s.size
 ·by_cases h:Lx.mem c (s[0]'h3).toNat=true
  ·exact longest_some pat s c p q0 hrev ht hwf h1 h2 hs h3 h w
  ·have h':Lx.mem c (s[0]'h3).toNat=false:=by simpa using h
   refine (longest_none pat s c hcc h1 h2 hs hp (.inr ⟨h3,h'⟩) w).mono ?_
   rintro e w' ⟨rfl,n,rfl⟩
   refine ⟨?_,pw_below_drewN (Below.refl _ _) _⟩
   have hz:Lx.lng p s.data.toList=0:=by
    refine lng_zero fun i _ _=> ?_
    have e:p=q0.reverse++[(c,false)]:=by
     have:=congrArg List.reverse hrev
     simpa using this
    rw [e]
    exact R_begins (by rw [byte_list s 0 h3];exact h') _ _
   rw [hz]
   rfl
 ·refine (longest_none pat s c hcc h1 h2 hs hp (.inl (by omega)) w).mono ?_
  rintro e w' ⟨rfl,n,rfl⟩
  refine ⟨?_,pw_below_drewN (Below.refl _ _) _⟩
  have hz:Lx.lng p s.data.toList=0:=by
   have:=Lx.lng_le p s.data.toList
   rw [data_length] at this
   omega
  rw [hz]
  rfl
end Go.Proofs.YtipnlgmeonepfaaGreatDoor.Ref
