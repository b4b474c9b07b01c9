/- The cutter's check of a token returns, or throws, what its plain form says. The listed variables of strconv hold what they were laid as. -/
import Derived.Test.YtipnlgmeonepfaaGreatDoorLxLongest
import Derived.Test.YtipnlgmeonepfaaGreatDoorLxComment
import Derived.Test.YtipnlgmeonepfaaGreatDoorLxValue
import Derived.Deep.DeepCutAuto
import Derived.Deep.CutBlock
set_option linter.unusedVariables false
set_option linter.unusedSimpArgs false
namespace Go.Proofs.YtipnlgmeonepfaaGreatDoor.Lx
open Go.RowKit Go.Proofs.YtipnlgmeonepfaaGreatDoorW.PrintWords

/-- How a function without a result that may throw at the piece ends. -/
def endErr (at_:Nat) (er:Int):Ending:=if er=0 then .returned (.tuple #[]) else .panicked [{v:=wrongV at_ er,recovered:=false}]
def tailSet:List UInt8:=[95,63,33,36]
theorem cTail_eq (x:UInt8):cTail x.toNat=tailSet.contains x:=
 beq_iff_eq.1 (bytes_all (fun y=>cTail y.toNat==tailSet.contains y) (by decide+kernel) x)

set_option maxHeartbeats 12800000 in
set_option maxRecDepth 100000 in
theorem check_walk {b tb:Nat} {text:ByteArray} {at_ lk la ll:Nat} (hs:text.size≤20000) (kind n:Nat) (hkind:kind≤6) (hn:at_+n≤text.size) {w:World} (hc:Cut w b tb text at_ lk la ll) (hE:Env w):
  Calls Tryz.prog 184 #[.pointer (some ⟨b,0,none⟩),.int .i64 (kind:Int),.int .i64 (n:Int)] w
   fun e w'=>e=endErr at_ (check (text.data.toList.drop at_) kind n)∧Below w.heap.size w w':=by
 have HC:=Lib.hid hc
 have HE:=Lib.hid hE
 clear hE
 obtain ⟨c0,c1,ct,c3,c4,c5⟩:=hc
 clear ct c3 c4 c5
 have hi0:(0:Int)≤at_:=by omega
 have hi1:(at_:Int)+n≤text.size:=by omega
 have hi2:(at_:Int)≤(at_:Int)+n:=by omega
 have hi3:(0:Int)≤n:=by omega
 have hw:IntKind.i64.wrap ((at_:Int)+n)=(at_:Int)+n:=IntWalk.i64_in _ (by omega)
 obtain ⟨S,hS⟩: ∃S,text.extract at_ (at_+n)=S:=⟨_,rfl⟩
 have hSl:(text.data.toList.drop at_).take n=S.data.toList:=by rw [←hS,take_drop_extract]
 have hSs:S.size≤140737488351232:=by rw [←hS,ByteArray.size_extract];omega
 have hex:=Lib.hid hS
 obtain ⟨L,hL⟩: ∃L,text.data.toList.drop at_=L:=⟨_,rfl⟩
 rw [hL]
 rw [hL] at hSl
 obtain ⟨nx,hnx⟩: ∃nx,byteAt L n=nx:=⟨_,rfl⟩
 have hnx2:nx<256:=by rw [←hnx];exact UInt8.toNat_lt _
 have hnxi:(nx:Int)<256:=by omega
 have hni0:(0:Int)≤nx:=by omega
 have HX:=Lib.hid hnx
 have HL:=Lib.hid hL
 have HSl:=Lib.hid hSl
 clear hnx hL hSl hS
 go_enter Tryz.func184,Tryz.ntmps184
 go_wp2_with fail
 go_quiet (fail)
 rw [hex.out]
 go_wp2_with fail
 go_quiet (fail)
 go_upto_if 41 with (fail)
 go_cut [7] (fun v7 wc=>v7=.int .u8 (nx:Int)∧Drawn0 w wc)
 case first=>
  by_cases h:at_+n<text.size
  ·have hb:((at_:Int)+n)<text.size:=by omega
   have h00:(0:Int)≤(at_:Int)+n:=by omega
   have htn:((at_:Int)+n).toNat=at_+n:=by omega
   have hx:Hid (text[at_+n].toNat=nx):=Lib.hid (by rw [←HX.out,←HL.out,byteAt_at text at_ n h])
   go_wp2_with fail
   go_quiet (fail)
   go_wp2_with fail
   go_meet
   exact ⟨by rw [←hx.out],by repeat (first|exact Drawn0.refl _|apply Drawn0.step)⟩
  ·have hb: ¬((at_:Int)+n)<text.size:=by omega
   have hx:Hid (nx=0):=Lib.hid (by rw [←HX.out,←HL.out];unfold byteAt;rw [List.getD_eq_getElem?_getD,List.getElem?_drop,List.getElem?_eq_none (by rw [data_length];omega)];rfl)
   go_wp2_with fail
   go_meet
   exact ⟨by rw [hx.out];rfl,by repeat (first|exact Drawn0.refl _|apply Drawn0.step)⟩
 case rest=>
  obtain ⟨rfl,⟨m1,rfl⟩⟩:=hcut
  clear hw
  have hkk:kind=0∨kind=1∨kind=2∨kind=3∨kind=4∨kind=5∨kind=6:=by omega
  clear hkind
  rcases hkk with rfl|rfl|rfl|rfl|rfl|rfl|rfl
  ·obtain ⟨v,hv⟩: ∃v,pre ([35]:List UInt8) L=v:=⟨_,rfl⟩
   have HV:Hid (pre (⟨#[35]⟩:ByteArray).data.toList (text.data.toList.drop at_)=v):=Lib.hid (by rw [HL.out];exact hv)
   have hres:Hid (check L 0 n=if v=true then 12 else 10):=Lib.hid (by show (if pre [35] L=true then (12:Int) else 10)=_;rw [hv])
   have hat:at_≤text.size:=by omega
   clear hv
   cases v
   ·go_wp2_with fail
    refine (starts_at HV hs hat (HC.out.drewN _)).mono ?_
    rintro e w' ⟨rfl,⟨m2,rfl⟩⟩
    go_wp2_with fail
    refine (fail_walk 10 (HC.out.drewN _)).mono ?_
    rintro e w' ⟨rfl,⟨m9,rfl⟩⟩
    go_wp2_with fail
    exact ⟨rfl,(by first|(rw [hE.out];rfl)|(rw [hres.out];rfl)),by repeat (first|exact Below.refl _ _|apply pw_below_drewN)⟩
   ·go_wp2_with fail
    refine (starts_at HV hs hat (HC.out.drewN _)).mono ?_
    rintro e w' ⟨rfl,⟨m2,rfl⟩⟩
    go_wp2_with fail
    refine (fail_walk 12 (HC.out.drewN _)).mono ?_
    rintro e w' ⟨rfl,⟨m9,rfl⟩⟩
    go_wp2_with fail
    exact ⟨rfl,(by first|(rw [hE.out];rfl)|(rw [hres.out];rfl)),by repeat (first|exact Below.refl _ _|apply pw_below_drewN)⟩
  ·have hres:Hid (check L 1 n=if 40<n then 2 else 0):=Lib.hid rfl
   by_cases h:40<n
   ·have hb:(40:Int)<n:=by omega
    have hE:=Lib.hid (hres.out.trans (if_pos h))
    go_wp2_with fail
    refine (fail_walk 2 (HC.out.drewN _)).mono ?_
    rintro e w' ⟨rfl,⟨m9,rfl⟩⟩
    go_wp2_with fail
    exact ⟨rfl,(by first|(rw [hE.out];rfl)|(rw [hres.out];rfl)),by repeat (first|exact Below.refl _ _|apply pw_below_drewN)⟩
   ·have hb: ¬(40:Int)<n:=by omega
    have hE:=Lib.hid (hres.out.trans (if_neg h))
    go_wp2_with fail
    go_end0
    exact ⟨(by first|(rw [hE.out];rfl)|(rw [hres.out];rfl)),by repeat (first|exact Below.refl _ _|apply pw_below_drewN)⟩
  ·obtain ⟨V,hV⟩: ∃V,valN S.data.toList=V:=⟨_,rfl⟩
   obtain ⟨vb,hvb⟩: ∃vb,valB S.data.toList=vb:=⟨_,rfl⟩
   have HVL:=Lib.hid (fun (W:World) (h:Env W)=>value_walk S hSs W h)
   rw [hV,hvb] at HVL
   obtain ⟨xl,hxl⟩: ∃xl,cL nx=xl:=⟨_,rfl⟩
   obtain ⟨xt,hxt⟩: ∃xt,cTail nx=xt:=⟨_,rfl⟩
   have hres:Hid (check L 2 n=if vb=false∨100≤n∨xl=true∨(nx≠0∧xt=true) then 11 else 0):=Lib.hid (by
    show (if valB (L.take n)=false∨100≤n∨cL (byteAt L n)=true∨(byteAt L n≠0∧cTail (byteAt L n)=true) then (11:Int) else 0)=_
    rw [HX.out,HSl.out,hvb,hxl,hxt])
   have HXL:=Lib.hid hxl
   have HXT:=Lib.hid hxt
   clear hV hvb hxl hxt
   by_cases h1:vb=false
   ·subst h1
    have hE:=Lib.hid (hres.out.trans (if_pos (.inl rfl)))
    go_wp2_with fail
    refine (HVL.out _ (HE.out.drewN _)).mono ?_
    rintro e w2 ⟨rfl,hb2⟩
    have HBW:=Lib.hid hb2
    have HB:Hid (Below w.heap.size w w2):=Lib.hid ((pw_below_drewN (Below.refl w.heap.size w) m1).trans hb2)
    clear hb2
    go_wp2_with fail
    refine (fail_walk 11 ((HC.out.drewN _).below HBW.out)).mono ?_
    rintro e w' ⟨rfl,⟨m9,rfl⟩⟩
    go_wp2_with fail
    exact ⟨rfl,(by first|(rw [hE.out];rfl)|(rw [hres.out];rfl)),by repeat (first|(with_reducible exact HB.out)|apply pw_below_drewN)⟩
   obtain rfl:vb=true:=by cases vb<;>simp_all
   clear h1
   by_cases h2:100≤n
   ·have hb2:(100:Int)≤n:=by omega
    have hE:=Lib.hid (hres.out.trans (if_pos (.inr (.inl h2))))
    go_wp2_with fail
    refine (HVL.out _ (HE.out.drewN _)).mono ?_
    rintro e w2 ⟨rfl,hb2⟩
    have HBW:=Lib.hid hb2
    have HB:Hid (Below w.heap.size w w2):=Lib.hid ((pw_below_drewN (Below.refl w.heap.size w) m1).trans hb2)
    clear hb2
    go_wp2_with fail
    refine (fail_walk 11 ((HC.out.drewN _).below HBW.out)).mono ?_
    rintro e w' ⟨rfl,⟨m9,rfl⟩⟩
    go_wp2_with fail
    exact ⟨rfl,(by first|(rw [hE.out];rfl)|(rw [hres.out];rfl)),by repeat (first|(with_reducible exact HB.out)|apply pw_below_drewN)⟩
   have hb2: ¬(100:Int)≤n:=by omega
   by_cases h3:xl=true
   ·subst h3
    have hE:=Lib.hid (hres.out.trans (if_pos (.inr (.inr (.inl rfl)))))
    go_wp2_with fail
    refine (HVL.out _ (HE.out.drewN _)).mono ?_
    rintro e w2 ⟨rfl,hb2⟩
    have HBW:=Lib.hid hb2
    have HB:Hid (Below w.heap.size w w2):=Lib.hid ((pw_below_drewN (Below.refl w.heap.size w) m1).trans hb2)
    clear hb2
    have hx0:=((HC.out.drewN _).below HBW.out).ct.tab 0 nx (by omega) hnx2
    have his:=((HC.out.drewN _).below HBW.out).ct.is
    simp only [cls,Nat.reduceMul,Nat.zero_mul,Nat.zero_add,HXL.out] at hx0
    go_wp2_with fail
    refine (fail_walk 11 ((HC.out.drewN _).below HBW.out)).mono ?_
    rintro e w' ⟨rfl,⟨m9,rfl⟩⟩
    go_wp2_with fail
    exact ⟨rfl,(by first|(rw [hE.out];rfl)|(rw [hres.out];rfl)),by repeat (first|(with_reducible exact HB.out)|apply pw_below_drewN)⟩
   obtain rfl:xl=false:=by cases xl<;>simp_all
   clear h3
   by_cases h4:nx=0
   ·subst h4
    have hE:=Lib.hid (hres.out.trans (if_neg (fun h=>h.elim (fun h=>by cases h) (fun h=>h.elim (fun h=>h2 h) (fun h=>h.elim (fun h=>by cases h) (fun h=>h.1 rfl))))))
    go_wp2_with fail
    refine (HVL.out _ (HE.out.drewN _)).mono ?_
    rintro e w2 ⟨rfl,hb2⟩
    have HBW:=Lib.hid hb2
    have HB:Hid (Below w.heap.size w w2):=Lib.hid ((pw_below_drewN (Below.refl w.heap.size w) m1).trans hb2)
    clear hb2
    have hx0:=((HC.out.drewN _).below HBW.out).ct.tab 0 0 (by omega) hnx2
    have his:=((HC.out.drewN _).below HBW.out).ct.is
    simp only [cls,Nat.reduceMul,Nat.zero_mul,Nat.zero_add,HXL.out] at hx0
    go_wp2_with fail
    go_end0
    exact ⟨(by first|(rw [hE.out];rfl)|(rw [hres.out];rfl)),by repeat (first|(with_reducible exact HB.out)|apply pw_below_drewN)⟩
   have h4b:((nx:Int) !=0)=true:=bne_iff_ne.2 (by omega)
   obtain ⟨y,hy⟩: ∃y:UInt8,y.toNat=nx:=⟨UInt8.ofNat nx,by simp;omega⟩
   obtain ⟨i,hi⟩: ∃i:Int,Lib.indexByte tailSet y=i:=⟨_,rfl⟩
   have hdec:Hid (decide (0≤i)=xt):=Lib.hid (by rw [←hi,in_index,←cTail_eq,hy,HXT.out])
   have HI:=Lib.hid (fun (w:World)=>Tryz.strings_IndexByte ⟨#[95,63,33,36]⟩ (nx:Int) w)
   have hset:Hid ((⟨#[95,63,33,36]⟩:ByteArray).data.toList=tailSet):=Lib.hid rfl
   rw [hset.out,show ((nx:Int).toNat.toUInt8)=y from by rw [←hy];simp,hi] at HI
   clear hi hy
   cases xt
   ·have hE:=Lib.hid (hres.out.trans (if_neg (fun h=>h.elim (fun h=>by cases h) (fun h=>h.elim (fun h=>h2 h) (fun h=>h.elim (fun h=>by cases h) (fun h=>by cases h.2))))))
    have hii: ¬0≤i:=of_decide_eq_false hdec.out
    go_wp2_with fail
    refine (HVL.out _ (HE.out.drewN _)).mono ?_
    rintro e w2 ⟨rfl,hb2⟩
    have HBW:=Lib.hid hb2
    have HB:Hid (Below w.heap.size w w2):=Lib.hid ((pw_below_drewN (Below.refl w.heap.size w) m1).trans hb2)
    clear hb2
    have hx0:=((HC.out.drewN _).below HBW.out).ct.tab 0 nx (by omega) hnx2
    have his:=((HC.out.drewN _).below HBW.out).ct.is
    simp only [cls,Nat.reduceMul,Nat.zero_mul,Nat.zero_add,HXL.out] at hx0
    go_wp2_with fail
    refine (HI.out _).mono ?_
    rintro e w' ⟨rfl,rfl⟩
    go_wp2_with fail
    go_end0
    exact ⟨(by first|(rw [hE.out];rfl)|(rw [hres.out];rfl)),by repeat (first|(with_reducible exact HB.out)|apply pw_below_drewN)⟩
   ·have hE:=Lib.hid (hres.out.trans (if_pos (.inr (.inr (.inr ⟨h4,rfl⟩)))))
    have hii:0≤i:=of_decide_eq_true hdec.out
    go_wp2_with fail
    refine (HVL.out _ (HE.out.drewN _)).mono ?_
    rintro e w2 ⟨rfl,hb2⟩
    have HBW:=Lib.hid hb2
    have HB:Hid (Below w.heap.size w w2):=Lib.hid ((pw_below_drewN (Below.refl w.heap.size w) m1).trans hb2)
    clear hb2
    have hx0:=((HC.out.drewN _).below HBW.out).ct.tab 0 nx (by omega) hnx2
    have his:=((HC.out.drewN _).below HBW.out).ct.is
    simp only [cls,Nat.reduceMul,Nat.zero_mul,Nat.zero_add,HXL.out] at hx0
    go_wp2_with fail
    refine (HI.out _).mono ?_
    rintro e w' ⟨rfl,rfl⟩
    go_wp2_with fail
    refine (fail_walk 11 ((HC.out.drewN _).below HBW.out)).mono ?_
    rintro e w' ⟨rfl,⟨m9,rfl⟩⟩
    go_wp2_with fail
    exact ⟨rfl,(by first|(rw [hE.out];rfl)|(rw [hres.out];rfl)),by repeat (first|(with_reducible exact HB.out)|apply pw_below_drewN)⟩
  ·have hres:Hid (check L 3 n=if 40<n then 2 else 0):=Lib.hid rfl
   by_cases h:40<n
   ·have hb:(40:Int)<n:=by omega
    have hE:=Lib.hid (hres.out.trans (if_pos h))
    go_wp2_with fail
    refine (fail_walk 2 (HC.out.drewN _)).mono ?_
    rintro e w' ⟨rfl,⟨m9,rfl⟩⟩
    go_wp2_with fail
    exact ⟨rfl,(by first|(rw [hE.out];rfl)|(rw [hres.out];rfl)),by repeat (first|exact Below.refl _ _|apply pw_below_drewN)⟩
   ·have hb: ¬(40:Int)<n:=by omega
    have hE:=Lib.hid (hres.out.trans (if_neg h))
    go_wp2_with fail
    go_end0
    exact ⟨(by first|(rw [hE.out];rfl)|(rw [hres.out];rfl)),by repeat (first|exact Below.refl _ _|apply pw_below_drewN)⟩
  ·have hx2:=HC.out.ct.tab 2 nx (by omega) hnx2
   have his:=HC.out.ct.is
   simp only [cls,Nat.reduceMul] at hx2
   obtain ⟨v,hv⟩: ∃v,cW nx=v:=⟨_,rfl⟩
   have hres:Hid (check L 4 n=if v=true then 12 else 0):=Lib.hid (by show (if cW (byteAt L n)=true then (12:Int) else 0)=_;rw [HX.out,hv])
   rw [hv] at hx2
   clear hv
   cases v
   ·go_wp2_with fail
    go_end0
    exact ⟨(by first|(rw [hE.out];rfl)|(rw [hres.out];rfl)),by repeat (first|exact Below.refl _ _|apply pw_below_drewN)⟩
   ·go_wp2_with fail
    refine (fail_walk 12 (HC.out.drewN _)).mono ?_
    rintro e w' ⟨rfl,⟨m9,rfl⟩⟩
    go_wp2_with fail
    exact ⟨rfl,(by first|(rw [hE.out];rfl)|(rw [hres.out];rfl)),by repeat (first|exact Below.refl _ _|apply pw_below_drewN)⟩
  ·go_wp2_with fail
   go_end0
   exact ⟨rfl,by repeat (first|exact Below.refl _ _|apply pw_below_drewN)⟩
  ·have hres:Hid (check L 6 n=if 40<n then 2 else 0):=Lib.hid rfl
   by_cases h:40<n
   ·have hb:(40:Int)<n:=by omega
    have hE:=Lib.hid (hres.out.trans (if_pos h))
    go_wp2_with fail
    refine (fail_walk 2 (HC.out.drewN _)).mono ?_
    rintro e w' ⟨rfl,⟨m9,rfl⟩⟩
    go_wp2_with fail
    exact ⟨rfl,(by first|(rw [hE.out];rfl)|(rw [hres.out];rfl)),by repeat (first|exact Below.refl _ _|apply pw_below_drewN)⟩
   ·have hb: ¬(40:Int)<n:=by omega
    have hE:=Lib.hid (hres.out.trans (if_neg h))
    go_wp2_with fail
    go_end0
    exact ⟨(by first|(rw [hE.out];rfl)|(rw [hres.out];rfl)),by repeat (first|exact Below.refl _ _|apply pw_below_drewN)⟩
end Go.Proofs.YtipnlgmeonepfaaGreatDoor.Lx
