/- The cutter's function for comments returns, or throws, what its plain form says. -/
import Derived.Test.YtipnlgmeonepfaaGreatDoorLxLongest
set_option linter.unusedVariables false
set_option linter.unusedSimpArgs false
namespace Go.Proofs.YtipnlgmeonepfaaGreatDoor.Lx
open Go.RowKit Go.Proofs.YtipnlgmeonepfaaGreatDoorW.PrintWords

/-- How a function that may throw at the piece ends. -/
def endOf (at_:Nat):Except Int Nat→Ending
 | .ok n=> .returned (.int .i64 n)
 | .error er=> .panicked [{v:=wrongV at_ er,recovered:=false}]

theorem lineGo_index: ∀(l:List UInt8) (i:Nat),lineGo l i=if 0≤Lib.indexByte l 10 then i+(Lib.indexByte l 10).toNat else i+l.length
 |[],i=>by simp [lineGo,Lib.indexByte]
 |x::l,i=>by
  have ih:=lineGo_index l (i+1)
  have hge:=Lib.indexByte_ge l 10
  have e:Lib.indexByte (x::l) 10=if (x==10)=true then 0 else if (Lib.indexByte l 10== -1)=true then-1 else Lib.indexByte l 10+1:=rfl
  generalize Lib.indexByte (x::l) 10=j at e
  generalize Lib.indexByte l 10=q at e ih hge
  simp only [lineGo]
  by_cases hx:x.toNat=10
  ·rw [if_pos (beq_iff_eq.2 (UInt8.toNat_inj.1 hx))] at e
   rw [if_pos hx,e]
   simp
  ·rw [if_neg (fun h=>hx (by rw [beq_iff_eq.1 h];rfl))] at e
   rw [if_neg hx,ih]
   by_cases h1:q= -1
   ·rw [if_pos (beq_iff_eq.2 h1)] at e
    rw [if_neg (by omega),if_neg (by omega),List.length_cons]
    omega
   ·rw [if_neg (fun h=>h1 (beq_iff_eq.1 h))] at e
    rw [if_pos (by omega),if_pos (by omega)]
    omega

theorem pre_two {x y:UInt8} {s:List UInt8}:pre [x,y] s=true↔ ∃t,s=x::y::t:=by
 unfold pre
 rw [List.isPrefixOf_iff_prefix]
 constructor
 ·rintro ⟨t,rfl⟩;exact ⟨t,rfl⟩
 ·rintro ⟨t,rfl⟩;exact ⟨t,rfl⟩
theorem blockGo_open {l:List UInt8} (h:pre [47,42] l=true) (i:Nat) (o:Int):blockGo l i o=if 100<o+1 then .error 6 else blockGo (l.drop 2) (i+2) (o+1):=by
 obtain ⟨t,rfl⟩:=pre_two.1 h
 simp only [blockGo]
 rw [if_pos ⟨rfl,rfl⟩]
 rfl
theorem blockGo_close {l:List UInt8} (h:pre [42,47] l=true) (i:Nat) (o:Int):blockGo l i o=if o-1=0 then .ok (i+2) else blockGo (l.drop 2) (i+2) (o-1):=by
 obtain ⟨t,rfl⟩:=pre_two.1 h
 simp only [blockGo]
 rw [if_neg (by rintro ⟨h,_⟩;exact absurd h (by decide)),if_pos ⟨rfl,rfl⟩]
 rfl
theorem blockGo_other {l:List UInt8} (h1:pre [47,42] l=false) (h2:pre [42,47] l=false) (i:Nat) (o:Int):blockGo l i o=blockGo (l.drop 1) (i+1) o:=by
 match l with
 |[]=>simp [blockGo]
 |[x]=>simp [blockGo]
 |x::y::r=>
  simp only [blockGo]
  rw [if_neg,if_neg]
  ·rfl
  ·rintro ⟨ha,hb⟩
   have:pre [42,47] (x::y::r)=true:=pre_two.2 ⟨r,by rw [show x=42 from UInt8.toNat_inj.1 ha,show y=47 from UInt8.toNat_inj.1 hb]⟩
   rw [h2] at this;cases this
  ·rintro ⟨ha,hb⟩
   have:pre [47,42] (x::y::r)=true:=pre_two.2 ⟨r,by rw [show x=47 from UInt8.toNat_inj.1 ha,show y=42 from UInt8.toNat_inj.1 hb]⟩
   rw [h1] at this;cases this
theorem pre_two_len {x y:UInt8} {s:ByteArray} {i:Nat} (hi:i≤s.size) (h:pre [x,y] (s.data.toList.drop i)=true):i+2≤s.size:=by
 obtain ⟨t,ht⟩:=pre_two.1 h
 have:=congrArg List.length ht
 rw [List.length_drop,data_length] at this
 simp at this
 omega

set_option maxHeartbeats 6400000 in
theorem comment_walk {b tb:Nat} {text:ByteArray} {at_ lk la ll:Nat} (hs:text.size≤20000) (hl:at_≤text.size) {w:World} (hc:Cut w b tb text at_ lk la ll):
  Calls Tryz.prog 182 #[.pointer (some ⟨b,0,none⟩)] w fun e w'=>e=endOf at_ (comment (text.data.toList.drop at_))∧Drawn0 w w':=by
 have HC:=Lib.hid hc
 obtain ⟨c0,c1,ct,c3,c4,c5⟩:=hc
 clear ct c3 c4 c5
 have hi0:(0:Int)≤at_:=by omega
 have hi1:(at_:Int)≤text.size:=by omega
 obtain ⟨s,hsd⟩: ∃s,text.extract at_ text.size=s:=⟨_,rfl⟩
 have hsl:text.data.toList.drop at_=s.data.toList:=by rw [←hsd,Lib.extract_to_end]
 have hss:s.size≤20000:=by rw [←hsd,ByteArray.size_extract];omega
 rw [hsl]
 clear hsl
 obtain ⟨v,hv⟩: ∃v,pre ([47,47]:List UInt8) s.data.toList=v:=⟨_,rfl⟩
 have HV:Hid (pre (⟨#[47,47]⟩:ByteArray).data.toList s.data.toList=v):=Lib.hid hv
 cases v
 ·have hres:Hid (comment s.data.toList=blockGo s.data.toList 0 0):=Lib.hid (by unfold comment;rw [if_neg (by rw [hv];exact Bool.false_ne_true)])
  obtain ⟨R,hR⟩: ∃R,blockGo s.data.toList 0 0=R:=⟨_,rfl⟩
  rw [hres.out,hR]
  have HF:=Lib.hid (hR)
  clear hres hv hR
  go_enter Tryz.func182,Tryz.ntmps182
  go_wp2_with fail
  go_quiet (fail)
  go_wp2_with fail
  refine (prefix_at HV _).mono ?_
  rintro e w' ⟨rfl,⟨m1,rfl⟩⟩
  go_wp2_with fail
  clear hsd
  go_loopw [5,6,33,46] (fun v5 v6 _ _ wr=> ∃(i:Nat) (o:Int),v5=.int .i64 o∧v6=.int .i64 i∧i≤s.size∧ -(i:Int)≤o∧o≤i∧Hid (blockGo (s.data.toList.drop i) i o=R)∧Drawn0 w wr) (fun _ v6 _ _ _=>s.size-(intOf v6).toNat)
  case atStart=>exact ⟨0,0,rfl,rfl,by omega,by omega,by omega,Lib.hid (by rw [List.drop_zero];exact HF.out),by repeat (first|exact Drawn0.refl _|apply Drawn0.step)⟩
  case round=>
   obtain ⟨i,o,rfl,rfl,hi,ho1,ho2,HB,⟨m2,rfl⟩⟩:=hrel
   by_cases hlt:i<s.size
   ·have hii:(i:Int)≤s.size:=by omega
    have hin:(0:Int)≤i:=by omega
    obtain ⟨v1,hv1⟩: ∃v,pre ([47,42]:List UInt8) (s.data.toList.drop i)=v:=⟨_,rfl⟩
    have HV1:Hid (pre (⟨#[47,42]⟩:ByteArray).data.toList (s.extract i s.size).data.toList=v1):=Lib.hid (by rw [Lib.extract_to_end];exact hv1)
    obtain ⟨v2,hv2⟩: ∃v,pre ([42,47]:List UInt8) (s.data.toList.drop i)=v:=⟨_,rfl⟩
    have HV2:Hid (pre (⟨#[42,47]⟩:ByteArray).data.toList (s.extract i s.size).data.toList=v2):=Lib.hid (by rw [Lib.extract_to_end];exact hv2)
    cases v1
    ·cases v2
     ·have hn:=Lib.hid (blockGo_other hv1 hv2 i o)
      clear hv1 hv2
      go_wp2_with fail
      refine (prefix_at HV1 _).mono ?_
      rintro e w' ⟨rfl,⟨m3,rfl⟩⟩
      go_wp2_with fail
      refine (prefix_at HV2 _).mono ?_
      rintro e w' ⟨rfl,⟨m4,rfl⟩⟩
      go_wp2_with fail
      go_roundw
      case rel=>exact ⟨i+1,o,rfl,by go_num,by omega,by omega,by omega,Lib.hid (by rw [←HB.out,hn.out,List.drop_drop]),by repeat (first|exact Drawn0.refl _|apply Drawn0.step)⟩
      case measure=>simp [intOf];omega
     ·have hn:=Lib.hid (blockGo_close hv2 i o)
      have hi2:=pre_two_len hi hv2
      clear hv1 hv2
      by_cases h0:o-1=0
      ·have hb0:((o-1)==0)=true:=beq_iff_eq.2 h0
       have H0:=Lib.hid h0
       clear h0
       go_wp2_with fail
       refine (prefix_at HV1 _).mono ?_
       rintro e w' ⟨rfl,⟨m3,rfl⟩⟩
       go_wp2_with fail
       refine (prefix_at HV2 _).mono ?_
       rintro e w' ⟨rfl,⟨m4,rfl⟩⟩
       go_wp2_with fail
       go_ret
       refine ⟨?_,by repeat (first|exact Drawn0.refl _|apply Drawn0.step)⟩
       rw [←HB.out,hn.out,if_pos H0.out]
       exact ret_int (by omega)
      ·have hb0:((o-1)==0)=false:=beq_eq_false_iff_ne.2 h0
       have H0:=Lib.hid h0
       clear h0
       go_wp2_with fail
       refine (prefix_at HV1 _).mono ?_
       rintro e w' ⟨rfl,⟨m3,rfl⟩⟩
       go_wp2_with fail
       refine (prefix_at HV2 _).mono ?_
       rintro e w' ⟨rfl,⟨m4,rfl⟩⟩
       go_wp2_with fail
       go_roundw
       case rel=>exact ⟨i+2,o-1,rfl,by go_num,by omega,by omega,by omega,Lib.hid (by rw [←HB.out,hn.out,if_neg H0.out,List.drop_drop]),by repeat (first|exact Drawn0.refl _|apply Drawn0.step)⟩
       case measure=>simp [intOf];omega
    ·have hn:=Lib.hid (blockGo_open hv1 i o)
     have hi2:=pre_two_len hi hv1
     clear hv1 hv2
     by_cases h0:100<o+1
     ·go_wp2_with fail
      refine (prefix_at HV1 _).mono ?_
      rintro e w' ⟨rfl,⟨m3,rfl⟩⟩
      go_wp2_with fail
      refine (fail_walk 6 (HC.out.drewN _)).mono ?_
      rintro e w' ⟨rfl,⟨m4,rfl⟩⟩
      go_wp2_with fail
      refine ⟨rfl, ?_,by repeat (first|exact Drawn0.refl _|apply Drawn0.step)⟩
      rw [←HB.out,hn.out,if_pos h0]
      rfl
     ·go_wp2_with fail
      refine (prefix_at HV1 _).mono ?_
      rintro e w' ⟨rfl,⟨m3,rfl⟩⟩
      go_wp2_with fail
      go_roundw
      case rel=>exact ⟨i+2,o+1,rfl,by go_num,by omega,by omega,by omega,Lib.hid (by rw [←HB.out,hn.out,if_neg (by omega),List.drop_drop]),by repeat (first|exact Drawn0.refl _|apply Drawn0.step)⟩
      case measure=>simp [intOf];omega
   ·have hie:i=s.size:=by omega
    have HE:=Lib.hid hie
    clear hie
    go_wp2_with fail
    refine (fail_walk 13 (HC.out.drewN _)).mono ?_
    rintro e w' ⟨rfl,⟨m4,rfl⟩⟩
    go_wp2_with fail
    refine ⟨rfl, ?_,by repeat (first|exact Drawn0.refl _|apply Drawn0.step)⟩
    rw [←HB.out,HE.out,drop_end]
    rfl
 ·have hres:Hid (comment s.data.toList=.ok (lineGo s.data.toList 0)):=Lib.hid (by unfold comment;rw [if_pos hv])
  obtain ⟨i,hi⟩: ∃i:Int,Lib.indexByte s.data.toList 10=i:=⟨_,rfl⟩
  have hlen:=Lib.hid (lineGo_index s.data.toList 0)
  rw [hi,data_length] at hlen
  have HI:=Lib.hid (fun (w:World)=>Tryz.strings_IndexByte s 10 w)
  rw [show ((10:Int).toNat.toUInt8)=10 from rfl,hi] at HI
  clear hi hv
  by_cases hii:0≤i
  ·go_enter Tryz.func182,Tryz.ntmps182
   go_wp2_with fail
   go_quiet (fail)
   go_wp2_with fail
   refine (prefix_at HV _).mono ?_
   rintro e w' ⟨rfl,⟨m1,rfl⟩⟩
   go_wp2_with (go_at_call 167;go_must (refine (HI.out _).mono ?_;rintro e w' ⟨rfl,rfl⟩))
   go_ret
   refine ⟨?_,by repeat (first|exact Drawn0.refl _|apply Drawn0.step)⟩
   rw [hres.out,hlen.out,if_pos hii]
   exact ret_int (by omega)
  ·go_enter Tryz.func182,Tryz.ntmps182
   go_wp2_with fail
   go_quiet (fail)
   go_wp2_with fail
   refine (prefix_at HV _).mono ?_
   rintro e w' ⟨rfl,⟨m1,rfl⟩⟩
   go_wp2_with (go_at_call 167;go_must (refine (HI.out _).mono ?_;rintro e w' ⟨rfl,rfl⟩))
   go_ret
   refine ⟨?_,by repeat (first|exact Drawn0.refl _|apply Drawn0.step)⟩
   rw [hres.out,hlen.out,if_neg (by omega)]
   exact ret_int (by omega)
end Go.Proofs.YtipnlgmeonepfaaGreatDoor.Lx
