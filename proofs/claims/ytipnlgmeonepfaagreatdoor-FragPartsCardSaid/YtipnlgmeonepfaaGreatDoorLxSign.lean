/- The cutter's rule for signs returns what its plain form says. -/
import Derived.Test.YtipnlgmeonepfaaGreatDoorLxRules
import Derived.Test.YtipnlgmeonepfaaGreatDoorShelf
import Derived.Lib.IndexAny
set_option linter.unusedVariables false
set_option linter.unusedSimpArgs false
namespace Go.Proofs.YtipnlgmeonepfaaGreatDoor.Lx
open Go.RowKit Go.Proofs.YtipnlgmeonepfaaGreatDoorW.PrintWords

theorem bytes_all (p:UInt8→Bool) (h:(List.range 256).all (fun n=>p (UInt8.ofNat n))=true) (x:UInt8):p x=true:=by
 have:=List.all_eq_true.1 h x.toNat (List.mem_range.2 x.toNat_lt)
 simpa using this
theorem in_index (l:List UInt8) (x:UInt8):decide (0≤Lib.indexByte l x)=l.contains x:=(Lib.contains_iff_indexByte l x).symm
def signSet:List UInt8:=[40,41,91,93,123,125,44,59,46,61,60,62,43,45,42,47,38,124,126,63]
theorem cSign_eq (x:UInt8):cSign x.toNat=signSet.contains x:=
 beq_iff_eq.1 (bytes_all (fun y=>cSign y.toNat==signSet.contains y) (by decide+kernel) x)
def sg (j:Nat):ByteArray:=⟨((sign2.getD j []).toArray)⟩

theorem sign_two {s:List UInt8} (h:sign2.any (fun p=>pre p s)=true):sign s=2:=by unfold sign;rw [if_pos h]
theorem sign_one {s t:List UInt8} {c:UInt8} (h:sign2.any (fun p=>pre p s)=false) (hs:s=c::t):sign s=if cSign c.toNat then 1 else 0:=by
 subst hs
 unfold sign
 rw [if_neg (by rw [h];exact Bool.false_ne_true)]

set_option maxHeartbeats 6400000 in
theorem sign_walk (b:Nat) (s:ByteArray) (hs:s.size≤20000) (w:World):
  Calls Tryz.prog 179 #[.pointer (some ⟨b,0,none⟩),.string s] w fun e w'=>e=.returned (.int .i64 (sign s.data.toList:Nat))∧Below w.heap.size w w':=by
 obtain ⟨v0,hv0⟩: ∃v,pre ([58,61]:List UInt8) s.data.toList=v:=⟨_,rfl⟩
 have HV0:Hid (pre (⟨#[58,61]⟩:ByteArray).data.toList s.data.toList=v0):=Lib.hid hv0
 obtain ⟨v1,hv1⟩: ∃v,pre ([58,58]:List UInt8) s.data.toList=v:=⟨_,rfl⟩
 have HV1:Hid (pre (⟨#[58,58]⟩:ByteArray).data.toList s.data.toList=v1):=Lib.hid hv1
 obtain ⟨v2,hv2⟩: ∃v,pre ([61,62]:List UInt8) s.data.toList=v:=⟨_,rfl⟩
 have HV2:Hid (pre (⟨#[61,62]⟩:ByteArray).data.toList s.data.toList=v2):=Lib.hid hv2
 obtain ⟨v3,hv3⟩: ∃v,pre ([61,61]:List UInt8) s.data.toList=v:=⟨_,rfl⟩
 have HV3:Hid (pre (⟨#[61,61]⟩:ByteArray).data.toList s.data.toList=v3):=Lib.hid hv3
 obtain ⟨v4,hv4⟩: ∃v,pre ([60,61]:List UInt8) s.data.toList=v:=⟨_,rfl⟩
 have HV4:Hid (pre (⟨#[60,61]⟩:ByteArray).data.toList s.data.toList=v4):=Lib.hid hv4
 obtain ⟨v5,hv5⟩: ∃v,pre ([62,61]:List UInt8) s.data.toList=v:=⟨_,rfl⟩
 have HV5:Hid (pre (⟨#[62,61]⟩:ByteArray).data.toList s.data.toList=v5):=Lib.hid hv5
 clear hv0 hv1 hv2 hv3 hv4 hv5
 go_enter Tryz.func179,Tryz.ntmps179
 go_wp2_with fail
 go_loopw [6,9] (fun _ v9 wr=> ∃(k m:Nat),v9=.int .i64 k∧k≤6∧Hid ((sign2.take k).any (fun p=>pre p s.data.toList)=false)∧
  wr=(w.alloc (.cells #[.string ⟨#[58,61]⟩,.string ⟨#[58,58]⟩,.string ⟨#[61,62]⟩,.string ⟨#[61,61]⟩,.string ⟨#[60,61]⟩,.string ⟨#[62,61]⟩] 9)).drewN m) (fun _ v9 _=>6-(intOf v9).toNat)
 case atStart=>exact ⟨0,0,rfl,by omega,Lib.hid rfl,rfl⟩
 case round=>
  obtain ⟨k,m,rfl,hk,HK,rfl⟩:=hrel
  by_cases hlt:k<6
  ·have hcase:k=0∨k=1∨k=2∨k=3∨k=4∨k=5:=by omega
   clear hlt hk
   rcases hcase with rfl|rfl|rfl|rfl|rfl|rfl
   ·go_wp2_with fail
    refine (prefix_at HV0 _).mono ?_
    rintro e w' ⟨rfl,⟨m2,rfl⟩⟩
    cases v0
    ·go_wp2_with fail
     go_roundw
     case rel=>exact ⟨1,m+m2,rfl,by omega,Lib.hid (by have h1:=HV0.out;have h2:=HK.out;simp only [sign2,List.take_succ_cons,List.take_zero,List.any_cons,List.any_nil,Bool.or_false,Bool.or_eq_false_iff] at h2⊢;simp only [h1,h2,and_self]),rfl⟩
     case measure=>simp [intOf]
    ·go_wp2_with fail
     go_ret
     refine ⟨ret_int ?_,by repeat (first|exact below_alloc (Below.refl _ _) _|apply pw_below_drewN)⟩
     rw [sign_two (by have h1:=HV0.out;simp only [sign2,List.any_cons,h1,Bool.true_or,Bool.or_true])]
     rfl
   ·go_wp2_with fail
    refine (prefix_at HV1 _).mono ?_
    rintro e w' ⟨rfl,⟨m2,rfl⟩⟩
    cases v1
    ·go_wp2_with fail
     go_roundw
     case rel=>exact ⟨2,m+m2,rfl,by omega,Lib.hid (by have h1:=HV1.out;have h2:=HK.out;simp only [sign2,List.take_succ_cons,List.take_zero,List.any_cons,List.any_nil,Bool.or_false,Bool.or_eq_false_iff] at h2⊢;simp only [h1,h2,and_self]),rfl⟩
     case measure=>simp [intOf]
    ·go_wp2_with fail
     go_ret
     refine ⟨ret_int ?_,by repeat (first|exact below_alloc (Below.refl _ _) _|apply pw_below_drewN)⟩
     rw [sign_two (by have h1:=HV1.out;simp only [sign2,List.any_cons,h1,Bool.true_or,Bool.or_true])]
     rfl
   ·go_wp2_with fail
    refine (prefix_at HV2 _).mono ?_
    rintro e w' ⟨rfl,⟨m2,rfl⟩⟩
    cases v2
    ·go_wp2_with fail
     go_roundw
     case rel=>exact ⟨3,m+m2,rfl,by omega,Lib.hid (by have h1:=HV2.out;have h2:=HK.out;simp only [sign2,List.take_succ_cons,List.take_zero,List.any_cons,List.any_nil,Bool.or_false,Bool.or_eq_false_iff] at h2⊢;simp only [h1,h2,and_self]),rfl⟩
     case measure=>simp [intOf]
    ·go_wp2_with fail
     go_ret
     refine ⟨ret_int ?_,by repeat (first|exact below_alloc (Below.refl _ _) _|apply pw_below_drewN)⟩
     rw [sign_two (by have h1:=HV2.out;simp only [sign2,List.any_cons,h1,Bool.true_or,Bool.or_true])]
     rfl
   ·go_wp2_with fail
    refine (prefix_at HV3 _).mono ?_
    rintro e w' ⟨rfl,⟨m2,rfl⟩⟩
    cases v3
    ·go_wp2_with fail
     go_roundw
     case rel=>exact ⟨4,m+m2,rfl,by omega,Lib.hid (by have h1:=HV3.out;have h2:=HK.out;simp only [sign2,List.take_succ_cons,List.take_zero,List.any_cons,List.any_nil,Bool.or_false,Bool.or_eq_false_iff] at h2⊢;simp only [h1,h2,and_self]),rfl⟩
     case measure=>simp [intOf]
    ·go_wp2_with fail
     go_ret
     refine ⟨ret_int ?_,by repeat (first|exact below_alloc (Below.refl _ _) _|apply pw_below_drewN)⟩
     rw [sign_two (by have h1:=HV3.out;simp only [sign2,List.any_cons,h1,Bool.true_or,Bool.or_true])]
     rfl
   ·go_wp2_with fail
    refine (prefix_at HV4 _).mono ?_
    rintro e w' ⟨rfl,⟨m2,rfl⟩⟩
    cases v4
    ·go_wp2_with fail
     go_roundw
     case rel=>exact ⟨5,m+m2,rfl,by omega,Lib.hid (by have h1:=HV4.out;have h2:=HK.out;simp only [sign2,List.take_succ_cons,List.take_zero,List.any_cons,List.any_nil,Bool.or_false,Bool.or_eq_false_iff] at h2⊢;simp only [h1,h2,and_self]),rfl⟩
     case measure=>simp [intOf]
    ·go_wp2_with fail
     go_ret
     refine ⟨ret_int ?_,by repeat (first|exact below_alloc (Below.refl _ _) _|apply pw_below_drewN)⟩
     rw [sign_two (by have h1:=HV4.out;simp only [sign2,List.any_cons,h1,Bool.true_or,Bool.or_true])]
     rfl
   ·go_wp2_with fail
    refine (prefix_at HV5 _).mono ?_
    rintro e w' ⟨rfl,⟨m2,rfl⟩⟩
    cases v5
    ·go_wp2_with fail
     go_roundw
     case rel=>exact ⟨6,m+m2,rfl,by omega,Lib.hid (by have h1:=HV5.out;have h2:=HK.out;simp only [sign2,List.take_succ_cons,List.take_zero,List.any_cons,List.any_nil,Bool.or_false,Bool.or_eq_false_iff] at h2⊢;simp only [h1,h2,and_self]),rfl⟩
     case measure=>simp [intOf]
    ·go_wp2_with fail
     go_ret
     refine ⟨ret_int ?_,by repeat (first|exact below_alloc (Below.refl _ _) _|apply pw_below_drewN)⟩
     rw [sign_two (by have h1:=HV5.out;simp only [sign2,List.any_cons,h1,Bool.true_or,Bool.or_true])]
     rfl
  ·obtain rfl:k=6:=by omega
   clear hlt hk
   by_cases h0:s.size=0
   ·obtain rfl:=empty_of_size h0
    clear h0
    go_wp2_with fail
    go_ret
    exact ⟨rfl,by repeat (first|exact below_alloc (Below.refl _ _) _|apply pw_below_drewN)⟩
   ·have h0':0<s.size:=by omega
    have hemp:s.toList.isEmpty=false:=by rw [Lib.toList_data];have:=data_length s;cases hh:s.data.toList<;>simp_all
    have hd:=Lib.hid (drop_cons s 0 h0')
    have hset:Hid ((⟨#[40,41,91,93,123,125,44,59,46,61,60,62,43,45,42,47,38,124,126,63]⟩:ByteArray).data.toList=signSet):=Lib.hid rfl
    obtain ⟨i,hi⟩: ∃i:Int,Lib.indexByte signSet s[0]=i:=⟨_,rfl⟩
    have hdec:Hid (decide (0≤i)=cSign s[0].toNat):=Lib.hid (by rw [←hi,in_index,cSign_eq])
    have HI:=Lib.hid (fun (w:World)=>Tryz.strings_IndexByte ⟨#[40,41,91,93,123,125,44,59,46,61,60,62,43,45,42,47,38,124,126,63]⟩ (s[0].toNat:Int) w)
    rw [hset.out,show ((s[0].toNat:Int).toNat.toUInt8)=s[0] from by simp,hi] at HI
    clear hi h0
    by_cases hii:0≤i
    ·have hb:decide (0≤i)=true:=decide_eq_true hii
     have HB:=Lib.hid hb
     clear hb
     go_wp2_with (go_at_call 167;go_must (refine (HI.out _).mono ?_;rintro e w' ⟨rfl,rfl⟩))
     go_ret
     refine ⟨ret_int ?_,by repeat (first|exact below_alloc (Below.refl _ _) _|apply pw_below_drewN)⟩
     rw [sign_one HK.out (by have:=hd.out;rwa [List.drop_zero] at this),←hdec.out,HB.out]
     rfl
    ·have hb:decide (0≤i)=false:=decide_eq_false hii
     have HB:=Lib.hid hb
     clear hb
     go_wp2_with (go_at_call 167;go_must (refine (HI.out _).mono ?_;rintro e w' ⟨rfl,rfl⟩))
     go_ret
     refine ⟨ret_int ?_,by repeat (first|exact below_alloc (Below.refl _ _) _|apply pw_below_drewN)⟩
     rw [sign_one HK.out (by have:=hd.out;rwa [List.drop_zero] at this),←hdec.out,HB.out]
     rfl
end Go.Proofs.YtipnlgmeonepfaaGreatDoor.Lx
