/- The cutter's functions all and plain return what their plain forms say; strings.HasPrefix tells whether one list of bytes begins another. -/
import Derived.Test.YtipnlgmeonepfaaGreatDoorProg
import Derived.WalkKit
import Derived.Below
import Derived.Deep.Draws
import Derived.Deep.QuietTactic
import Derived.BigQuiet
import Derived.Outline
import Derived.Lib.Hide
import Derived.Test.YtipnlgmeonepfaaGreatDoorLxPure
import Derived.Test.YtipnlgmeonepfaaGreatDoorMoreWords
import Derived.Lib.Bytes
import Derived.Lib.Strings
set_option linter.unusedVariables false
set_option linter.unusedSimpArgs false
namespace Go.Proofs.YtipnlgmeonepfaaGreatDoor.Lx
open Go.RowKit Go.Proofs.YtipnlgmeonepfaaGreatDoorW.PrintWords

theorem ret_int {k:IntKind} {a b:Int} (h:a=b):Ending.returned (.int k a)=.returned (.int k b):=by rw [h]

/-! ### Strings and their lists -/
theorem getElem_list (s:ByteArray) (k:Nat) (h:k<s.size):s.data.toList[k]'(by rw [data_length];exact h)=s[k]:=by
 simp [ByteArray.getElem_eq_getElem_data]
theorem drop_cons (s:ByteArray) (k:Nat) (h:k<s.size):s.data.toList.drop k=s[k]::s.data.toList.drop (k+1):=by
 rw [List.drop_eq_getElem_cons (by rw [data_length];exact h),getElem_list s k h]
theorem drop_end (s:ByteArray):s.data.toList.drop s.size=[]:=List.drop_of_length_le (by rw [data_length];exact Nat.le_refl _)

theorem allN_le (T:Nat→Bool): ∀s:List UInt8,allN T s≤s.length
 |[]=>Nat.le_refl _
 |x::xs=>by unfold allN;split<;>simp<;>have:=allN_le T xs<;>omega

/-! ### The table and the cutter in memory -/
def Tab (w:World) (tb:Nat):Prop:= ∀c x:Nat,c<6→x<256→w.cell? ⟨tb,c*256+x,none⟩=some (.bool (cls c x))
theorem Tab.below {w w':World} {tb:Nat} (h:Tab w tb) (hb:Below w.heap.size w w'):Tab w' tb:=fun c x hc hx=>pw_cell_below hb (h c x hc hx)

set_option maxHeartbeats 800000 in
set_option maxRecDepth 100000 in
theorem all_walk (b tb:Nat) (s:ByteArray) (c:Nat) (hc:c<6) (hs:s.size≤20000) (w:World)
  (h1:w.cell? ⟨b,2,none⟩=some (.pointer (some ⟨tb,0,none⟩))) (htab:Tab w tb):
  Calls Tryz.prog 192 #[.pointer (some ⟨b,0,none⟩),.string s,.int .i64 (c:Int)] w
   fun e w'=>e=.returned (.int .i64 (allN (cls c) s.data.toList:Nat))∧Drawn0 w w':=by
 have HT:=Lib.hid htab
 clear htab
 have hi0:(0:Int)≤(c:Int):=by omega
 have hi1:(c:Int)<6:=by omega
 go_enter Tryz.func192,Tryz.ntmps192
 go_wp2
 go_loopg [7] (s.size) (fun kq v w'=> ∃k:Nat,v=.int .i64 k∧kq+k=s.size∧Hid (allN (cls c) s.data.toList=k+allN (cls c) (s.data.toList.drop k))∧Drawn0 w w')
 case atStart=>exact ⟨0,rfl,by omega,Lib.hid (by simp),Drawn0.refl _⟩
 case round=>
  obtain ⟨k,rfl,hk0,HK,⟨m1,rfl⟩⟩:=hrel
  have hk:k≤s.size:=by omega
  have HG:=Lib.hid hk0
  clear hk0
  by_cases hlt:k<s.size
  ·have hx:=HT.out c (s[k]).toNat hc (s[k]).toNat_lt
   have hd:decide ((k:Int)<s.size)=true:=by simpa using hlt
   have hb:((s[k].toNat:Nat):Int)<256:=by have:=(s[k]).toNat_lt;omega
   have hdc:=Lib.hid (drop_cons s k hlt)
   cases hcl:cls c s[k].toNat
   ·rw [hcl] at hx
    have HC:=Lib.hid hcl
    clear hcl
    go_wp2
    go_quiet (fail)
    go_wp2
    go_ret
    refine ⟨ret_int ?_,by repeat (first|exact Drawn0.refl _|apply Drawn0.step)⟩
    have:=HK.out
    rw [hdc.out] at this
    simp only [allN,HC.out,Bool.false_eq_true,if_false,Nat.add_zero] at this
    omega
   ·rw [hcl] at hx
    have HC:=Lib.hid hcl
    clear hcl
    go_wp2
    go_quiet (fail)
    go_wp2
    go_roundg (gk-1)
    case measure=>have:=HG.out;omega
    case rel=>
     refine ⟨k+1,by go_num,by have:=HG.out;omega,Lib.hid ?_,by repeat (first|exact Drawn0.refl _|apply Drawn0.step)⟩
     have:=HK.out
     rw [hdc.out] at this
     simp only [allN,HC.out,if_true] at this
     omega
  ·have hke:k=s.size:=by omega
   have HE:=Lib.hid hke
   clear hke
   have hd:decide ((k:Int)<s.size)=false:=by simpa using hlt
   go_wp2
   go_quiet (fail)
   go_wp2
   go_ret
   refine ⟨ret_int ?_,by repeat (first|exact Drawn0.refl _|apply Drawn0.step)⟩
   have:=HK.out
   rw [HE.out,drop_end] at this
   simp only [allN] at this
   have:=HE.out
   omega
end Go.Proofs.YtipnlgmeonepfaaGreatDoor.Lx
set_option linter.unusedVariables false
set_option linter.unusedSimpArgs false
namespace Go.Proofs.YtipnlgmeonepfaaGreatDoor.Lx
open Go.RowKit Go.Proofs.YtipnlgmeonepfaaGreatDoorW.PrintWords

theorem pre_eq (p s:List UInt8) (h:p.length≤s.length):(s.take p.length==p)=pre p s:=by
 unfold pre
 rw [Bool.eq_iff_iff,beq_iff_eq,List.isPrefixOf_iff_prefix]
 constructor
 ·intro e;exact ⟨s.drop p.length,by have h':=List.take_append_drop p.length s;rw [e] at h';exact h'⟩
 ·rintro ⟨t,rfl⟩;simp
theorem pre_short (p s:List UInt8) (h: ¬p.length≤s.length):pre p s=false:=by
 unfold pre
 cases hh:p.isPrefixOf s with
 |false=>rfl
 |true=>exact absurd (List.isPrefixOf_iff_prefix.1 hh).length_le h
theorem ret_bool {a b:Bool} (h:a=b):Ending.returned (.bool a)=.returned (.bool b):=by rw [h]

set_option maxHeartbeats 800000 in
theorem prefix_walk (s p:ByteArray) (w:World):
  Calls Tryz.prog 193 #[.string s,.string p] w fun e w'=>e=.returned (.bool (pre p.data.toList s.data.toList))∧Drawn0 w w':=by
 by_cases h:p.size≤s.size
 ·go_enter Tryz.func193,Tryz.ntmps193
  go_wp2
  go_ret
  refine ⟨ret_bool ?_,Drawn0.refl _⟩
  rw [←pre_eq _ _ (by rw [data_length,data_length];exact h)]
  show ((s.extract 0 p.size).toList==p.toList)=_
  rw [Lib.toList_data,Lib.toList_data,Lib.extract_data,data_length]
  rfl
 ·go_enter Tryz.func193,Tryz.ntmps193
  go_wp2
  go_ret
  refine ⟨ret_bool ?_,Drawn0.refl _⟩
  rw [pre_short _ _ (by rw [data_length,data_length];exact h)]
theorem prefix_at {s p:ByteArray} {v:Bool} (h:Hid (pre p.data.toList s.data.toList=v)) (w:World):
  Calls Tryz.prog 193 #[.string s,.string p] w fun e w'=>e=.returned (.bool v)∧Drawn0 w w':=h.out▸prefix_walk s p w
end Go.Proofs.YtipnlgmeonepfaaGreatDoor.Lx
