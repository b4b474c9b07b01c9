/- The reference's small functions: Find, member, begins, plain, colon, blank. No condition but bounds on lengths. -/
import Derived.Test.YtipnlgmeonepfaaGreatDoorProg
import Derived.Test.YtipnlgmeonepfaaGreatDoorMoreWords
import Derived.Test.YtipnlgmeonepfaaGreatDoorRBest4
import Derived.WalkKit
import Derived.Below
import Derived.Outline
import Derived.Lib.Hide
import Derived.IntWalk
import Derived.WalkLawsBesides
import Derived.WalkSmall
import Derived.Lib.Bytes
import Derived.Lib.Strings
import Derived.Deep.LoopGhost
import Derived.Deep.QuietTactic
import Derived.BigQuiet
set_option linter.unusedVariables false
set_option linter.unusedSimpArgs false
namespace Go.Proofs.YtipnlgmeonepfaaGreatDoor.Ref
open Go.RowKit Go.Proofs.YtipnlgmeonepfaaGreatDoorW.PrintWords Go.Proofs.YtipnlgmeonepfaaGreatDoorW.PrintMore
attribute [local go_sem] max2_int min2_int max_two min_two max_three min_three max_four min_four

/-- The first index of a byte from a place on; -1 if it is not there. -/
def findN:List UInt8→Nat→Nat→Int
 |[],_,_=> -1
 |x::xs,c,i=>if x.toNat=c then (i:Int) else findN xs c (i+1)
theorem find_step (s:List UInt8) (c n:Nat) (h:n<s.length):findN (s.drop n) c n=if (s[n]).toNat=c then (n:Int) else findN (s.drop (n+1)) c (n+1):=by
 rw [List.drop_eq_getElem_cons h]
 rfl
theorem get_list (a:ByteArray) (i:Nat) (h:i<a.size):a.data.toList[i]'(by simpa using h)=a[i]:=rfl
set_option maxHeartbeats 1600000 in
theorem find_walk (s:ByteArray) (c:Nat) (hs:s.size≤20000) (w:World):
  Calls Tryz.prog 108 #[.string s,.int .u8 c] w fun e w'=>e=.returned (.int .i64 (findN s.data.toList c 0))∧w=w':=by
 obtain ⟨F,hF⟩: ∃F,findN s.data.toList c 0=F:=⟨_,rfl⟩
 have HF:=Lib.hid hF
 rw [hF]
 clear hF
 go_enter Tryz.func108,Tryz.ntmps108
 go_wp2
 go_loopg [5] (s.size) (fun kq v wr=> ∃n:Nat,v=.int .i64 n∧kq+n=s.size∧Hid (findN (s.data.toList.drop n) c n=F)∧wr=w)
 case atStart=>exact ⟨0,rfl,by omega,HF,rfl⟩
 case round=>
  obtain ⟨n,rfl,hk,HN,rfl⟩:=hrel
  have hle:n≤s.size:=by omega
  have HK:=Lib.hid hk
  clear hk
  by_cases hlt:n<s.size
  ·have hd4:decide ((n:Int)<s.size)=true:=decide_eq_true (by omega)
   have hstep:=Lib.hid (find_step s.data.toList c n (by simpa using hlt))
   have hget:=Lib.hid (get_list s n hlt)
   by_cases hc:(s[n]'hlt).toNat=c
   ·have hx:(((s[n]'hlt).toNat:Int)==(c:Int))=true:=by rw [beq_iff_eq];omega
    have HE:Hid (F=n):=Lib.hid (by have:=HN.out;rw [hstep.out,hget.out,if_pos hc] at this;exact this.symm)
    clear hc hstep hget HN
    go_wp2
    go_ret
    exact ⟨by rw [HE.out];rfl,rfl⟩
   ·have hx:(((s[n]'hlt).toNat:Int)==(c:Int))=false:=by rw [beq_eq_false_iff_ne];omega
    have HE:Hid (findN (s.data.toList.drop (n+1)) c (n+1)=F):=Lib.hid (by have:=HN.out;rw [hstep.out,hget.out,if_neg hc] at this;exact this)
    clear hc hstep hget HN
    have hw5:IntKind.i64.wrap ((n:Int)+1)=(n:Int)+1:=IntWalk.i64_in _ (by omega)
    go_wp2
    go_roundg (gk-1)
    case measure=>have:=HK.out;omega
    case rel=>exact ⟨n+1,by go_num,by have:=HK.out;omega,HE,rfl⟩
  ·have hd4:decide ((n:Int)<s.size)=false:=decide_eq_false (by omega)
   have HE:Hid (F= -1):=Lib.hid (by
    have:=HN.out
    rw [List.drop_of_length_le (by simp;omega)] at this
    exact this.symm)
   clear HN
   go_wp2
   go_ret
   exact ⟨by rw [HE.out];rfl,rfl⟩

/-! ### member -/
def inW (x:Nat):Bool:=decide (0≤findN [33,36,38,42,60,62,124,94,37,95,126,63,43,45,47,61] x 0)
def inF (x:Nat):Bool:=decide (0≤findN [33,36,38,42,60,62,124,94,37,95,126,63] x 0)
def inB (x:Nat):Bool:=decide (0≤findN [60,36,37,42,95] x 0)
theorem mem_tab (x:Nat) (h:x<256):Lx.mem 76 x=Lx.cL x∧Lx.mem 68 x=Lx.cD x∧Lx.mem 87 x=(Lx.cL x||Lx.cD x||inW x)∧Lx.mem 70 x=(Lx.cL x||Lx.cD x||inF x)∧Lx.mem 66 x=inB x∧Lx.mem 81 x=(Lx.cL x||Lx.cD x||x==45)∧Lx.mem 65 x=(Lx.cL x||Lx.cD x):=by
 have:=(by decide+kernel: ∀y:Fin 256,Lx.mem 76 y.val=Lx.cL y.val∧Lx.mem 68 y.val=Lx.cD y.val∧Lx.mem 87 y.val=(Lx.cL y.val||Lx.cD y.val||inW y.val)∧Lx.mem 70 y.val=(Lx.cL y.val||Lx.cD y.val||inF y.val)∧Lx.mem 66 y.val=inB y.val∧Lx.mem 81 y.val=(Lx.cL y.val||Lx.cD y.val||y.val==45)∧Lx.mem 65 y.val=(Lx.cL y.val||Lx.cD y.val)) ⟨x,h⟩
 exact this
/-- What the walk of member asks of the byte. -/
def Ranged (x:Nat) (p1 p2 p3 p4:Bool):Prop:=decide ((97:Int)≤x)=p1∧decide ((x:Int)≤122)=p2∧decide ((48:Int)≤x)=p3∧decide ((x:Int)≤57)=p4
theorem ranged (x:Nat):(Ranged x true true true false∧Lx.cL x=true∧Lx.cD x=false)∨(Ranged x true false true false∧Lx.cL x=false∧Lx.cD x=false)∨(Ranged x false true true false∧Lx.cL x=false∧Lx.cD x=false)∨(Ranged x false true true true∧Lx.cL x=false∧Lx.cD x=true)∨(Ranged x false true false true∧Lx.cL x=false∧Lx.cD x=false):=by
 simp only [Ranged,Lx.cL,Lx.cD,decide_eq_true_eq,decide_eq_false_iff_not,Bool.and_eq_true,Bool.and_eq_false_iff]
 omega
theorem is45 (x:Nat):(((x:Int))==45)=(x==45):=by
 rw [Bool.eq_iff_iff,beq_iff_eq,beq_iff_eq];omega
theorem isK (x k:Nat):(((x:Int))==(k:Int))=(x==k):=by
 rw [Bool.eq_iff_iff,beq_iff_eq,beq_iff_eq];omega
theorem notK {k n:Nat} (h:k≠n):((k:Int)==(n:Int))=false:=by
 rw [beq_eq_false_iff_ne];omega
set_option maxHeartbeats 6400000 in
theorem member_walk_L (k x:Nat) (hk:k=76) (hx:x<256) (w:World):
  Calls Tryz.prog 125 #[.int .u8 k,.int .u8 x] w fun e w'=>e=.returned (.bool (Lx.mem k x))∧w=w':=by
 obtain ⟨b,hb⟩: ∃b,Lx.mem k x=b:=⟨_,rfl⟩
 have HB:=Lib.hid hb
 rw [hb]
 clear hb
 subst hk
 have HT:=Lib.hid (mem_tab x hx)
 rcases ranged x with ⟨⟨d1,d2,d3,d4⟩,hL,hD⟩|⟨⟨d1,d2,d3,d4⟩,hL,hD⟩|⟨⟨d1,d2,d3,d4⟩,hL,hD⟩|⟨⟨d1,d2,d3,d4⟩,hL,hD⟩|⟨⟨d1,d2,d3,d4⟩,hL,hD⟩
 all_goals
  have HL:=Lib.hid hL
  have HD:=Lib.hid hD
  clear hL hD
  go_enter Tryz.func125,Tryz.ntmps125
  go_wp2_with (go_at_call 108;refine (find_walk _ _ (by decide) _).mono ?_;rintro e w' ⟨rfl,rfl⟩)
  go_ret
  refine ⟨?_,rfl⟩
  rw [←HB.out]
  refine congrArg (fun z=>Ending.returned (.bool z)) (Eq.symm ?_)
  rw [HT.out.1,HL.out]
set_option maxHeartbeats 6400000 in
theorem member_walk_D (k x:Nat) (hk:k=68) (hx:x<256) (w:World):
  Calls Tryz.prog 125 #[.int .u8 k,.int .u8 x] w fun e w'=>e=.returned (.bool (Lx.mem k x))∧w=w':=by
 obtain ⟨b,hb⟩: ∃b,Lx.mem k x=b:=⟨_,rfl⟩
 have HB:=Lib.hid hb
 rw [hb]
 clear hb
 subst hk
 have HT:=Lib.hid (mem_tab x hx)
 rcases ranged x with ⟨⟨d1,d2,d3,d4⟩,hL,hD⟩|⟨⟨d1,d2,d3,d4⟩,hL,hD⟩|⟨⟨d1,d2,d3,d4⟩,hL,hD⟩|⟨⟨d1,d2,d3,d4⟩,hL,hD⟩|⟨⟨d1,d2,d3,d4⟩,hL,hD⟩
 all_goals
  have HL:=Lib.hid hL
  have HD:=Lib.hid hD
  clear hL hD
  go_enter Tryz.func125,Tryz.ntmps125
  go_wp2_with (go_at_call 108;refine (find_walk _ _ (by decide) _).mono ?_;rintro e w' ⟨rfl,rfl⟩)
  go_ret
  refine ⟨?_,rfl⟩
  rw [←HB.out]
  refine congrArg (fun z=>Ending.returned (.bool z)) (Eq.symm ?_)
  rw [HT.out.2.1,HD.out]
set_option maxHeartbeats 6400000 in
theorem member_walk_W (k x:Nat) (hk:k=87) (hx:x<256) (w:World):
  Calls Tryz.prog 125 #[.int .u8 k,.int .u8 x] w fun e w'=>e=.returned (.bool (Lx.mem k x))∧w=w':=by
 obtain ⟨b,hb⟩: ∃b,Lx.mem k x=b:=⟨_,rfl⟩
 have HB:=Lib.hid hb
 rw [hb]
 clear hb
 subst hk
 have HT:=Lib.hid (mem_tab x hx)
 rcases ranged x with ⟨⟨d1,d2,d3,d4⟩,hL,hD⟩|⟨⟨d1,d2,d3,d4⟩,hL,hD⟩|⟨⟨d1,d2,d3,d4⟩,hL,hD⟩|⟨⟨d1,d2,d3,d4⟩,hL,hD⟩|⟨⟨d1,d2,d3,d4⟩,hL,hD⟩
 all_goals
  have HL:=Lib.hid hL
  have HD:=Lib.hid hD
  clear hL hD
  go_enter Tryz.func125,Tryz.ntmps125
  go_wp2_with (go_at_call 108;refine (find_walk _ _ (by decide) _).mono ?_;rintro e w' ⟨rfl,rfl⟩)
  go_ret
  refine ⟨?_,rfl⟩
  rw [←HB.out]
  refine congrArg (fun z=>Ending.returned (.bool z)) (Eq.symm ?_)
  rw [HT.out.2.2.1,HL.out,HD.out]
  rfl
set_option maxHeartbeats 6400000 in
theorem member_walk_F (k x:Nat) (hk:k=70) (hx:x<256) (w:World):
  Calls Tryz.prog 125 #[.int .u8 k,.int .u8 x] w fun e w'=>e=.returned (.bool (Lx.mem k x))∧w=w':=by
 obtain ⟨b,hb⟩: ∃b,Lx.mem k x=b:=⟨_,rfl⟩
 have HB:=Lib.hid hb
 rw [hb]
 clear hb
 subst hk
 have HT:=Lib.hid (mem_tab x hx)
 rcases ranged x with ⟨⟨d1,d2,d3,d4⟩,hL,hD⟩|⟨⟨d1,d2,d3,d4⟩,hL,hD⟩|⟨⟨d1,d2,d3,d4⟩,hL,hD⟩|⟨⟨d1,d2,d3,d4⟩,hL,hD⟩|⟨⟨d1,d2,d3,d4⟩,hL,hD⟩
 all_goals
  have HL:=Lib.hid hL
  have HD:=Lib.hid hD
  clear hL hD
  go_enter Tryz.func125,Tryz.ntmps125
  go_wp2_with (go_at_call 108;refine (find_walk _ _ (by decide) _).mono ?_;rintro e w' ⟨rfl,rfl⟩)
  go_ret
  refine ⟨?_,rfl⟩
  rw [←HB.out]
  refine congrArg (fun z=>Ending.returned (.bool z)) (Eq.symm ?_)
  rw [HT.out.2.2.2.1,HL.out,HD.out]
  rfl
set_option maxHeartbeats 6400000 in
theorem member_walk_B (k x:Nat) (hk:k=66) (hx:x<256) (w:World):
  Calls Tryz.prog 125 #[.int .u8 k,.int .u8 x] w fun e w'=>e=.returned (.bool (Lx.mem k x))∧w=w':=by
 obtain ⟨b,hb⟩: ∃b,Lx.mem k x=b:=⟨_,rfl⟩
 have HB:=Lib.hid hb
 rw [hb]
 clear hb
 subst hk
 have HT:=Lib.hid (mem_tab x hx)
 rcases ranged x with ⟨⟨d1,d2,d3,d4⟩,hL,hD⟩|⟨⟨d1,d2,d3,d4⟩,hL,hD⟩|⟨⟨d1,d2,d3,d4⟩,hL,hD⟩|⟨⟨d1,d2,d3,d4⟩,hL,hD⟩|⟨⟨d1,d2,d3,d4⟩,hL,hD⟩
 all_goals
  have HL:=Lib.hid hL
  have HD:=Lib.hid hD
  clear hL hD
  go_enter Tryz.func125,Tryz.ntmps125
  go_wp2_with (go_at_call 108;refine (find_walk _ _ (by decide) _).mono ?_;rintro e w' ⟨rfl,rfl⟩)
  go_ret
  refine ⟨?_,rfl⟩
  rw [←HB.out]
  refine congrArg (fun z=>Ending.returned (.bool z)) (Eq.symm ?_)
  rw [HT.out.2.2.2.2.1]
  rfl
set_option maxHeartbeats 6400000 in
theorem member_walk_Q (k x:Nat) (hk:k=81) (hx:x<256) (w:World):
  Calls Tryz.prog 125 #[.int .u8 k,.int .u8 x] w fun e w'=>e=.returned (.bool (Lx.mem k x))∧w=w':=by
 obtain ⟨b,hb⟩: ∃b,Lx.mem k x=b:=⟨_,rfl⟩
 have HB:=Lib.hid hb
 rw [hb]
 clear hb
 subst hk
 have HT:=Lib.hid (mem_tab x hx)
 rcases ranged x with ⟨⟨d1,d2,d3,d4⟩,hL,hD⟩|⟨⟨d1,d2,d3,d4⟩,hL,hD⟩|⟨⟨d1,d2,d3,d4⟩,hL,hD⟩|⟨⟨d1,d2,d3,d4⟩,hL,hD⟩|⟨⟨d1,d2,d3,d4⟩,hL,hD⟩
 all_goals
  have HL:=Lib.hid hL
  have HD:=Lib.hid hD
  clear hL hD
  go_enter Tryz.func125,Tryz.ntmps125
  go_wp2_with (go_at_call 108;refine (find_walk _ _ (by decide) _).mono ?_;rintro e w' ⟨rfl,rfl⟩)
  go_ret
  refine ⟨?_,rfl⟩
  rw [←HB.out]
  refine congrArg (fun z=>Ending.returned (.bool z)) (Eq.symm ?_)
  rw [HT.out.2.2.2.2.2.1,HL.out,HD.out]
  (first|rfl|exact (is45 x).symm|(rw [←is45 x];rfl))
set_option maxHeartbeats 6400000 in
theorem member_walk_A (k x:Nat) (hk:k=65) (hx:x<256) (w:World):
  Calls Tryz.prog 125 #[.int .u8 k,.int .u8 x] w fun e w'=>e=.returned (.bool (Lx.mem k x))∧w=w':=by
 obtain ⟨b,hb⟩: ∃b,Lx.mem k x=b:=⟨_,rfl⟩
 have HB:=Lib.hid hb
 rw [hb]
 clear hb
 subst hk
 have HT:=Lib.hid (mem_tab x hx)
 rcases ranged x with ⟨⟨d1,d2,d3,d4⟩,hL,hD⟩|⟨⟨d1,d2,d3,d4⟩,hL,hD⟩|⟨⟨d1,d2,d3,d4⟩,hL,hD⟩|⟨⟨d1,d2,d3,d4⟩,hL,hD⟩|⟨⟨d1,d2,d3,d4⟩,hL,hD⟩
 all_goals
  have HL:=Lib.hid hL
  have HD:=Lib.hid hD
  clear hL hD
  go_enter Tryz.func125,Tryz.ntmps125
  go_wp2_with (go_at_call 108;refine (find_walk _ _ (by decide) _).mono ?_;rintro e w' ⟨rfl,rfl⟩)
  go_ret
  refine ⟨?_,rfl⟩
  rw [←HB.out]
  refine congrArg (fun z=>Ending.returned (.bool z)) (Eq.symm ?_)
  rw [HT.out.2.2.2.2.2.2,HL.out,HD.out]
  rfl
set_option maxHeartbeats 6400000 in
theorem member_walk_X (k x:Nat) (hk:k≠76∧k≠68∧k≠87∧k≠70∧k≠66∧k≠81∧k≠65) (hx:x<256) (w:World):
  Calls Tryz.prog 125 #[.int .u8 k,.int .u8 x] w fun e w'=>e=.returned (.bool (Lx.mem k x))∧w=w':=by
 obtain ⟨b,hb⟩: ∃b,Lx.mem k x=b:=⟨_,rfl⟩
 have HB:=Lib.hid hb
 rw [hb]
 clear hb
 have HK:=Lib.hid hk
 clear hk
 have k76:((k:Int)==76)=false:=notK (n:=76) (HK.out.1)
 have k68:((k:Int)==68)=false:=notK (n:=68) (HK.out.2.1)
 have k87:((k:Int)==87)=false:=notK (n:=87) (HK.out.2.2.1)
 have k70:((k:Int)==70)=false:=notK (n:=70) (HK.out.2.2.2.1)
 have k66:((k:Int)==66)=false:=notK (n:=66) (HK.out.2.2.2.2.1)
 have k81:((k:Int)==81)=false:=notK (n:=81) (HK.out.2.2.2.2.2.1)
 have k65:((k:Int)==65)=false:=notK (n:=65) (HK.out.2.2.2.2.2.2)
 rcases ranged x with ⟨⟨d1,d2,d3,d4⟩,hL,hD⟩|⟨⟨d1,d2,d3,d4⟩,hL,hD⟩|⟨⟨d1,d2,d3,d4⟩,hL,hD⟩|⟨⟨d1,d2,d3,d4⟩,hL,hD⟩|⟨⟨d1,d2,d3,d4⟩,hL,hD⟩
 all_goals
  have HL:=Lib.hid hL
  have HD:=Lib.hid hD
  clear hL hD
  go_enter Tryz.func125,Tryz.ntmps125
  go_wp2_with (go_at_call 108;refine (find_walk _ _ (by decide) _).mono ?_;rintro e w' ⟨rfl,rfl⟩)
  go_ret
  refine ⟨?_,rfl⟩
  rw [←HB.out]
  refine congrArg (fun z=>Ending.returned (.bool z)) (Eq.symm ?_)
  unfold Lx.mem
  rw [if_neg (HK.out.1),if_neg (HK.out.2.1),if_neg (HK.out.2.2.1),if_neg (HK.out.2.2.2.1),if_neg (HK.out.2.2.2.2.1),if_neg (HK.out.2.2.2.2.2.1),if_neg (HK.out.2.2.2.2.2.2)]
  exact (isK x k).symm
theorem member_walk (k x:Nat) (hx:x<256) (w:World):
  Calls Tryz.prog 125 #[.int .u8 k,.int .u8 x] w fun e w'=>e=.returned (.bool (Lx.mem k x))∧w=w':=by
 by_cases h76:k=76
 ·exact member_walk_L k x h76 hx w
 by_cases h68:k=68
 ·exact member_walk_D k x h68 hx w
 by_cases h87:k=87
 ·exact member_walk_W k x h87 hx w
 by_cases h70:k=70
 ·exact member_walk_F k x h70 hx w
 by_cases h66:k=66
 ·exact member_walk_B k x h66 hx w
 by_cases h81:k=81
 ·exact member_walk_Q k x h81 hx w
 by_cases h65:k=65
 ·exact member_walk_A k x h65 hx w
 exact member_walk_X k x ⟨h76,h68,h87,h70,h66,h81,h65⟩ hx w

/-! ### begins, plain, colon, blank -/
def beginN (s:ByteArray) (at_:Nat):ByteArray:=s.extract at_ (min s.size (at_+100))
theorem begins_walk (s:ByteArray) (at_:Nat) (hs:s.size≤20000) (h:at_≤s.size) (w:World):
  Calls Tryz.prog 151 #[.string s,.int .i64 at_] w fun e w'=>e=.returned (.string (beginN s at_))∧w=w':=by
 obtain ⟨T,hT⟩: ∃T,beginN s at_=T:=⟨_,rfl⟩
 have HT:=Lib.hid hT
 rw [hT]
 clear hT
 have hw:IntKind.i64.wrap ((at_:Int)+100)=(at_:Int)+100:=IntWalk.i64_in _ (by omega)
 have hi:(0:Int)≤at_:=by omega
 by_cases hl:s.size≤at_+100
 ·have hd1:decide ((at_:Int)+100<s.size)=false:=decide_eq_false (by omega)
  have hb1:(at_:Int)≤s.size:=by omega
  have HE:Hid (s.extract at_ s.size=T):=Lib.hid (by rw [←HT.out];unfold beginN;rw [show min s.size (at_+100)=s.size from by omega])
  clear HT
  go_enter Tryz.func151,Tryz.ntmps151
  go_wp2
  go_ret
  exact ⟨by rw [←HE.out];rfl,rfl⟩
 ·have hd1:decide ((at_:Int)+100<s.size)=true:=decide_eq_true (by omega)
  have hb1:(at_:Int)≤(at_:Int)+100:=by omega
  have hb2:(at_:Int)+100≤s.size:=by omega
  have ht:((at_:Int)+100).toNat=at_+100:=by omega
  have HE:Hid (s.extract at_ (at_+100)=T):=Lib.hid (by rw [←HT.out];unfold beginN;rw [show min s.size (at_+100)=at_+100 from by omega])
  clear HT
  go_enter Tryz.func151,Tryz.ntmps151
  go_wp2
  go_ret
  exact ⟨by rw [←HE.out];rfl,rfl⟩
theorem begin_list (s:ByteArray) (at_:Nat) (h:at_≤s.size):(beginN s at_).data.toList=Lx.win (s.data.toList.drop at_):=by
 unfold beginN Lx.win
 rw [Lib.extract_data]
 by_cases hl:s.size≤at_+100
 ·rw [show min s.size (at_+100)=s.size from by omega,List.take_of_length_le (by rw [List.length_drop,data_length];omega),List.take_of_length_le (by rw [List.length_drop,data_length];omega)]
 ·rw [show min s.size (at_+100)=at_+100 from by omega,show at_+100-at_=100 from by omega]
def plainCells:Array Value:= #[.string ⟨#[76]⟩,.string ⟨#[76,87,42,70]⟩,.string ⟨#[66,87,42,76]⟩,.string ⟨#[66,87,42,76,87,42,70]⟩]
theorem plain_walk (w:World):
  Calls Tryz.prog 149 #[] w fun e w'=>e=.returned (.slice (some ⟨w.heap.size,0,none⟩) 4 4)∧w'=w.alloc (.cells plainCells 9):=by
 go_enter Tryz.func149,Tryz.ntmps149
 go_wp2
 go_ret
 exact ⟨rfl,rfl⟩
theorem byte_list (s:ByteArray) (i:Nat) (h:i<s.size):Lx.byteAt s.data.toList i=(s[i]'h).toNat:=by
 unfold Lx.byteAt
 rw [List.getD_eq_getElem?_getD,List.getElem?_eq_getElem (by rw [data_length];exact h)]
 rfl
theorem colon_walk (s:ByteArray) (at_:Nat) (hs:s.size≤20000) (h:at_≤20100) (w:World):
  Calls Tryz.prog 163 #[.string s,.int .i64 at_] w fun e w'=>e=.returned (.bool (Lx.after s.data.toList at_))∧w=w':=by
 obtain ⟨b,hb⟩: ∃b,Lx.after s.data.toList at_=b:=⟨_,rfl⟩
 have HB:=Lib.hid hb
 rw [hb]
 clear hb
 have hw:IntKind.i64.wrap ((at_:Int)+1)=(at_:Int)+1:=IntWalk.i64_in _ (by omega)
 have hi:(0:Int)≤(at_:Int)+1:=by omega
 by_cases hl:at_+1<s.size
 ·have hd1:decide ((at_:Int)+1<s.size)=true:=decide_eq_true (by omega)
  have ht:((at_:Int)+1).toNat=at_+1:=by omega
  have hb:=byte_list s (at_+1) hl
  by_cases h58:(s[at_+1]'hl).toNat=58
  ·have hx:(((s[at_+1]'hl).toNat:Int)==58)=true:=by rw [beq_iff_eq];omega
   have HE:Hid (b=true):=Lib.hid (by rw [←HB.out];unfold Lx.after;rw [hb,h58];rfl)
   clear HB hb h58
   go_enter Tryz.func163,Tryz.ntmps163
   go_wp2
   go_ret
   exact ⟨by rw [HE.out];rfl,rfl⟩
  ·have hx:(((s[at_+1]'hl).toNat:Int)==58)=false:=by rw [beq_eq_false_iff_ne];omega
   have HE:Hid (b=((s[at_+1]'hl).toNat==61)):=Lib.hid (by
    rw [←HB.out]
    unfold Lx.after
    rw [hb,show ((s[at_+1]'hl).toNat==58)=false from by simpa using h58,Bool.false_or])
   clear HB hb h58
   go_enter Tryz.func163,Tryz.ntmps163
   go_wp2
   go_ret
   exact ⟨by rw [HE.out,←isK];rfl,rfl⟩
 ·have hd1:decide ((at_:Int)+1<s.size)=false:=decide_eq_false (by omega)
  have HE:Hid (b=false):=Lib.hid (by rw [←HB.out];unfold Lx.after;rw [Lx.byteAt_end (by rw [data_length];omega)];rfl)
  clear HB
  go_enter Tryz.func163,Tryz.ntmps163
  go_wp2
  go_ret
  exact ⟨by rw [HE.out];rfl,rfl⟩
theorem blank_walk (x:Nat) (w:World):
  Calls Tryz.prog 139 #[.int .u8 x] w fun e w'=>e=.returned (.bool (Lx.cBlank x))∧w=w':=by
 obtain ⟨b,hb⟩: ∃b,Lx.cBlank x=b:=⟨_,rfl⟩
 have hb':b=(((x:Int)==32)||(((x:Int)==9)||(((x:Int)==10)||((x:Int)==13)))):=by
  rw [←hb,Bool.eq_iff_iff]
  simp [Lx.cBlank]
  omega
 have HB:=Lib.hid hb'
 rw [hb]
 clear hb hb'
 by_cases h1:(x:Int)==32
 ·have h1':((x:Int)==32)=true:=h1
  have HE:Hid (b=true):=Lib.hid (by rw [HB.out,h1'];rfl)
  clear HB h1
  go_enter Tryz.func139,Tryz.ntmps139
  go_wp2
  go_ret
  exact ⟨by rw [HE.out];rfl,rfl⟩
 have h1':((x:Int)==32)=false:=by simpa using h1
 by_cases h2:(x:Int)==9
 ·have h2':((x:Int)==9)=true:=h2
  have HE:Hid (b=true):=Lib.hid (by rw [HB.out,h1',h2'];rfl)
  clear HB h1 h2
  go_enter Tryz.func139,Tryz.ntmps139
  go_wp2
  go_ret
  exact ⟨by rw [HE.out];rfl,rfl⟩
 have h2':((x:Int)==9)=false:=by simpa using h2
 by_cases h3:(x:Int)==10
 ·have h3':((x:Int)==10)=true:=h3
  have HE:Hid (b=true):=Lib.hid (by rw [HB.out,h1',h2',h3'];rfl)
  clear HB h1 h2 h3
  go_enter Tryz.func139,Tryz.ntmps139
  go_wp2
  go_ret
  exact ⟨by rw [HE.out];rfl,rfl⟩
 have h3':((x:Int)==10)=false:=by simpa using h3
 have HE:Hid (b=((x:Int)==13)):=Lib.hid (by rw [HB.out,h1',h2',h3'];simp only [Bool.false_or])
 clear HB h1 h2 h3
 go_enter Tryz.func139,Tryz.ntmps139
 go_wp2
 go_ret
 exact ⟨by rw [HE.out];rfl,rfl⟩
end Go.Proofs.YtipnlgmeonepfaaGreatDoor.Ref
